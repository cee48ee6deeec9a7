/- Texts that the proof needs, part 6. -/
import Derived.Test.YtghhjjmjpeehdaaGreatK5
namespace Go.Proofs.YtghhjjmjpeehdaaGreat
open Bk Go Tryz
set_option linter.unusedVariables false
set_option linter.unusedSimpArgs false
set_option maxRecDepth 10000
set_option maxHeartbeats 1000000 in
theorem o_r6_cut {w0 : World} {h0 : Mem}  (hs : MLe h0 (mem w0)) {k n m : Nat} {vl : Value} {l : (List (T3 Rat))} (rl : (rpS (rpT (rpQ k))).Is h0 vl l) {vs : Value} {s : ((T3 Rat) × Rat)} (rs : (rpP (rpT (rpQ n)) (rpQ m)).Is h0 vs s) (hcd0 : k ≤ 50000000) (hcd1 : m ≤ 1000000) (hcd2 : n ≤ 1000000) (hcd3 : l.length ≤ 100000)  :
    Calls Tryz.prog 15 #[vl, vs] w0 (Ret w0 h0 (fun h r => ∃ u0 u1, r = .tuple #[u0, u1] ∧ (rpS (rpT (rpQ (12 * k + 3 * m + 9 * n + 62)))).Is h u0 (tB s l) ∧ (rpS (rpT (rpQ (12 * k + 3 * m + 9 * n + 62)))).Is h u1 (tA s l))) := by
 refine zP (n := 97) (e := [(0, vl), (1, vs)]) (vs := [vl, vs]) func15 rfl rfl (bL rfl) hs e2z (zC (zA (zK (yW (ρ := (rpP (rpT (rpQ n)) (rpQ m))) rfl rs) rfl rfl rfl ?_)))
 intro v3 q3 hq3
 obtain ⟨b3, cs3, rfl, rfl, rb3⟩ := hq3
 refine asg rfl rfl (asg rfl rfl (zD (zB (zC (zA (asg rfl rfl (asg rfl rfl (zD (zB (zC (zA (asg rfl rfl (asg rfl rfl ?_)))))))))))))
 refine zD (zB (zC (zC (zA (asg (v := vI (0)) rfl rfl (zD (zB (zS (aA 32 9 ?_)))))))))
 have rl_1 : RL (rpT (rpQ (12 * k + 3 * m + 9 * n + 62))) h0 [] ([] : List (T3 Rat)) := RL.nil
 refine aA 32 9 ?_
 have rl_2 : RL (rpT (rpQ (12 * k + 3 * m + 9 * n + 62))) h0 [] ([] : List (T3 Rat)) := RL.nil
 refine wT (ι := Nat × List (T3 Rat) × List (T3 Rat) × Value × List Value × Value × List Value × Mem) (fun (i, B, F, s6_3, cs_4, s7_6, cs_7, mb) => MLe h0 mb ∧ (RL (rpT (rpQ (12 * k + 3 * m + 9 * n + 62))) mb cs_4 B ∧ RL (rpT (rpQ (12 * k + 3 * m + 9 * n + 62))) mb cs_7 F ∧ (i ≤ l.length ∧ B = bN s l i) ∧ F = bI s l i)) (fun (i, B, F, s6_3, cs_4, s7_6, cs_7, mb) => [(0, vl), (3, vP b3 0), (6, s6_3), (7, s7_6), (8, vB (qN s l i)), (9, vB (qG s l i)), (10, vI ↑i)]) (fun (i, B, F, s6_3, cs_4, s7_6, cs_7, mb) => [.gs 32 9 s7_6 F.length cs_7, .gs 32 9 s6_3 B.length cs_4, .var b3 34 cs3]) (fun (i, B, F, s6_3, cs_4, s7_6, cs_7, mb) => mb) (fun (i, B, F, s6_3, cs_4, s7_6, cs_7, mb) => l.length - i) (0, [], [], (.slice none 0 0), [], (.slice none 0 0), [], h0) ?_ ⟨?_, ?_, ?_, ?_, ?_, ?_, ?_, trivial⟩ rfl rfl ?_
 ·
  refine ⟨MLe.refl _, ?_⟩
  refine ⟨rl_1, rl_2, ?_⟩
  exact ⟨⟨by omega, rfl⟩, rfl⟩
 · exact rfl
 · exact rfl
 · exact rfl
 · exact rfl
 · exact congrArg some (yS id).symm
 · exact congrArg some (yS id).symm
 · exact rfl
 intro x hx
 obtain ⟨i, B, F, s6_3, cs_4, s7_6, cs_7, mb⟩ := x
 obtain ⟨hmmb, hinv⟩ := hx
 show GC _ _ _ _ _ _ [(0, vl), (3, vP b3 0), (6, s6_3), (7, s7_6), (8, vB (qN s l i)), (9, vB (qG s l i)), (10, vI ↑i)] [.gs 32 9 s7_6 F.length cs_7, .gs 32 9 s6_3 B.length cs_4, .var b3 34 cs3] mb
 obtain ⟨rl_5, rl_8, hinv⟩ := hinv
 obtain ⟨⟨hi1, hB⟩, hF⟩ := hinv
 have hbl := j2 s l i
 have hfl := u6 s l i
 have hBl : B.length ≤ 2 * i := by rw [hB]; exact hbl
 have hFl : F.length ≤ 2 * i := by rw [hF]; exact hfl
 refine zC (zC (zA (mv rfl rfl (mv rfl rfl ?_))))
 replace rl := rl.mono hmmb
 refine gv (vE underlying27 rfl rl) rfl (gv (zW rfl rfl) rfl (zD (zB ?_)))
 refine zO rfl (fun hc19 => ?_) (fun hc19 => ?_)
 ·
  refine zL (zB (zC (zS (zC ?_))))
  refine yI 16 _ [(12, (11, 32, [.bool false, .slice none 0 0, .slice none 0 0, .bool false, .slice none 0 0, .slice none 0 0, .bool false, .slice none 0 0, .slice none 0 0])), (13, (12, 32, [.bool false, .slice none 0 0, .slice none 0 0, .bool false, .slice none 0 0, .slice none 0 0, .bool false, .slice none 0 0, .slice none 0 0]))] [(0, .q), (1, .q), (2, .q), (3, .q), (4, .q), (5, .q), (6, .q), (7, .q), (8, .q), (9, .q), (10, .q), (11, .q), (12, .a), (13, .a), (14, .c), (15, .c)] xI (jC.cons rfl (uU yD rfl rfl) (jC.cons rfl (uU yD rfl rfl) jC.nil)) (gK [0, 0, 3, 4, 0, 0, 32, 0, 128, 320, 528, 1024, 0, 0, 12303, 32767] [65535, 65535, 65532, 65531, 65535, 65535, 65503, 65535, 65407, 65215, 65007, 64511, 65535, 65535, 61431, 55295] (by kernel_rfl)) (uV rfl rfl (uV rfl rfl jY)) (fun r hr => hr) (w_q rfl (fun h' L' hh hR => zF rfl) rfl (w_q rfl (fun h' L' hh hR => zF rfl) rfl (yP (F := fun v_ => AtP (rpT (rpQ k)) mb v_ (l.getD i (T3.mk (0 : Rat) 0 0))) rfl (vN (T3.mk (0 : Rat) 0 0) i underlying27 yZ rfl rfl rl rfl (by omega) p9N) vW rfl ?_)))
  intro v24 r24
  refine yP (F := fun v_ => (rpT (rpQ k)).Is mb v_ (l.getD i (T3.mk (0 : Rat) 0 0))) rfl (wP yZ rfl r24) vW rfl ?_
  intro v25 r25
  refine w_q rfl (fun h' L' hh hR => zF rfl) rfl (w_q rfl (fun h' L' hh hR => zF rfl) rfl (w_q rfl (fun h' L' hh hR => zR (q := 1) rfl rfl (by omega) (by omega)) rfl (w_q rfl (fun h' L' hh hR => zF rfl) rfl (w_q rfl (fun h' L' hh hR => vE underlying27 rfl (rl.mono hh)) rfl (w_q rfl (fun h' L' hh hR => uZ rfl rfl (by omega) (by omega)) rfl (yP (F := fun v_ => AtP (rpT (rpQ k)) mb v_ (l.getD ((i + 1) % l.length) (T3.mk (0 : Rat) 0 0))) rfl (vN (T3.mk (0 : Rat) 0 0) ((i + 1) % l.length) underlying27 yZ rfl rfl rl (by first | rfl | (push_cast; rfl)) (by exact Nat.mod_lt _ (by omega)) p9N) vW rfl ?_))))))
  intro v32 r32
  refine yP (F := fun v_ => (rpT (rpQ k)).Is mb v_ (l.getD ((i + 1) % l.length) (T3.mk (0 : Rat) 0 0))) rfl (wP yZ rfl r32) vW rfl ?_
  intro v33 r33
  refine w_a rfl (fun b11 => ?_)
  have rb11 : (rpT (rpQ (k + 1))).R mb [.bool false, .slice none 0 0, .slice none 0 0, .bool false, .slice none 0 0, .slice none 0 0, .bool false, .slice none 0 0, .slice none 0 0] (T3.mk (0 : Rat) 0 0) := (wH (wA (by omega)))
  refine w_a rfl (fun b12 => ?_)
  have rb12 : (rpT (rpQ (k + 1))).R mb [.bool false, .slice none 0 0, .slice none 0 0, .bool false, .slice none 0 0, .slice none 0 0, .bool false, .slice none 0 0, .slice none 0 0] (T3.mk (0 : Rat) 0 0) := (wH (wA (by omega)))
  refine w_c rfl (fH (A := [_]) (F := fun c_ => (rpT (rpQ (k + 1))).R mb c_ (l.getD i (T3.mk (0 : Rat) 0 0))) (yG sizeOf32 (Pc.here _) rfl rfl rfl rb11 (r25.le (Le.t (Le.q (l := k + 1) (by omega)))) rfl) (xE (by first | (simp; done) | grind)) ?_)
  intro cs_9 rb_10
  refine w_c rfl (fH (A := []) (F := fun c_ => (rpT (rpQ (k + 1))).R mb c_ (l.getD ((i + 1) % l.length) (T3.mk (0 : Rat) 0 0))) (yG sizeOf32 (Pc.here _) rfl rfl rfl rb12 (r33.le (Le.t (Le.q (l := k + 1) (by omega)))) rfl) (xE (by first | (simp; done) | grind)) ?_)
  intro cs_11 rb_12
  refine xA (zJ (e' := [(0, _), (3, _), (6, _), (7, _), (8, _), (9, _), (10, _), (11, _), (12, _)]) e9 (zB (zC ?_)))
  refine yI 8 _ [] [(0, .q), (1, .q), (3, .q), (4, .q), (2, .c), (5, .c), (6, .q), (7, .q)] xI nX (by kernel_rfl) nX (fun r hr => hr) ?_
  replace rb3 := rb3.mono hmmb
  refine yP (F := fun v_ => (rpP (rpT (rpQ n)) (rpQ m)).Is mb v_ s) rfl (zE jM (Pc.here _) rfl rfl rb3 rfl) (yF (.tail _ (.tail _ (.tail _ (.tail _ (.head _)))))) rfl ?_
  intro v34 r34
  refine yP (F := fun v_ => (rpT (rpQ (k + 1))).Is mb v_ (l.getD i (T3.mk (0 : Rat) 0 0))) rfl (zE yZ (Pc.here _) rfl rfl rb_10 rfl) (yF (.tail _ (.head _))) rfl ?_
  intro v35 r35
  refine yP (F := fun v_ => (rpP (rpT (rpQ n)) (rpQ m)).Is mb v_ s) rfl (zE jM (Pc.here _) rfl rfl rb3 rfl) (yF (.tail _ (.tail _ (.tail _ (.tail _ (.head _)))))) rfl ?_
  intro v37 r37
  refine yP (F := fun v_ => (rpT (rpQ (k + 1))).Is mb v_ (l.getD ((i + 1) % l.length) (T3.mk (0 : Rat) 0 0))) rfl (zE yZ (Pc.here _) rfl rfl rb_12 rfl) (yF (.head _)) rfl ?_
  intro v38 r38
  refine w_c rfl ?_
  refine zY (vs := [_, _]) call25 e2z (fun w hs => rU hs r34 r35 (by omega) (by omega) (by omega)) rfl ?_
  intro v36 h1 hh1 r36
  obtain rfl : v36 = vI (sdZ s (l.getD i (T3.mk (0 : Rat) 0 0))) := r36
  have hsd36 := kD s (l.getD i (T3.mk (0 : Rat) 0 0))
  refine w_c rfl ?_
  replace r37 := r37.mono hh1
  replace r38 := r38.mono hh1
  refine zY (vs := [_, _]) call25 e2z (fun w hs => rU hs r37 r38 (by omega) (by omega) (by omega)) rfl ?_
  intro v39 h2 hh2 r39
  obtain rfl : v39 = vI (sdZ s (l.getD ((i + 1) % l.length) (T3.mk (0 : Rat) 0 0))) := r39
  have hsd39 := kD s (l.getD ((i + 1) % l.length) (T3.mk (0 : Rat) 0 0))
  refine w_q rfl (fun h' L' hh hR => zZ rfl) rfl (w_q rfl (fun h' L' hh hR => zZ rfl) rfl (xA (zB (zC (zC (zA (mv rfl rfl (gv (tJ (q := 0) rfl rfl) rfl (zD (zB ?_))))))))))
  refine zO rfl (fun hc41 => ?_) (fun hc41 => ?_)
  ·
   have hp1 : sdZ s (gp l i) ≤ 0 := hc41
   refine zA (mv rfl rfl ?_)
   replace rb_10 := rb_10.mono (hh1.trans hh2)
   refine wF (F := fun v_ => (rpT (rpQ (k + 1))).Is h2 v_ (l.getD i (T3.mk (0 : Rat) 0 0))) (zE yZ (Pc.here _) rfl rfl rb_10 rfl) (yF (.tail _ (.head _))) rfl ?_
   intro v43 r43
   refine zK (xD (ρ := (rpT (rpQ (k + 1)))) (m := 1) (xs := [(l.getD i (T3.mk (0 : Rat) 0 0))]) (ps' := [(0, _)]) underlying27 yD rfl rfl rfl (wH (wA (by omega))) e2z (yX rfl (Pc.arr (Pc.here _) (T3.mk (0 : Rat) 0 0) 0 (by decide)) r43 wD) (show 1 * 9 ≤ 16777216 from by decide) p9N) rfl rfl rfl ?_
   intro v44 q44 hq44
   obtain ⟨cs44, rfl, rl44⟩ := hq44
   refine kJ (A := []) (ρ := (rpT (rpQ (k + 1)))) rl44 ?_
   intro h3 hh3 rs_13
   replace rl_5 := rl_5.mono ((hh1.trans hh2).trans hh3)
   refine jB (A := [_, _, _]) (yN (ρ := (rpT (rpQ (12 * k + 3 * m + 9 * n + 62)))) (bytes := 168) underlying27 yD rfl rfl rfl rfl p9N rfl rfl rl_5 (rs_13.le (Le.s (Le.t (Le.q (l := 12 * k + 3 * m + 9 * n + 62) (by omega))))) (by first | omega | (simp only [lAz, lC, lN, lR, lS]; omega)) (by first | omega | (simp only [lAz, lC, lN, lR, lS]; omega))) rfl rfl rfl ?_
   intro v45 q45 hq45
   obtain ⟨cs45, rfl, rl45⟩ := hq45
   refine asg rfl rfl (zD (zJ (e' := [(0, _), (3, _), (7, _), (8, _), (9, _), (10, _), (11, _), (12, _), (13, _), (14, _), (6, _)]) e11 (zB (zC (zC (zA (mv rfl rfl (gv (qJ (q := 0) rfl rfl) rfl (zD (zB ?_))))))))))
   refine zO rfl (fun hc47 => ?_) (fun hc47 => ?_)
   ·
    have hp2 : 0 ≤ sdZ s (gp l i) := hc47
    refine zA (mv rfl rfl ?_)
    replace rb_10 := rb_10.mono hh3
    refine wF (F := fun v_ => (rpT (rpQ (k + 1))).Is h3 v_ (l.getD i (T3.mk (0 : Rat) 0 0))) (zE yZ (Pc.here _) rfl rfl rb_10 rfl) (yF (.tail _ (.head _))) rfl ?_
    intro v49 r49
    refine zK (xD (ρ := (rpT (rpQ (k + 1)))) (m := 1) (xs := [(l.getD i (T3.mk (0 : Rat) 0 0))]) (ps' := [(0, _)]) underlying27 yD rfl rfl rfl (wH (wA (by omega))) e2z (yX rfl (Pc.arr (Pc.here _) (T3.mk (0 : Rat) 0 0) 0 (by decide)) r49 wD) (show 1 * 9 ≤ 16777216 from by decide) p9N) rfl rfl rfl ?_
    intro v50 q50 hq50
    obtain ⟨cs50, rfl, rl50⟩ := hq50
    refine kJ (A := []) (ρ := (rpT (rpQ (k + 1)))) rl50 ?_
    intro h4 hh4 rs_14
    replace rl_8 := rl_8.mono (((hh1.trans hh2).trans hh3).trans hh4)
    refine jB (A := [_, _]) (yN (ρ := (rpT (rpQ (12 * k + 3 * m + 9 * n + 62)))) (bytes := 168) underlying27 yD rfl rfl rfl rfl p9N rfl rfl rl_8 (rs_14.le (Le.s (Le.t (Le.q (l := 12 * k + 3 * m + 9 * n + 62) (by omega))))) (by first | omega | (simp only [lAz, lC, lN, lR, lS]; omega)) (by first | omega | (simp only [lAz, lC, lN, lR, lS]; omega))) rfl rfl rfl ?_
    intro v51 q51 hq51
    obtain ⟨cs51, rfl, rl51⟩ := hq51
    refine asg rfl rfl (zD (zB (zC (zA (mv rfl rfl ?_)))))
    refine vS (ι := Unit) 4 (fun _ => True) (fun _ => [(56, vB ((qN s l i) ∨ ((sdZ s (l.getD i (T3.mk (0 : Rat) 0 0))) < (0 : Int)))), (0, vl), (3, vP b3 0), (9, vB (qG s l i)), (10, vI ↑i), (11, vP b11 0), (12, vP b12 0), (13, vI (sdZ s (l.getD i (T3.mk (0 : Rat) 0 0)))), (14, vI (sdZ s (l.getD ((i + 1) % l.length) (T3.mk (0 : Rat) 0 0)))), (6, v45), (7, v51)]) (fun _ => [.var b12 32 cs_11, .var b11 32 cs_9, .gs 32 9 v51 (F ++ [(l.getD i (T3.mk (0 : Rat) 0 0))]).length cs51, .gs 32 9 v45 (B ++ [(l.getD i (T3.mk (0 : Rat) 0 0))]).length cs45, .var b3 34 cs3]) (fun _ => h4) ?_ ?_
    ·
     refine wI (qN s l i) (fun hg => ?_) (fun hg => ?_)
     ·
      refine xH (zF (v := .bool true) (congrArg some (xJ hg))) rfl rfl rfl (yK rfl rfl rfl rfl rfl rfl (yK rfl rfl rfl rfl rfl rfl (gv (xC rfl rfl) rfl (zD ?_))))
      refine yM () trivial ⟨?_, rfl, rfl, rfl, rfl, rfl, rfl, rfl, rfl, rfl, rfl, trivial⟩ rfl rfl
      exact congrArg some (qU hg)
     refine xH (zF (v := .bool false) (congrArg some (yS hg))) rfl rfl rfl (yU rfl rfl rfl (mv rfl rfl (yU rfl rfl rfl (gv (zW (q := 0) rfl rfl) rfl (gv (xN rfl rfl) rfl (zD ?_))))))
     refine yM () trivial ⟨?_, rfl, rfl, rfl, rfl, rfl, rfl, rfl, rfl, rfl, rfl, trivial⟩ rfl rfl
     exact congrArg some (qV hg)
    intro _ _
    show GL _ _ _ _ _ _ _ [(56, vB ((qN s l i) ∨ ((sdZ s (l.getD i (T3.mk (0 : Rat) 0 0))) < (0 : Int)))), (0, vl), (3, vP b3 0), (9, vB (qG s l i)), (10, vI ↑i), (11, vP b11 0), (12, vP b12 0), (13, vI (sdZ s (l.getD i (T3.mk (0 : Rat) 0 0)))), (14, vI (sdZ s (l.getD ((i + 1) % l.length) (T3.mk (0 : Rat) 0 0)))), (6, v45), (7, v51)] [.var b12 32 cs_11, .var b11 32 cs_9, .gs 32 9 v51 (F ++ [(l.getD i (T3.mk (0 : Rat) 0 0))]).length cs51, .gs 32 9 v45 (B ++ [(l.getD i (T3.mk (0 : Rat) 0 0))]).length cs45, .var b3 34 cs3] h4
    refine mv rfl rfl ?_
    refine vS (ι := Unit) 4 (fun _ => True) (fun _ => [(61, vB ((qG s l i) ∨ ((0 : Int) < (sdZ s (l.getD i (T3.mk (0 : Rat) 0 0)))))), (0, vl), (3, vP b3 0), (10, vI ↑i), (11, vP b11 0), (12, vP b12 0), (13, vI (sdZ s (l.getD i (T3.mk (0 : Rat) 0 0)))), (14, vI (sdZ s (l.getD ((i + 1) % l.length) (T3.mk (0 : Rat) 0 0)))), (6, v45), (7, v51), (56, vB ((qN s l i) ∨ ((sdZ s (l.getD i (T3.mk (0 : Rat) 0 0))) < (0 : Int))))]) (fun _ => [.var b12 32 cs_11, .var b11 32 cs_9, .gs 32 9 v51 (F ++ [(l.getD i (T3.mk (0 : Rat) 0 0))]).length cs51, .gs 32 9 v45 (B ++ [(l.getD i (T3.mk (0 : Rat) 0 0))]).length cs45, .var b3 34 cs3]) (fun _ => h4) ?_ ?_
    ·
     refine wI (qG s l i) (fun hg => ?_) (fun hg => ?_)
     ·
      refine xH (zF (v := .bool true) (congrArg some (xJ hg))) rfl rfl rfl (yK rfl rfl rfl rfl rfl rfl (yK rfl rfl rfl rfl rfl rfl (gv (xC rfl rfl) rfl (zD ?_))))
      refine yM () trivial ⟨?_, rfl, rfl, rfl, rfl, rfl, rfl, rfl, rfl, rfl, rfl, trivial⟩ rfl rfl
      exact congrArg some (qU hg)
     refine xH (zF (v := .bool false) (congrArg some (yS hg))) rfl rfl rfl (yU rfl rfl rfl (mv rfl rfl (yU rfl rfl rfl (gv (vY (q := 0) rfl rfl) rfl (gv (xN rfl rfl) rfl (zD ?_))))))
     refine yM () trivial ⟨?_, rfl, rfl, rfl, rfl, rfl, rfl, rfl, rfl, rfl, rfl, trivial⟩ rfl rfl
     exact congrArg some (qV hg)
    intro _ _
    show GL _ _ _ _ _ _ _ [(61, vB ((qG s l i) ∨ ((0 : Int) < (sdZ s (l.getD i (T3.mk (0 : Rat) 0 0)))))), (0, vl), (3, vP b3 0), (10, vI ↑i), (11, vP b11 0), (12, vP b12 0), (13, vI (sdZ s (l.getD i (T3.mk (0 : Rat) 0 0)))), (14, vI (sdZ s (l.getD ((i + 1) % l.length) (T3.mk (0 : Rat) 0 0)))), (6, v45), (7, v51), (56, vB ((qN s l i) ∨ ((sdZ s (l.getD i (T3.mk (0 : Rat) 0 0))) < (0 : Int))))] [.var b12 32 cs_11, .var b11 32 cs_9, .gs 32 9 v51 (F ++ [(l.getD i (T3.mk (0 : Rat) 0 0))]).length cs51, .gs 32 9 v45 (B ++ [(l.getD i (T3.mk (0 : Rat) 0 0))]).length cs45, .var b3 34 cs3] h4
    refine asg rfl rfl (asg rfl rfl (zD (zB (zC (zA (mv rfl rfl (mv rfl rfl (gv (jU rfl rfl (by have := qO hsd36 hsd39; omega) (by have := qO hsd36 hsd39; omega)) rfl (gv (zW (q := 0) rfl rfl) rfl (zD (zB ?_)))))))))))
    refine zO rfl (fun hc65 => ?_) (fun hc65 => ?_)
    ·
     have hx1 : xP s l i := hc65
     refine zC (zA ?_)
     replace rb_10 := rb_10.mono hh4
     refine wF (F := fun v_ => (rpT (rpQ (k + 1))).Is h4 v_ (l.getD i (T3.mk (0 : Rat) 0 0))) (zE yZ (Pc.here _) rfl rfl rb_10 rfl) (yF (.tail _ (.head _))) rfl ?_
     intro v66 r66
     replace rb_12 := rb_12.mono (((hh1.trans hh2).trans hh3).trans hh4)
     refine wF (F := fun v_ => (rpT (rpQ (k + 1))).Is h4 v_ (l.getD ((i + 1) % l.length) (T3.mk (0 : Rat) 0 0))) (zE yZ (Pc.here _) rfl rfl rb_12 rfl) (yF (.head _)) rfl ?_
     intro v67 r67
     replace rb3 := rb3.mono (((hh1.trans hh2).trans hh3).trans hh4)
     refine wF (F := fun v_ => (rpP (rpT (rpQ n)) (rpQ m)).Is h4 v_ s) (zE jM (Pc.here _) rfl rfl rb3 rfl) (yF (.tail _ (.tail _ (.tail _ (.tail _ (.head _)))))) rfl ?_
     intro v68 r68
     refine zM (vs := [_, _, _]) rfl rfl rfl rfl call49 e3z (fun w hs => sF hs r66 r67 r68 (by omega) (by omega) (by omega)) ?_
     intro v69 h5 hh5 r69
     change (rpT (rpQ (12 * (k + 1) + 3 * m + 9 * n + 50))).Is h5 v69 (btw s (l.getD i (T3.mk (0 : Rat) 0 0)) (l.getD ((i + 1) % l.length) (T3.mk (0 : Rat) 0 0))) at r69
     replace r69 := Rp.Is.le r69 (Le.t (Le.q (l := 12 * k + 3 * m + 9 * n + 62) (by omega)))
     refine zK (yY (ρ := (rpT (rpQ 1))) (X := (T3.mk (0 : Rat) 0 0)) yD rfl rfl (wH (wA (by decide)))) rfl rfl rfl ?_
     intro v15 q15 hq15
     obtain ⟨b15, cs15, rfl, rfl, rb15⟩ := hq15
     have rw_15 := (Le.t (Le.q (l := 12 * k + 3 * m + 9 * n + 62) (by omega))).R rb15
     refine wB (A := []) (F := fun c_ => (rpT (rpQ (12 * k + 3 * m + 9 * n + 62))).R h5 c_ (btw s (l.getD i (T3.mk (0 : Rat) 0 0)) (l.getD ((i + 1) % l.length) (T3.mk (0 : Rat) 0 0)))) (yG sizeOf32 (Pc.here _) rfl rfl rfl rw_15 r69 rfl) ?_
     intro cs_16 rb_17
     refine zD (zJ (e' := [(0, _), (3, _), (10, _), (6, _), (7, _), (8, _), (9, _), (15, _)]) e8 (zB ?_))
     refine yI 10 [.var b15 32 cs_16, .var b12 32 cs_11, .var b11 32 cs_9, .var b3 34 cs3] [] [(0, .q), (1, .q), (4, .q), (5, .q), (2, .d 3 6), (7, .c), (8, .q), (9, .q)] xI nX (by kernel_rfl) nX (by intro r hr; simp only [List.mem_cons, List.mem_append, List.not_mem_nil, or_false] at hr ⊢ <;> grind) (w_q rfl (fun h' L' hh hR => zF rfl) rfl (yP (F := fun v_ => (rpT (rpQ (12 * k + 3 * m + 9 * n + 62))).Is h5 v_ (btw s (l.getD i (T3.mk (0 : Rat) 0 0)) (l.getD ((i + 1) % l.length) (T3.mk (0 : Rat) 0 0)))) rfl (zE yZ (Pc.here _) rfl rfl rb_17 rfl) (yF (.head _)) rfl ?_))
     intro v71 r71
     refine w_q rfl (fun h' L' hh hR => zF rfl) rfl (yP (F := fun v_ => (rpT (rpQ (12 * k + 3 * m + 9 * n + 62))).Is h5 v_ (btw s (l.getD i (T3.mk (0 : Rat) 0 0)) (l.getD ((i + 1) % l.length) (T3.mk (0 : Rat) 0 0)))) rfl (zE yZ (Pc.here _) rfl rfl rb_17 rfl) (yF (.head _)) rfl ?_)
     intro v75 r75
     refine w_d rfl rfl rfl ?_ ?_
     ·
      refine qD (fun X => xD (ρ := (rpT (rpQ (12 * k + 3 * m + 9 * n + 62)))) (m := 1) (xs := [btw s (l.getD i (T3.mk (0 : Rat) 0 0)) (l.getD ((i + 1) % l.length) (T3.mk (0 : Rat) 0 0))]) (ps' := [(0, _)]) underlying27 yD rfl rfl rfl (wH (wA (by omega))) e2z (yX rfl (Pc.arr (Pc.here _) (T3.mk (0 : Rat) 0 0) 0 (by decide)) r71 wD) (show 1 * 9 ≤ 16777216 from by decide) p9N) rfl ?_
      intro v72 q72 hq72
      obtain ⟨cs72, rfl, rl72⟩ := hq72
      refine ⟨?_, ?_⟩
      ·
       refine xR (A := []) (ρ := (rpT (rpQ (12 * k + 3 * m + 9 * n + 62)))) rl72 (xS (by first | (simp; done) | grind)) ?_
       intro h6 hh6 rs_18
       replace rl45 := rl45.mono ((hh4.trans hh5).trans hh6)
       refine uK (A := [_, _, _, _]) (fun X => yN (ρ := (rpT (rpQ (12 * k + 3 * m + 9 * n + 62)))) (bytes := 168) underlying27 yD rfl rfl rfl rfl p9N rfl rfl rl45 rs_18 (by first | omega | (simp only [lAz, lC, lN, lR, lS]; omega)) (by first | omega | (simp only [lAz, lC, lN, lR, lS]; omega))) rfl (xE (by first | (simp; done) | grind)) ?_
       intro v73 q73 hq73
       obtain ⟨cs73, rfl, rl73⟩ := hq73
       replace r75 := r75.mono hh6
       refine qD (fun X => xD (ρ := (rpT (rpQ (12 * k + 3 * m + 9 * n + 62)))) (m := 1) (xs := [btw s (l.getD i (T3.mk (0 : Rat) 0 0)) (l.getD ((i + 1) % l.length) (T3.mk (0 : Rat) 0 0))]) (ps' := [(0, _)]) underlying27 yD rfl rfl rfl (wH (wA (by omega))) e2z (yX rfl (Pc.arr (Pc.here _) (T3.mk (0 : Rat) 0 0) 0 (by decide)) r75 wD) (show 1 * 9 ≤ 16777216 from by decide) p9N) rfl ?_
       intro v76 q76 hq76
       obtain ⟨cs76, rfl, rl76⟩ := hq76
       refine w_c rfl (xR (A := []) (ρ := (rpT (rpQ (12 * k + 3 * m + 9 * n + 62)))) rl76 (xS (by first | (simp; done) | grind)) ?_)
       intro h7 hh7 rs_19
       replace rl51 := rl51.mono ((hh5.trans hh6).trans hh7)
       refine uK (A := [_, _, _]) (fun X => yN (ρ := (rpT (rpQ (12 * k + 3 * m + 9 * n + 62)))) (bytes := 168) underlying27 yD rfl rfl rfl rfl p9N rfl rfl rl51 rs_19 (by first | omega | (simp only [lAz, lC, lN, lR, lS]; omega)) (by first | omega | (simp only [lAz, lC, lN, lR, lS]; omega))) rfl (xE (by first | (simp; done) | grind)) ?_
       intro v77 q77 hq77
       obtain ⟨cs77, rfl, rl77⟩ := hq77
       refine w_q rfl (fun h' L' hh hR => zZ rfl) rfl (w_q rfl (fun h' L' hh hR => zZ rfl) rfl (xA (xB (zB (zA (mv rfl rfl (gv (zR (q := 1) rfl rfl (by omega) (by omega)) rfl (asg rfl rfl (zD (xF (A := []) (xF (A := []) (xF (A := []) ?_))))))))))))
       refine yR ((i + 1), ((B ++ [(l.getD i (T3.mk (0 : Rat) 0 0))]) ++ [btw s (l.getD i (T3.mk (0 : Rat) 0 0)) (l.getD ((i + 1) % l.length) (T3.mk (0 : Rat) 0 0))]), ((F ++ [(l.getD i (T3.mk (0 : Rat) 0 0))]) ++ [btw s (l.getD i (T3.mk (0 : Rat) 0 0)) (l.getD ((i + 1) % l.length) (T3.mk (0 : Rat) 0 0))]), v73, cs73, v77, cs77, h7) ?_ ?_ e7 rfl rfl
       ·
        refine ⟨(((((((hmmb.trans hh1).trans hh2).trans hh3).trans hh4).trans hh5).trans hh6).trans hh7), ?_⟩
        replace rl73 := rl73.mono hh7
        refine ⟨rl73, rl77, ?_⟩
        exact ⟨⟨by omega, (by first | exact jK hB hp1 hx1 | exact fF hB hp1 hx1 | exact fL hB hp1 hx1 | exact fM hB hp1 hx1)⟩, (by first | exact jJ hF hp2 hx1 | exact fE hF hp2 hx1 | exact fJ hF hp2 hx1 | exact fK hF hp2 hx1)⟩
       dsimp only
       omega
      refine qD (fun X => xD (ρ := (rpT (rpQ (12 * k + 3 * m + 9 * n + 62)))) (m := 1) (xs := [btw s (l.getD i (T3.mk (0 : Rat) 0 0)) (l.getD ((i + 1) % l.length) (T3.mk (0 : Rat) 0 0))]) (ps' := [(0, _)]) underlying27 yD rfl rfl rfl (wH (wA (by omega))) e2z (yX rfl (Pc.arr (Pc.here _) (T3.mk (0 : Rat) 0 0) 0 (by decide)) r75 wD) (show 1 * 9 ≤ 16777216 from by decide) p9N) rfl ?_
      intro v76 q76 hq76
      obtain ⟨cs76, rfl, rl76⟩ := hq76
      refine xR (A := [_]) (ρ := (rpT (rpQ (12 * k + 3 * m + 9 * n + 62)))) rl72 (xS (by first | (simp; done) | grind)) ?_
      intro h6 hh6 rs_20
      replace rl45 := rl45.mono ((hh4.trans hh5).trans hh6)
      refine uK (A := [_, _, _, _, _]) (fun X => yN (ρ := (rpT (rpQ (12 * k + 3 * m + 9 * n + 62)))) (bytes := 168) underlying27 yD rfl rfl rfl rfl p9N rfl rfl rl45 rs_20 (by first | omega | (simp only [lAz, lC, lN, lR, lS]; omega)) (by first | omega | (simp only [lAz, lC, lN, lR, lS]; omega))) rfl (xE (by first | (simp; done) | grind)) ?_
      intro v73 q73 hq73
      obtain ⟨cs73, rfl, rl73⟩ := hq73
      refine w_c rfl ?_
      replace rl76 := rl76.mono hh6
      refine xR (A := []) (ρ := (rpT (rpQ (12 * k + 3 * m + 9 * n + 62)))) rl76 (xS (by first | (simp; done) | grind)) ?_
      intro h7 hh7 rs_21
      replace rl51 := rl51.mono ((hh5.trans hh6).trans hh7)
      refine uK (A := [_, _, _]) (fun X => yN (ρ := (rpT (rpQ (12 * k + 3 * m + 9 * n + 62)))) (bytes := 168) underlying27 yD rfl rfl rfl rfl p9N rfl rfl rl51 rs_21 (by first | omega | (simp only [lAz, lC, lN, lR, lS]; omega)) (by first | omega | (simp only [lAz, lC, lN, lR, lS]; omega))) rfl (xE (by first | (simp; done) | grind)) ?_
      intro v77 q77 hq77
      obtain ⟨cs77, rfl, rl77⟩ := hq77
      refine w_q rfl (fun h' L' hh hR => zZ rfl) rfl (w_q rfl (fun h' L' hh hR => zZ rfl) rfl (xA (xB (zB (zA (mv rfl rfl (gv (zR (q := 1) rfl rfl (by omega) (by omega)) rfl (asg rfl rfl (zD (xF (A := []) (xF (A := []) (xF (A := []) ?_))))))))))))
      refine yR ((i + 1), ((B ++ [(l.getD i (T3.mk (0 : Rat) 0 0))]) ++ [btw s (l.getD i (T3.mk (0 : Rat) 0 0)) (l.getD ((i + 1) % l.length) (T3.mk (0 : Rat) 0 0))]), ((F ++ [(l.getD i (T3.mk (0 : Rat) 0 0))]) ++ [btw s (l.getD i (T3.mk (0 : Rat) 0 0)) (l.getD ((i + 1) % l.length) (T3.mk (0 : Rat) 0 0))]), v73, cs73, v77, cs77, h7) ?_ ?_ e7 rfl rfl
      ·
       refine ⟨(((((((hmmb.trans hh1).trans hh2).trans hh3).trans hh4).trans hh5).trans hh6).trans hh7), ?_⟩
       replace rl73 := rl73.mono hh7
       refine ⟨rl73, rl77, ?_⟩
       exact ⟨⟨by omega, (by first | exact jK hB hp1 hx1 | exact fF hB hp1 hx1 | exact fL hB hp1 hx1 | exact fM hB hp1 hx1)⟩, (by first | exact jJ hF hp2 hx1 | exact fE hF hp2 hx1 | exact fJ hF hp2 hx1 | exact fK hF hp2 hx1)⟩
      dsimp only
      omega
     refine qD (fun X => xD (ρ := (rpT (rpQ (12 * k + 3 * m + 9 * n + 62)))) (m := 1) (xs := [btw s (l.getD i (T3.mk (0 : Rat) 0 0)) (l.getD ((i + 1) % l.length) (T3.mk (0 : Rat) 0 0))]) (ps' := [(0, _)]) underlying27 yD rfl rfl rfl (wH (wA (by omega))) e2z (yX rfl (Pc.arr (Pc.here _) (T3.mk (0 : Rat) 0 0) 0 (by decide)) r75 wD) (show 1 * 9 ≤ 16777216 from by decide) p9N) rfl ?_
     intro v76 q76 hq76
     obtain ⟨cs76, rfl, rl76⟩ := hq76
     refine qD (fun X => xD (ρ := (rpT (rpQ (12 * k + 3 * m + 9 * n + 62)))) (m := 1) (xs := [btw s (l.getD i (T3.mk (0 : Rat) 0 0)) (l.getD ((i + 1) % l.length) (T3.mk (0 : Rat) 0 0))]) (ps' := [(0, _)]) underlying27 yD rfl rfl rfl (wH (wA (by omega))) e2z (yX rfl (Pc.arr (Pc.here _) (T3.mk (0 : Rat) 0 0) 0 (by decide)) r71 wD) (show 1 * 9 ≤ 16777216 from by decide) p9N) rfl ?_
     intro v72 q72 hq72
     obtain ⟨cs72, rfl, rl72⟩ := hq72
     refine xR (A := []) (ρ := (rpT (rpQ (12 * k + 3 * m + 9 * n + 62)))) rl72 (xS (by first | (simp; done) | grind)) ?_
     intro h6 hh6 rs_22
     replace rl45 := rl45.mono ((hh4.trans hh5).trans hh6)
     refine uK (A := [_, _, _, _, _]) (fun X => yN (ρ := (rpT (rpQ (12 * k + 3 * m + 9 * n + 62)))) (bytes := 168) underlying27 yD rfl rfl rfl rfl p9N rfl rfl rl45 rs_22 (by first | omega | (simp only [lAz, lC, lN, lR, lS]; omega)) (by first | omega | (simp only [lAz, lC, lN, lR, lS]; omega))) rfl (xE (by first | (simp; done) | grind)) ?_
     intro v73 q73 hq73
     obtain ⟨cs73, rfl, rl73⟩ := hq73
     refine w_c rfl ?_
     replace rl76 := rl76.mono hh6
     refine xR (A := []) (ρ := (rpT (rpQ (12 * k + 3 * m + 9 * n + 62)))) rl76 (xS (by first | (simp; done) | grind)) ?_
     intro h7 hh7 rs_23
     replace rl51 := rl51.mono ((hh5.trans hh6).trans hh7)
     refine uK (A := [_, _, _]) (fun X => yN (ρ := (rpT (rpQ (12 * k + 3 * m + 9 * n + 62)))) (bytes := 168) underlying27 yD rfl rfl rfl rfl p9N rfl rfl rl51 rs_23 (by first | omega | (simp only [lAz, lC, lN, lR, lS]; omega)) (by first | omega | (simp only [lAz, lC, lN, lR, lS]; omega))) rfl (xE (by first | (simp; done) | grind)) ?_
     intro v77 q77 hq77
     obtain ⟨cs77, rfl, rl77⟩ := hq77
     refine w_q rfl (fun h' L' hh hR => zZ rfl) rfl (w_q rfl (fun h' L' hh hR => zZ rfl) rfl (xA (xB (zB (zA (mv rfl rfl (gv (zR (q := 1) rfl rfl (by omega) (by omega)) rfl (asg rfl rfl (zD (xF (A := []) (xF (A := []) (xF (A := []) ?_))))))))))))
     refine yR ((i + 1), ((B ++ [(l.getD i (T3.mk (0 : Rat) 0 0))]) ++ [btw s (l.getD i (T3.mk (0 : Rat) 0 0)) (l.getD ((i + 1) % l.length) (T3.mk (0 : Rat) 0 0))]), ((F ++ [(l.getD i (T3.mk (0 : Rat) 0 0))]) ++ [btw s (l.getD i (T3.mk (0 : Rat) 0 0)) (l.getD ((i + 1) % l.length) (T3.mk (0 : Rat) 0 0))]), v73, cs73, v77, cs77, h7) ?_ ?_ e7 rfl rfl
     ·
      refine ⟨(((((((hmmb.trans hh1).trans hh2).trans hh3).trans hh4).trans hh5).trans hh6).trans hh7), ?_⟩
      replace rl73 := rl73.mono hh7
      refine ⟨rl73, rl77, ?_⟩
      exact ⟨⟨by omega, (by first | exact jK hB hp1 hx1 | exact fF hB hp1 hx1 | exact fL hB hp1 hx1 | exact fM hB hp1 hx1)⟩, (by first | exact jJ hF hp2 hx1 | exact fE hF hp2 hx1 | exact fJ hF hp2 hx1 | exact fK hF hp2 hx1)⟩
     dsimp only
     omega
    have hx1 : ¬ xP s l i := hc65
    refine wM (e' := [(0, _), (3, _), (10, _), (6, _), (7, _), (8, _), (9, _)]) e7 (zL (xB (zB (zA (mv rfl rfl (gv (zR (q := 1) rfl rfl (by omega) (by omega)) rfl (asg rfl rfl (zD (xF (A := []) (xF (A := []) ?_))))))))))
    refine yR ((i + 1), (B ++ [(l.getD i (T3.mk (0 : Rat) 0 0))]), (F ++ [(l.getD i (T3.mk (0 : Rat) 0 0))]), v45, cs45, v51, cs51, h4) ?_ ?_ e7 rfl rfl
    ·
     refine ⟨((((hmmb.trans hh1).trans hh2).trans hh3).trans hh4), ?_⟩
     replace rl45 := rl45.mono hh4
     refine ⟨rl45, rl51, ?_⟩
     exact ⟨⟨by omega, (by first | exact jK hB hp1 hx1 | exact fF hB hp1 hx1 | exact fL hB hp1 hx1 | exact fM hB hp1 hx1)⟩, (by first | exact jJ hF hp2 hx1 | exact fE hF hp2 hx1 | exact fJ hF hp2 hx1 | exact fK hF hp2 hx1)⟩
    dsimp only
    omega
   have hp2 : ¬ 0 ≤ sdZ s (gp l i) := hc47
   refine zL (zB (zC (zA (mv rfl rfl ?_))))
   refine vS (ι := Unit) 4 (fun _ => True) (fun _ => [(56, vB ((qN s l i) ∨ ((sdZ s (l.getD i (T3.mk (0 : Rat) 0 0))) < (0 : Int)))), (0, vl), (3, vP b3 0), (7, s7_6), (9, vB (qG s l i)), (10, vI ↑i), (11, vP b11 0), (12, vP b12 0), (13, vI (sdZ s (l.getD i (T3.mk (0 : Rat) 0 0)))), (14, vI (sdZ s (l.getD ((i + 1) % l.length) (T3.mk (0 : Rat) 0 0)))), (6, v45)]) (fun _ => [.var b12 32 cs_11, .var b11 32 cs_9, .gs 32 9 s7_6 F.length cs_7, .gs 32 9 v45 (B ++ [(l.getD i (T3.mk (0 : Rat) 0 0))]).length cs45, .var b3 34 cs3]) (fun _ => h3) ?_ ?_
   ·
    refine wI (qN s l i) (fun hg => ?_) (fun hg => ?_)
    ·
     refine xH (zF (v := .bool true) (congrArg some (xJ hg))) rfl rfl rfl (yK rfl rfl rfl rfl rfl rfl (yK rfl rfl rfl rfl rfl rfl (gv (xC rfl rfl) rfl (zD ?_))))
     refine yM () trivial ⟨?_, rfl, rfl, rfl, rfl, rfl, rfl, rfl, rfl, rfl, rfl, trivial⟩ rfl rfl
     exact congrArg some (qU hg)
    refine xH (zF (v := .bool false) (congrArg some (yS hg))) rfl rfl rfl (yU rfl rfl rfl (mv rfl rfl (yU rfl rfl rfl (gv (zW (q := 0) rfl rfl) rfl (gv (xN rfl rfl) rfl (zD ?_))))))
    refine yM () trivial ⟨?_, rfl, rfl, rfl, rfl, rfl, rfl, rfl, rfl, rfl, rfl, trivial⟩ rfl rfl
    exact congrArg some (qV hg)
   intro _ _
   show GL _ _ _ _ _ _ _ [(56, vB ((qN s l i) ∨ ((sdZ s (l.getD i (T3.mk (0 : Rat) 0 0))) < (0 : Int)))), (0, vl), (3, vP b3 0), (7, s7_6), (9, vB (qG s l i)), (10, vI ↑i), (11, vP b11 0), (12, vP b12 0), (13, vI (sdZ s (l.getD i (T3.mk (0 : Rat) 0 0)))), (14, vI (sdZ s (l.getD ((i + 1) % l.length) (T3.mk (0 : Rat) 0 0)))), (6, v45)] [.var b12 32 cs_11, .var b11 32 cs_9, .gs 32 9 s7_6 F.length cs_7, .gs 32 9 v45 (B ++ [(l.getD i (T3.mk (0 : Rat) 0 0))]).length cs45, .var b3 34 cs3] h3
   refine mv rfl rfl ?_
   refine vS (ι := Unit) 4 (fun _ => True) (fun _ => [(61, vB ((qG s l i) ∨ ((0 : Int) < (sdZ s (l.getD i (T3.mk (0 : Rat) 0 0)))))), (0, vl), (3, vP b3 0), (7, s7_6), (10, vI ↑i), (11, vP b11 0), (12, vP b12 0), (13, vI (sdZ s (l.getD i (T3.mk (0 : Rat) 0 0)))), (14, vI (sdZ s (l.getD ((i + 1) % l.length) (T3.mk (0 : Rat) 0 0)))), (6, v45), (56, vB ((qN s l i) ∨ ((sdZ s (l.getD i (T3.mk (0 : Rat) 0 0))) < (0 : Int))))]) (fun _ => [.var b12 32 cs_11, .var b11 32 cs_9, .gs 32 9 s7_6 F.length cs_7, .gs 32 9 v45 (B ++ [(l.getD i (T3.mk (0 : Rat) 0 0))]).length cs45, .var b3 34 cs3]) (fun _ => h3) ?_ ?_
   ·
    refine wI (qG s l i) (fun hg => ?_) (fun hg => ?_)
    ·
     refine xH (zF (v := .bool true) (congrArg some (xJ hg))) rfl rfl rfl (yK rfl rfl rfl rfl rfl rfl (yK rfl rfl rfl rfl rfl rfl (gv (xC rfl rfl) rfl (zD ?_))))
     refine yM () trivial ⟨?_, rfl, rfl, rfl, rfl, rfl, rfl, rfl, rfl, rfl, rfl, trivial⟩ rfl rfl
     exact congrArg some (qU hg)
    refine xH (zF (v := .bool false) (congrArg some (yS hg))) rfl rfl rfl (yU rfl rfl rfl (mv rfl rfl (yU rfl rfl rfl (gv (vY (q := 0) rfl rfl) rfl (gv (xN rfl rfl) rfl (zD ?_))))))
    refine yM () trivial ⟨?_, rfl, rfl, rfl, rfl, rfl, rfl, rfl, rfl, rfl, rfl, trivial⟩ rfl rfl
    exact congrArg some (qV hg)
   intro _ _
   show GL _ _ _ _ _ _ _ [(61, vB ((qG s l i) ∨ ((0 : Int) < (sdZ s (l.getD i (T3.mk (0 : Rat) 0 0)))))), (0, vl), (3, vP b3 0), (7, s7_6), (10, vI ↑i), (11, vP b11 0), (12, vP b12 0), (13, vI (sdZ s (l.getD i (T3.mk (0 : Rat) 0 0)))), (14, vI (sdZ s (l.getD ((i + 1) % l.length) (T3.mk (0 : Rat) 0 0)))), (6, v45), (56, vB ((qN s l i) ∨ ((sdZ s (l.getD i (T3.mk (0 : Rat) 0 0))) < (0 : Int))))] [.var b12 32 cs_11, .var b11 32 cs_9, .gs 32 9 s7_6 F.length cs_7, .gs 32 9 v45 (B ++ [(l.getD i (T3.mk (0 : Rat) 0 0))]).length cs45, .var b3 34 cs3] h3
   refine asg rfl rfl (asg rfl rfl (zD (zB (zC (zA (mv rfl rfl (mv rfl rfl (gv (jU rfl rfl (by have := qO hsd36 hsd39; omega) (by have := qO hsd36 hsd39; omega)) rfl (gv (zW (q := 0) rfl rfl) rfl (zD (zB ?_)))))))))))
   refine zO rfl (fun hc65 => ?_) (fun hc65 => ?_)
   ·
    have hx1 : xP s l i := hc65
    refine zC (zA ?_)
    replace rb_10 := rb_10.mono hh3
    refine wF (F := fun v_ => (rpT (rpQ (k + 1))).Is h3 v_ (l.getD i (T3.mk (0 : Rat) 0 0))) (zE yZ (Pc.here _) rfl rfl rb_10 rfl) (yF (.tail _ (.head _))) rfl ?_
    intro v66 r66
    replace rb_12 := rb_12.mono ((hh1.trans hh2).trans hh3)
    refine wF (F := fun v_ => (rpT (rpQ (k + 1))).Is h3 v_ (l.getD ((i + 1) % l.length) (T3.mk (0 : Rat) 0 0))) (zE yZ (Pc.here _) rfl rfl rb_12 rfl) (yF (.head _)) rfl ?_
    intro v67 r67
    replace rb3 := rb3.mono ((hh1.trans hh2).trans hh3)
    refine wF (F := fun v_ => (rpP (rpT (rpQ n)) (rpQ m)).Is h3 v_ s) (zE jM (Pc.here _) rfl rfl rb3 rfl) (yF (.tail _ (.tail _ (.tail _ (.tail _ (.head _)))))) rfl ?_
    intro v68 r68
    refine zM (vs := [_, _, _]) rfl rfl rfl rfl call49 e3z (fun w hs => sF hs r66 r67 r68 (by omega) (by omega) (by omega)) ?_
    intro v69 h4 hh4 r69
    change (rpT (rpQ (12 * (k + 1) + 3 * m + 9 * n + 50))).Is h4 v69 (btw s (l.getD i (T3.mk (0 : Rat) 0 0)) (l.getD ((i + 1) % l.length) (T3.mk (0 : Rat) 0 0))) at r69
    replace r69 := Rp.Is.le r69 (Le.t (Le.q (l := 12 * k + 3 * m + 9 * n + 62) (by omega)))
    refine zK (yY (ρ := (rpT (rpQ 1))) (X := (T3.mk (0 : Rat) 0 0)) yD rfl rfl (wH (wA (by decide)))) rfl rfl rfl ?_
    intro v15 q15 hq15
    obtain ⟨b15, cs15, rfl, rfl, rb15⟩ := hq15
    have rw_24 := (Le.t (Le.q (l := 12 * k + 3 * m + 9 * n + 62) (by omega))).R rb15
    refine wB (A := []) (F := fun c_ => (rpT (rpQ (12 * k + 3 * m + 9 * n + 62))).R h4 c_ (btw s (l.getD i (T3.mk (0 : Rat) 0 0)) (l.getD ((i + 1) % l.length) (T3.mk (0 : Rat) 0 0)))) (yG sizeOf32 (Pc.here _) rfl rfl rfl rw_24 r69 rfl) ?_
    intro cs_25 rb_26
    refine zD (zJ (e' := [(0, _), (3, _), (7, _), (10, _), (6, _), (8, _), (9, _), (15, _)]) e8 (zB ?_))
    refine yI 10 [.var b15 32 cs_25, .var b12 32 cs_11, .var b11 32 cs_9, .var b3 34 cs3] [] [(0, .q), (1, .q), (4, .q), (5, .q), (2, .d 3 6), (7, .c), (8, .q), (9, .q)] xI nX (by kernel_rfl) nX (by intro r hr; simp only [List.mem_cons, List.mem_append, List.not_mem_nil, or_false] at hr ⊢ <;> grind) (w_q rfl (fun h' L' hh hR => zF rfl) rfl (yP (F := fun v_ => (rpT (rpQ (12 * k + 3 * m + 9 * n + 62))).Is h4 v_ (btw s (l.getD i (T3.mk (0 : Rat) 0 0)) (l.getD ((i + 1) % l.length) (T3.mk (0 : Rat) 0 0)))) rfl (zE yZ (Pc.here _) rfl rfl rb_26 rfl) (yF (.head _)) rfl ?_))
    intro v71 r71
    refine w_q rfl (fun h' L' hh hR => zF rfl) rfl (yP (F := fun v_ => (rpT (rpQ (12 * k + 3 * m + 9 * n + 62))).Is h4 v_ (btw s (l.getD i (T3.mk (0 : Rat) 0 0)) (l.getD ((i + 1) % l.length) (T3.mk (0 : Rat) 0 0)))) rfl (zE yZ (Pc.here _) rfl rfl rb_26 rfl) (yF (.head _)) rfl ?_)
    intro v75 r75
    refine w_d rfl rfl rfl ?_ ?_
    ·
     refine qD (fun X => xD (ρ := (rpT (rpQ (12 * k + 3 * m + 9 * n + 62)))) (m := 1) (xs := [btw s (l.getD i (T3.mk (0 : Rat) 0 0)) (l.getD ((i + 1) % l.length) (T3.mk (0 : Rat) 0 0))]) (ps' := [(0, _)]) underlying27 yD rfl rfl rfl (wH (wA (by omega))) e2z (yX rfl (Pc.arr (Pc.here _) (T3.mk (0 : Rat) 0 0) 0 (by decide)) r71 wD) (show 1 * 9 ≤ 16777216 from by decide) p9N) rfl ?_
     intro v72 q72 hq72
     obtain ⟨cs72, rfl, rl72⟩ := hq72
     refine ⟨?_, ?_⟩
     ·
      refine xR (A := []) (ρ := (rpT (rpQ (12 * k + 3 * m + 9 * n + 62)))) rl72 (xS (by first | (simp; done) | grind)) ?_
      intro h5 hh5 rs_27
      replace rl45 := rl45.mono (hh4.trans hh5)
      refine uK (A := [_, _, _, _]) (fun X => yN (ρ := (rpT (rpQ (12 * k + 3 * m + 9 * n + 62)))) (bytes := 168) underlying27 yD rfl rfl rfl rfl p9N rfl rfl rl45 rs_27 (by first | omega | (simp only [lAz, lC, lN, lR, lS]; omega)) (by first | omega | (simp only [lAz, lC, lN, lR, lS]; omega))) rfl (xE (by first | (simp; done) | grind)) ?_
      intro v73 q73 hq73
      obtain ⟨cs73, rfl, rl73⟩ := hq73
      replace r75 := r75.mono hh5
      refine qD (fun X => xD (ρ := (rpT (rpQ (12 * k + 3 * m + 9 * n + 62)))) (m := 1) (xs := [btw s (l.getD i (T3.mk (0 : Rat) 0 0)) (l.getD ((i + 1) % l.length) (T3.mk (0 : Rat) 0 0))]) (ps' := [(0, _)]) underlying27 yD rfl rfl rfl (wH (wA (by omega))) e2z (yX rfl (Pc.arr (Pc.here _) (T3.mk (0 : Rat) 0 0) 0 (by decide)) r75 wD) (show 1 * 9 ≤ 16777216 from by decide) p9N) rfl ?_
      intro v76 q76 hq76
      obtain ⟨cs76, rfl, rl76⟩ := hq76
      refine w_c rfl (xR (A := []) (ρ := (rpT (rpQ (12 * k + 3 * m + 9 * n + 62)))) rl76 (xS (by first | (simp; done) | grind)) ?_)
      intro h6 hh6 rs_28
      replace rl_8 := rl_8.mono (((((hh1.trans hh2).trans hh3).trans hh4).trans hh5).trans hh6)
      refine uK (A := [_, _, _]) (fun X => yN (ρ := (rpT (rpQ (12 * k + 3 * m + 9 * n + 62)))) (bytes := 168) underlying27 yD rfl rfl rfl rfl p9N rfl rfl rl_8 rs_28 (by first | omega | (simp only [lAz, lC, lN, lR, lS]; omega)) (by first | omega | (simp only [lAz, lC, lN, lR, lS]; omega))) rfl (xE (by first | (simp; done) | grind)) ?_
      intro v77 q77 hq77
      obtain ⟨cs77, rfl, rl77⟩ := hq77
      refine w_q rfl (fun h' L' hh hR => zZ rfl) rfl (w_q rfl (fun h' L' hh hR => zZ rfl) rfl (xA (xB (zB (zA (mv rfl rfl (gv (zR (q := 1) rfl rfl (by omega) (by omega)) rfl (asg rfl rfl (zD (xF (A := []) (xF (A := []) (xF (A := []) ?_))))))))))))
      refine yR ((i + 1), ((B ++ [(l.getD i (T3.mk (0 : Rat) 0 0))]) ++ [btw s (l.getD i (T3.mk (0 : Rat) 0 0)) (l.getD ((i + 1) % l.length) (T3.mk (0 : Rat) 0 0))]), (F ++ [btw s (l.getD i (T3.mk (0 : Rat) 0 0)) (l.getD ((i + 1) % l.length) (T3.mk (0 : Rat) 0 0))]), v73, cs73, v77, cs77, h6) ?_ ?_ e7 rfl rfl
      ·
       refine ⟨((((((hmmb.trans hh1).trans hh2).trans hh3).trans hh4).trans hh5).trans hh6), ?_⟩
       replace rl73 := rl73.mono hh6
       refine ⟨rl73, rl77, ?_⟩
       exact ⟨⟨by omega, (by first | exact jK hB hp1 hx1 | exact fF hB hp1 hx1 | exact fL hB hp1 hx1 | exact fM hB hp1 hx1)⟩, (by first | exact jJ hF hp2 hx1 | exact fE hF hp2 hx1 | exact fJ hF hp2 hx1 | exact fK hF hp2 hx1)⟩
      dsimp only
      omega
     refine qD (fun X => xD (ρ := (rpT (rpQ (12 * k + 3 * m + 9 * n + 62)))) (m := 1) (xs := [btw s (l.getD i (T3.mk (0 : Rat) 0 0)) (l.getD ((i + 1) % l.length) (T3.mk (0 : Rat) 0 0))]) (ps' := [(0, _)]) underlying27 yD rfl rfl rfl (wH (wA (by omega))) e2z (yX rfl (Pc.arr (Pc.here _) (T3.mk (0 : Rat) 0 0) 0 (by decide)) r75 wD) (show 1 * 9 ≤ 16777216 from by decide) p9N) rfl ?_
     intro v76 q76 hq76
     obtain ⟨cs76, rfl, rl76⟩ := hq76
     refine xR (A := [_]) (ρ := (rpT (rpQ (12 * k + 3 * m + 9 * n + 62)))) rl72 (xS (by first | (simp; done) | grind)) ?_
     intro h5 hh5 rs_29
     replace rl45 := rl45.mono (hh4.trans hh5)
     refine uK (A := [_, _, _, _, _]) (fun X => yN (ρ := (rpT (rpQ (12 * k + 3 * m + 9 * n + 62)))) (bytes := 168) underlying27 yD rfl rfl rfl rfl p9N rfl rfl rl45 rs_29 (by first | omega | (simp only [lAz, lC, lN, lR, lS]; omega)) (by first | omega | (simp only [lAz, lC, lN, lR, lS]; omega))) rfl (xE (by first | (simp; done) | grind)) ?_
     intro v73 q73 hq73
     obtain ⟨cs73, rfl, rl73⟩ := hq73
     refine w_c rfl ?_
     replace rl76 := rl76.mono hh5
     refine xR (A := []) (ρ := (rpT (rpQ (12 * k + 3 * m + 9 * n + 62)))) rl76 (xS (by first | (simp; done) | grind)) ?_
     intro h6 hh6 rs_30
     replace rl_8 := rl_8.mono (((((hh1.trans hh2).trans hh3).trans hh4).trans hh5).trans hh6)
     refine uK (A := [_, _, _]) (fun X => yN (ρ := (rpT (rpQ (12 * k + 3 * m + 9 * n + 62)))) (bytes := 168) underlying27 yD rfl rfl rfl rfl p9N rfl rfl rl_8 rs_30 (by first | omega | (simp only [lAz, lC, lN, lR, lS]; omega)) (by first | omega | (simp only [lAz, lC, lN, lR, lS]; omega))) rfl (xE (by first | (simp; done) | grind)) ?_
     intro v77 q77 hq77
     obtain ⟨cs77, rfl, rl77⟩ := hq77
     refine w_q rfl (fun h' L' hh hR => zZ rfl) rfl (w_q rfl (fun h' L' hh hR => zZ rfl) rfl (xA (xB (zB (zA (mv rfl rfl (gv (zR (q := 1) rfl rfl (by omega) (by omega)) rfl (asg rfl rfl (zD (xF (A := []) (xF (A := []) (xF (A := []) ?_))))))))))))
     refine yR ((i + 1), ((B ++ [(l.getD i (T3.mk (0 : Rat) 0 0))]) ++ [btw s (l.getD i (T3.mk (0 : Rat) 0 0)) (l.getD ((i + 1) % l.length) (T3.mk (0 : Rat) 0 0))]), (F ++ [btw s (l.getD i (T3.mk (0 : Rat) 0 0)) (l.getD ((i + 1) % l.length) (T3.mk (0 : Rat) 0 0))]), v73, cs73, v77, cs77, h6) ?_ ?_ e7 rfl rfl
     ·
      refine ⟨((((((hmmb.trans hh1).trans hh2).trans hh3).trans hh4).trans hh5).trans hh6), ?_⟩
      replace rl73 := rl73.mono hh6
      refine ⟨rl73, rl77, ?_⟩
      exact ⟨⟨by omega, (by first | exact jK hB hp1 hx1 | exact fF hB hp1 hx1 | exact fL hB hp1 hx1 | exact fM hB hp1 hx1)⟩, (by first | exact jJ hF hp2 hx1 | exact fE hF hp2 hx1 | exact fJ hF hp2 hx1 | exact fK hF hp2 hx1)⟩
     dsimp only
     omega
    refine qD (fun X => xD (ρ := (rpT (rpQ (12 * k + 3 * m + 9 * n + 62)))) (m := 1) (xs := [btw s (l.getD i (T3.mk (0 : Rat) 0 0)) (l.getD ((i + 1) % l.length) (T3.mk (0 : Rat) 0 0))]) (ps' := [(0, _)]) underlying27 yD rfl rfl rfl (wH (wA (by omega))) e2z (yX rfl (Pc.arr (Pc.here _) (T3.mk (0 : Rat) 0 0) 0 (by decide)) r75 wD) (show 1 * 9 ≤ 16777216 from by decide) p9N) rfl ?_
    intro v76 q76 hq76
    obtain ⟨cs76, rfl, rl76⟩ := hq76
    refine qD (fun X => xD (ρ := (rpT (rpQ (12 * k + 3 * m + 9 * n + 62)))) (m := 1) (xs := [btw s (l.getD i (T3.mk (0 : Rat) 0 0)) (l.getD ((i + 1) % l.length) (T3.mk (0 : Rat) 0 0))]) (ps' := [(0, _)]) underlying27 yD rfl rfl rfl (wH (wA (by omega))) e2z (yX rfl (Pc.arr (Pc.here _) (T3.mk (0 : Rat) 0 0) 0 (by decide)) r71 wD) (show 1 * 9 ≤ 16777216 from by decide) p9N) rfl ?_
    intro v72 q72 hq72
    obtain ⟨cs72, rfl, rl72⟩ := hq72
    refine xR (A := []) (ρ := (rpT (rpQ (12 * k + 3 * m + 9 * n + 62)))) rl72 (xS (by first | (simp; done) | grind)) ?_
    intro h5 hh5 rs_31
    replace rl45 := rl45.mono (hh4.trans hh5)
    refine uK (A := [_, _, _, _, _]) (fun X => yN (ρ := (rpT (rpQ (12 * k + 3 * m + 9 * n + 62)))) (bytes := 168) underlying27 yD rfl rfl rfl rfl p9N rfl rfl rl45 rs_31 (by first | omega | (simp only [lAz, lC, lN, lR, lS]; omega)) (by first | omega | (simp only [lAz, lC, lN, lR, lS]; omega))) rfl (xE (by first | (simp; done) | grind)) ?_
    intro v73 q73 hq73
    obtain ⟨cs73, rfl, rl73⟩ := hq73
    refine w_c rfl ?_
    replace rl76 := rl76.mono hh5
    refine xR (A := []) (ρ := (rpT (rpQ (12 * k + 3 * m + 9 * n + 62)))) rl76 (xS (by first | (simp; done) | grind)) ?_
    intro h6 hh6 rs_32
    replace rl_8 := rl_8.mono (((((hh1.trans hh2).trans hh3).trans hh4).trans hh5).trans hh6)
    refine uK (A := [_, _, _]) (fun X => yN (ρ := (rpT (rpQ (12 * k + 3 * m + 9 * n + 62)))) (bytes := 168) underlying27 yD rfl rfl rfl rfl p9N rfl rfl rl_8 rs_32 (by first | omega | (simp only [lAz, lC, lN, lR, lS]; omega)) (by first | omega | (simp only [lAz, lC, lN, lR, lS]; omega))) rfl (xE (by first | (simp; done) | grind)) ?_
    intro v77 q77 hq77
    obtain ⟨cs77, rfl, rl77⟩ := hq77
    refine w_q rfl (fun h' L' hh hR => zZ rfl) rfl (w_q rfl (fun h' L' hh hR => zZ rfl) rfl (xA (xB (zB (zA (mv rfl rfl (gv (zR (q := 1) rfl rfl (by omega) (by omega)) rfl (asg rfl rfl (zD (xF (A := []) (xF (A := []) (xF (A := []) ?_))))))))))))
    refine yR ((i + 1), ((B ++ [(l.getD i (T3.mk (0 : Rat) 0 0))]) ++ [btw s (l.getD i (T3.mk (0 : Rat) 0 0)) (l.getD ((i + 1) % l.length) (T3.mk (0 : Rat) 0 0))]), (F ++ [btw s (l.getD i (T3.mk (0 : Rat) 0 0)) (l.getD ((i + 1) % l.length) (T3.mk (0 : Rat) 0 0))]), v73, cs73, v77, cs77, h6) ?_ ?_ e7 rfl rfl
    ·
     refine ⟨((((((hmmb.trans hh1).trans hh2).trans hh3).trans hh4).trans hh5).trans hh6), ?_⟩
     replace rl73 := rl73.mono hh6
     refine ⟨rl73, rl77, ?_⟩
     exact ⟨⟨by omega, (by first | exact jK hB hp1 hx1 | exact fF hB hp1 hx1 | exact fL hB hp1 hx1 | exact fM hB hp1 hx1)⟩, (by first | exact jJ hF hp2 hx1 | exact fE hF hp2 hx1 | exact fJ hF hp2 hx1 | exact fK hF hp2 hx1)⟩
    dsimp only
    omega
   have hx1 : ¬ xP s l i := hc65
   refine wM (e' := [(0, _), (3, _), (7, _), (10, _), (6, _), (8, _), (9, _)]) e7 (zL (xB (zB (zA (mv rfl rfl (gv (zR (q := 1) rfl rfl (by omega) (by omega)) rfl (asg rfl rfl (zD (xF (A := []) (xF (A := []) ?_))))))))))
   refine yR ((i + 1), (B ++ [(l.getD i (T3.mk (0 : Rat) 0 0))]), F, v45, cs45, s7_6, cs_7, h3) ?_ ?_ e7 rfl rfl
   ·
    refine ⟨(((hmmb.trans hh1).trans hh2).trans hh3), ?_⟩
    replace rl_8 := rl_8.mono ((hh1.trans hh2).trans hh3)
    refine ⟨rl45, rl_8, ?_⟩
    exact ⟨⟨by omega, (by first | exact jK hB hp1 hx1 | exact fF hB hp1 hx1 | exact fL hB hp1 hx1 | exact fM hB hp1 hx1)⟩, (by first | exact jJ hF hp2 hx1 | exact fE hF hp2 hx1 | exact fJ hF hp2 hx1 | exact fK hF hp2 hx1)⟩
   dsimp only
   omega
  have hp1 : ¬ sdZ s (gp l i) ≤ 0 := hc41
  refine zL (zB (zC (zC (zA (mv rfl rfl (gv (qJ (q := 0) rfl rfl) rfl (zD (zB ?_))))))))
  refine zO rfl (fun hc47 => ?_) (fun hc47 => ?_)
  ·
   have hp2 : 0 ≤ sdZ s (gp l i) := hc47
   refine wM (e' := [(0, _), (3, _), (6, _), (7, _), (8, _), (9, _), (10, _), (11, _), (12, _), (13, _), (14, _)]) e11 (zA (mv rfl rfl ?_))
   replace rb_10 := rb_10.mono (hh1.trans hh2)
   refine wF (F := fun v_ => (rpT (rpQ (k + 1))).Is h2 v_ (l.getD i (T3.mk (0 : Rat) 0 0))) (zE yZ (Pc.here _) rfl rfl rb_10 rfl) (yF (.tail _ (.head _))) rfl ?_
   intro v49 r49
   refine zK (xD (ρ := (rpT (rpQ (k + 1)))) (m := 1) (xs := [(l.getD i (T3.mk (0 : Rat) 0 0))]) (ps' := [(0, _)]) underlying27 yD rfl rfl rfl (wH (wA (by omega))) e2z (yX rfl (Pc.arr (Pc.here _) (T3.mk (0 : Rat) 0 0) 0 (by decide)) r49 wD) (show 1 * 9 ≤ 16777216 from by decide) p9N) rfl rfl rfl ?_
   intro v50 q50 hq50
   obtain ⟨cs50, rfl, rl50⟩ := hq50
   refine kJ (A := []) (ρ := (rpT (rpQ (k + 1)))) rl50 ?_
   intro h3 hh3 rs_33
   replace rl_8 := rl_8.mono ((hh1.trans hh2).trans hh3)
   refine jB (A := [_, _]) (yN (ρ := (rpT (rpQ (12 * k + 3 * m + 9 * n + 62)))) (bytes := 168) underlying27 yD rfl rfl rfl rfl p9N rfl rfl rl_8 (rs_33.le (Le.s (Le.t (Le.q (l := 12 * k + 3 * m + 9 * n + 62) (by omega))))) (by first | omega | (simp only [lAz, lC, lN, lR, lS]; omega)) (by first | omega | (simp only [lAz, lC, lN, lR, lS]; omega))) rfl rfl rfl ?_
   intro v51 q51 hq51
   obtain ⟨cs51, rfl, rl51⟩ := hq51
   refine asg rfl rfl (zD (zB (zC (zA (mv rfl rfl ?_)))))
   refine vS (ι := Unit) 4 (fun _ => True) (fun _ => [(56, vB ((qN s l i) ∨ ((sdZ s (l.getD i (T3.mk (0 : Rat) 0 0))) < (0 : Int)))), (0, vl), (3, vP b3 0), (6, s6_3), (9, vB (qG s l i)), (10, vI ↑i), (11, vP b11 0), (12, vP b12 0), (13, vI (sdZ s (l.getD i (T3.mk (0 : Rat) 0 0)))), (14, vI (sdZ s (l.getD ((i + 1) % l.length) (T3.mk (0 : Rat) 0 0)))), (7, v51)]) (fun _ => [.var b12 32 cs_11, .var b11 32 cs_9, .gs 32 9 v51 (F ++ [(l.getD i (T3.mk (0 : Rat) 0 0))]).length cs51, .gs 32 9 s6_3 B.length cs_4, .var b3 34 cs3]) (fun _ => h3) ?_ ?_
   ·
    refine wI (qN s l i) (fun hg => ?_) (fun hg => ?_)
    ·
     refine xH (zF (v := .bool true) (congrArg some (xJ hg))) rfl rfl rfl (yK rfl rfl rfl rfl rfl rfl (yK rfl rfl rfl rfl rfl rfl (gv (xC rfl rfl) rfl (zD ?_))))
     refine yM () trivial ⟨?_, rfl, rfl, rfl, rfl, rfl, rfl, rfl, rfl, rfl, rfl, trivial⟩ rfl rfl
     exact congrArg some (qU hg)
    refine xH (zF (v := .bool false) (congrArg some (yS hg))) rfl rfl rfl (yU rfl rfl rfl (mv rfl rfl (yU rfl rfl rfl (gv (zW (q := 0) rfl rfl) rfl (gv (xN rfl rfl) rfl (zD ?_))))))
    refine yM () trivial ⟨?_, rfl, rfl, rfl, rfl, rfl, rfl, rfl, rfl, rfl, rfl, trivial⟩ rfl rfl
    exact congrArg some (qV hg)
   intro _ _
   show GL _ _ _ _ _ _ _ [(56, vB ((qN s l i) ∨ ((sdZ s (l.getD i (T3.mk (0 : Rat) 0 0))) < (0 : Int)))), (0, vl), (3, vP b3 0), (6, s6_3), (9, vB (qG s l i)), (10, vI ↑i), (11, vP b11 0), (12, vP b12 0), (13, vI (sdZ s (l.getD i (T3.mk (0 : Rat) 0 0)))), (14, vI (sdZ s (l.getD ((i + 1) % l.length) (T3.mk (0 : Rat) 0 0)))), (7, v51)] [.var b12 32 cs_11, .var b11 32 cs_9, .gs 32 9 v51 (F ++ [(l.getD i (T3.mk (0 : Rat) 0 0))]).length cs51, .gs 32 9 s6_3 B.length cs_4, .var b3 34 cs3] h3
   refine mv rfl rfl ?_
   refine vS (ι := Unit) 4 (fun _ => True) (fun _ => [(61, vB ((qG s l i) ∨ ((0 : Int) < (sdZ s (l.getD i (T3.mk (0 : Rat) 0 0)))))), (0, vl), (3, vP b3 0), (6, s6_3), (10, vI ↑i), (11, vP b11 0), (12, vP b12 0), (13, vI (sdZ s (l.getD i (T3.mk (0 : Rat) 0 0)))), (14, vI (sdZ s (l.getD ((i + 1) % l.length) (T3.mk (0 : Rat) 0 0)))), (7, v51), (56, vB ((qN s l i) ∨ ((sdZ s (l.getD i (T3.mk (0 : Rat) 0 0))) < (0 : Int))))]) (fun _ => [.var b12 32 cs_11, .var b11 32 cs_9, .gs 32 9 v51 (F ++ [(l.getD i (T3.mk (0 : Rat) 0 0))]).length cs51, .gs 32 9 s6_3 B.length cs_4, .var b3 34 cs3]) (fun _ => h3) ?_ ?_
   ·
    refine wI (qG s l i) (fun hg => ?_) (fun hg => ?_)
    ·
     refine xH (zF (v := .bool true) (congrArg some (xJ hg))) rfl rfl rfl (yK rfl rfl rfl rfl rfl rfl (yK rfl rfl rfl rfl rfl rfl (gv (xC rfl rfl) rfl (zD ?_))))
     refine yM () trivial ⟨?_, rfl, rfl, rfl, rfl, rfl, rfl, rfl, rfl, rfl, rfl, trivial⟩ rfl rfl
     exact congrArg some (qU hg)
    refine xH (zF (v := .bool false) (congrArg some (yS hg))) rfl rfl rfl (yU rfl rfl rfl (mv rfl rfl (yU rfl rfl rfl (gv (vY (q := 0) rfl rfl) rfl (gv (xN rfl rfl) rfl (zD ?_))))))
    refine yM () trivial ⟨?_, rfl, rfl, rfl, rfl, rfl, rfl, rfl, rfl, rfl, rfl, trivial⟩ rfl rfl
    exact congrArg some (qV hg)
   intro _ _
   show GL _ _ _ _ _ _ _ [(61, vB ((qG s l i) ∨ ((0 : Int) < (sdZ s (l.getD i (T3.mk (0 : Rat) 0 0)))))), (0, vl), (3, vP b3 0), (6, s6_3), (10, vI ↑i), (11, vP b11 0), (12, vP b12 0), (13, vI (sdZ s (l.getD i (T3.mk (0 : Rat) 0 0)))), (14, vI (sdZ s (l.getD ((i + 1) % l.length) (T3.mk (0 : Rat) 0 0)))), (7, v51), (56, vB ((qN s l i) ∨ ((sdZ s (l.getD i (T3.mk (0 : Rat) 0 0))) < (0 : Int))))] [.var b12 32 cs_11, .var b11 32 cs_9, .gs 32 9 v51 (F ++ [(l.getD i (T3.mk (0 : Rat) 0 0))]).length cs51, .gs 32 9 s6_3 B.length cs_4, .var b3 34 cs3] h3
   refine asg rfl rfl (asg rfl rfl (zD (zB (zC (zA (mv rfl rfl (mv rfl rfl (gv (jU rfl rfl (by have := qO hsd36 hsd39; omega) (by have := qO hsd36 hsd39; omega)) rfl (gv (zW (q := 0) rfl rfl) rfl (zD (zB ?_)))))))))))
   refine zO rfl (fun hc65 => ?_) (fun hc65 => ?_)
   ·
    have hx1 : xP s l i := hc65
    refine zC (zA ?_)
    replace rb_10 := rb_10.mono hh3
    refine wF (F := fun v_ => (rpT (rpQ (k + 1))).Is h3 v_ (l.getD i (T3.mk (0 : Rat) 0 0))) (zE yZ (Pc.here _) rfl rfl rb_10 rfl) (yF (.tail _ (.head _))) rfl ?_
    intro v66 r66
    replace rb_12 := rb_12.mono ((hh1.trans hh2).trans hh3)
    refine wF (F := fun v_ => (rpT (rpQ (k + 1))).Is h3 v_ (l.getD ((i + 1) % l.length) (T3.mk (0 : Rat) 0 0))) (zE yZ (Pc.here _) rfl rfl rb_12 rfl) (yF (.head _)) rfl ?_
    intro v67 r67
    replace rb3 := rb3.mono ((hh1.trans hh2).trans hh3)
    refine wF (F := fun v_ => (rpP (rpT (rpQ n)) (rpQ m)).Is h3 v_ s) (zE jM (Pc.here _) rfl rfl rb3 rfl) (yF (.tail _ (.tail _ (.tail _ (.tail _ (.head _)))))) rfl ?_
    intro v68 r68
    refine zM (vs := [_, _, _]) rfl rfl rfl rfl call49 e3z (fun w hs => sF hs r66 r67 r68 (by omega) (by omega) (by omega)) ?_
    intro v69 h4 hh4 r69
    change (rpT (rpQ (12 * (k + 1) + 3 * m + 9 * n + 50))).Is h4 v69 (btw s (l.getD i (T3.mk (0 : Rat) 0 0)) (l.getD ((i + 1) % l.length) (T3.mk (0 : Rat) 0 0))) at r69
    replace r69 := Rp.Is.le r69 (Le.t (Le.q (l := 12 * k + 3 * m + 9 * n + 62) (by omega)))
    refine zK (yY (ρ := (rpT (rpQ 1))) (X := (T3.mk (0 : Rat) 0 0)) yD rfl rfl (wH (wA (by decide)))) rfl rfl rfl ?_
    intro v15 q15 hq15
    obtain ⟨b15, cs15, rfl, rfl, rb15⟩ := hq15
    have rw_34 := (Le.t (Le.q (l := 12 * k + 3 * m + 9 * n + 62) (by omega))).R rb15
    refine wB (A := []) (F := fun c_ => (rpT (rpQ (12 * k + 3 * m + 9 * n + 62))).R h4 c_ (btw s (l.getD i (T3.mk (0 : Rat) 0 0)) (l.getD ((i + 1) % l.length) (T3.mk (0 : Rat) 0 0)))) (yG sizeOf32 (Pc.here _) rfl rfl rfl rw_34 r69 rfl) ?_
    intro cs_35 rb_36
    refine zD (zJ (e' := [(0, _), (3, _), (6, _), (10, _), (7, _), (8, _), (9, _), (15, _)]) e8 (zB ?_))
    refine yI 10 [.var b15 32 cs_35, .var b12 32 cs_11, .var b11 32 cs_9, .var b3 34 cs3] [] [(0, .q), (1, .q), (4, .q), (5, .q), (2, .d 3 6), (7, .c), (8, .q), (9, .q)] xI nX (by kernel_rfl) nX (by intro r hr; simp only [List.mem_cons, List.mem_append, List.not_mem_nil, or_false] at hr ⊢ <;> grind) (w_q rfl (fun h' L' hh hR => zF rfl) rfl (yP (F := fun v_ => (rpT (rpQ (12 * k + 3 * m + 9 * n + 62))).Is h4 v_ (btw s (l.getD i (T3.mk (0 : Rat) 0 0)) (l.getD ((i + 1) % l.length) (T3.mk (0 : Rat) 0 0)))) rfl (zE yZ (Pc.here _) rfl rfl rb_36 rfl) (yF (.head _)) rfl ?_))
    intro v71 r71
    refine w_q rfl (fun h' L' hh hR => zF rfl) rfl (yP (F := fun v_ => (rpT (rpQ (12 * k + 3 * m + 9 * n + 62))).Is h4 v_ (btw s (l.getD i (T3.mk (0 : Rat) 0 0)) (l.getD ((i + 1) % l.length) (T3.mk (0 : Rat) 0 0)))) rfl (zE yZ (Pc.here _) rfl rfl rb_36 rfl) (yF (.head _)) rfl ?_)
    intro v75 r75
    refine w_d rfl rfl rfl ?_ ?_
    ·
     refine qD (fun X => xD (ρ := (rpT (rpQ (12 * k + 3 * m + 9 * n + 62)))) (m := 1) (xs := [btw s (l.getD i (T3.mk (0 : Rat) 0 0)) (l.getD ((i + 1) % l.length) (T3.mk (0 : Rat) 0 0))]) (ps' := [(0, _)]) underlying27 yD rfl rfl rfl (wH (wA (by omega))) e2z (yX rfl (Pc.arr (Pc.here _) (T3.mk (0 : Rat) 0 0) 0 (by decide)) r71 wD) (show 1 * 9 ≤ 16777216 from by decide) p9N) rfl ?_
     intro v72 q72 hq72
     obtain ⟨cs72, rfl, rl72⟩ := hq72
     refine ⟨?_, ?_⟩
     ·
      refine xR (A := []) (ρ := (rpT (rpQ (12 * k + 3 * m + 9 * n + 62)))) rl72 (xS (by first | (simp; done) | grind)) ?_
      intro h5 hh5 rs_37
      replace rl_5 := rl_5.mono ((((hh1.trans hh2).trans hh3).trans hh4).trans hh5)
      refine uK (A := [_, _, _, _]) (fun X => yN (ρ := (rpT (rpQ (12 * k + 3 * m + 9 * n + 62)))) (bytes := 168) underlying27 yD rfl rfl rfl rfl p9N rfl rfl rl_5 rs_37 (by first | omega | (simp only [lAz, lC, lN, lR, lS]; omega)) (by first | omega | (simp only [lAz, lC, lN, lR, lS]; omega))) rfl (xE (by first | (simp; done) | grind)) ?_
      intro v73 q73 hq73
      obtain ⟨cs73, rfl, rl73⟩ := hq73
      replace r75 := r75.mono hh5
      refine qD (fun X => xD (ρ := (rpT (rpQ (12 * k + 3 * m + 9 * n + 62)))) (m := 1) (xs := [btw s (l.getD i (T3.mk (0 : Rat) 0 0)) (l.getD ((i + 1) % l.length) (T3.mk (0 : Rat) 0 0))]) (ps' := [(0, _)]) underlying27 yD rfl rfl rfl (wH (wA (by omega))) e2z (yX rfl (Pc.arr (Pc.here _) (T3.mk (0 : Rat) 0 0) 0 (by decide)) r75 wD) (show 1 * 9 ≤ 16777216 from by decide) p9N) rfl ?_
      intro v76 q76 hq76
      obtain ⟨cs76, rfl, rl76⟩ := hq76
      refine w_c rfl (xR (A := []) (ρ := (rpT (rpQ (12 * k + 3 * m + 9 * n + 62)))) rl76 (xS (by first | (simp; done) | grind)) ?_)
      intro h6 hh6 rs_38
      replace rl51 := rl51.mono ((hh4.trans hh5).trans hh6)
      refine uK (A := [_, _, _]) (fun X => yN (ρ := (rpT (rpQ (12 * k + 3 * m + 9 * n + 62)))) (bytes := 168) underlying27 yD rfl rfl rfl rfl p9N rfl rfl rl51 rs_38 (by first | omega | (simp only [lAz, lC, lN, lR, lS]; omega)) (by first | omega | (simp only [lAz, lC, lN, lR, lS]; omega))) rfl (xE (by first | (simp; done) | grind)) ?_
      intro v77 q77 hq77
      obtain ⟨cs77, rfl, rl77⟩ := hq77
      refine w_q rfl (fun h' L' hh hR => zZ rfl) rfl (w_q rfl (fun h' L' hh hR => zZ rfl) rfl (xA (xB (zB (zA (mv rfl rfl (gv (zR (q := 1) rfl rfl (by omega) (by omega)) rfl (asg rfl rfl (zD (xF (A := []) (xF (A := []) (xF (A := []) ?_))))))))))))
      refine yR ((i + 1), (B ++ [btw s (l.getD i (T3.mk (0 : Rat) 0 0)) (l.getD ((i + 1) % l.length) (T3.mk (0 : Rat) 0 0))]), ((F ++ [(l.getD i (T3.mk (0 : Rat) 0 0))]) ++ [btw s (l.getD i (T3.mk (0 : Rat) 0 0)) (l.getD ((i + 1) % l.length) (T3.mk (0 : Rat) 0 0))]), v73, cs73, v77, cs77, h6) ?_ ?_ e7 rfl rfl
      ·
       refine ⟨((((((hmmb.trans hh1).trans hh2).trans hh3).trans hh4).trans hh5).trans hh6), ?_⟩
       replace rl73 := rl73.mono hh6
       refine ⟨rl73, rl77, ?_⟩
       exact ⟨⟨by omega, (by first | exact jK hB hp1 hx1 | exact fF hB hp1 hx1 | exact fL hB hp1 hx1 | exact fM hB hp1 hx1)⟩, (by first | exact jJ hF hp2 hx1 | exact fE hF hp2 hx1 | exact fJ hF hp2 hx1 | exact fK hF hp2 hx1)⟩
      dsimp only
      omega
     refine qD (fun X => xD (ρ := (rpT (rpQ (12 * k + 3 * m + 9 * n + 62)))) (m := 1) (xs := [btw s (l.getD i (T3.mk (0 : Rat) 0 0)) (l.getD ((i + 1) % l.length) (T3.mk (0 : Rat) 0 0))]) (ps' := [(0, _)]) underlying27 yD rfl rfl rfl (wH (wA (by omega))) e2z (yX rfl (Pc.arr (Pc.here _) (T3.mk (0 : Rat) 0 0) 0 (by decide)) r75 wD) (show 1 * 9 ≤ 16777216 from by decide) p9N) rfl ?_
     intro v76 q76 hq76
     obtain ⟨cs76, rfl, rl76⟩ := hq76
     refine xR (A := [_]) (ρ := (rpT (rpQ (12 * k + 3 * m + 9 * n + 62)))) rl72 (xS (by first | (simp; done) | grind)) ?_
     intro h5 hh5 rs_39
     replace rl_5 := rl_5.mono ((((hh1.trans hh2).trans hh3).trans hh4).trans hh5)
     refine uK (A := [_, _, _, _, _]) (fun X => yN (ρ := (rpT (rpQ (12 * k + 3 * m + 9 * n + 62)))) (bytes := 168) underlying27 yD rfl rfl rfl rfl p9N rfl rfl rl_5 rs_39 (by first | omega | (simp only [lAz, lC, lN, lR, lS]; omega)) (by first | omega | (simp only [lAz, lC, lN, lR, lS]; omega))) rfl (xE (by first | (simp; done) | grind)) ?_
     intro v73 q73 hq73
     obtain ⟨cs73, rfl, rl73⟩ := hq73
     refine w_c rfl ?_
     replace rl76 := rl76.mono hh5
     refine xR (A := []) (ρ := (rpT (rpQ (12 * k + 3 * m + 9 * n + 62)))) rl76 (xS (by first | (simp; done) | grind)) ?_
     intro h6 hh6 rs_40
     replace rl51 := rl51.mono ((hh4.trans hh5).trans hh6)
     refine uK (A := [_, _, _]) (fun X => yN (ρ := (rpT (rpQ (12 * k + 3 * m + 9 * n + 62)))) (bytes := 168) underlying27 yD rfl rfl rfl rfl p9N rfl rfl rl51 rs_40 (by first | omega | (simp only [lAz, lC, lN, lR, lS]; omega)) (by first | omega | (simp only [lAz, lC, lN, lR, lS]; omega))) rfl (xE (by first | (simp; done) | grind)) ?_
     intro v77 q77 hq77
     obtain ⟨cs77, rfl, rl77⟩ := hq77
     refine w_q rfl (fun h' L' hh hR => zZ rfl) rfl (w_q rfl (fun h' L' hh hR => zZ rfl) rfl (xA (xB (zB (zA (mv rfl rfl (gv (zR (q := 1) rfl rfl (by omega) (by omega)) rfl (asg rfl rfl (zD (xF (A := []) (xF (A := []) (xF (A := []) ?_))))))))))))
     refine yR ((i + 1), (B ++ [btw s (l.getD i (T3.mk (0 : Rat) 0 0)) (l.getD ((i + 1) % l.length) (T3.mk (0 : Rat) 0 0))]), ((F ++ [(l.getD i (T3.mk (0 : Rat) 0 0))]) ++ [btw s (l.getD i (T3.mk (0 : Rat) 0 0)) (l.getD ((i + 1) % l.length) (T3.mk (0 : Rat) 0 0))]), v73, cs73, v77, cs77, h6) ?_ ?_ e7 rfl rfl
     ·
      refine ⟨((((((hmmb.trans hh1).trans hh2).trans hh3).trans hh4).trans hh5).trans hh6), ?_⟩
      replace rl73 := rl73.mono hh6
      refine ⟨rl73, rl77, ?_⟩
      exact ⟨⟨by omega, (by first | exact jK hB hp1 hx1 | exact fF hB hp1 hx1 | exact fL hB hp1 hx1 | exact fM hB hp1 hx1)⟩, (by first | exact jJ hF hp2 hx1 | exact fE hF hp2 hx1 | exact fJ hF hp2 hx1 | exact fK hF hp2 hx1)⟩
     dsimp only
     omega
    refine qD (fun X => xD (ρ := (rpT (rpQ (12 * k + 3 * m + 9 * n + 62)))) (m := 1) (xs := [btw s (l.getD i (T3.mk (0 : Rat) 0 0)) (l.getD ((i + 1) % l.length) (T3.mk (0 : Rat) 0 0))]) (ps' := [(0, _)]) underlying27 yD rfl rfl rfl (wH (wA (by omega))) e2z (yX rfl (Pc.arr (Pc.here _) (T3.mk (0 : Rat) 0 0) 0 (by decide)) r75 wD) (show 1 * 9 ≤ 16777216 from by decide) p9N) rfl ?_
    intro v76 q76 hq76
    obtain ⟨cs76, rfl, rl76⟩ := hq76
    refine qD (fun X => xD (ρ := (rpT (rpQ (12 * k + 3 * m + 9 * n + 62)))) (m := 1) (xs := [btw s (l.getD i (T3.mk (0 : Rat) 0 0)) (l.getD ((i + 1) % l.length) (T3.mk (0 : Rat) 0 0))]) (ps' := [(0, _)]) underlying27 yD rfl rfl rfl (wH (wA (by omega))) e2z (yX rfl (Pc.arr (Pc.here _) (T3.mk (0 : Rat) 0 0) 0 (by decide)) r71 wD) (show 1 * 9 ≤ 16777216 from by decide) p9N) rfl ?_
    intro v72 q72 hq72
    obtain ⟨cs72, rfl, rl72⟩ := hq72
    refine xR (A := []) (ρ := (rpT (rpQ (12 * k + 3 * m + 9 * n + 62)))) rl72 (xS (by first | (simp; done) | grind)) ?_
    intro h5 hh5 rs_41
    replace rl_5 := rl_5.mono ((((hh1.trans hh2).trans hh3).trans hh4).trans hh5)
    refine uK (A := [_, _, _, _, _]) (fun X => yN (ρ := (rpT (rpQ (12 * k + 3 * m + 9 * n + 62)))) (bytes := 168) underlying27 yD rfl rfl rfl rfl p9N rfl rfl rl_5 rs_41 (by first | omega | (simp only [lAz, lC, lN, lR, lS]; omega)) (by first | omega | (simp only [lAz, lC, lN, lR, lS]; omega))) rfl (xE (by first | (simp; done) | grind)) ?_
    intro v73 q73 hq73
    obtain ⟨cs73, rfl, rl73⟩ := hq73
    refine w_c rfl ?_
    replace rl76 := rl76.mono hh5
    refine xR (A := []) (ρ := (rpT (rpQ (12 * k + 3 * m + 9 * n + 62)))) rl76 (xS (by first | (simp; done) | grind)) ?_
    intro h6 hh6 rs_42
    replace rl51 := rl51.mono ((hh4.trans hh5).trans hh6)
    refine uK (A := [_, _, _]) (fun X => yN (ρ := (rpT (rpQ (12 * k + 3 * m + 9 * n + 62)))) (bytes := 168) underlying27 yD rfl rfl rfl rfl p9N rfl rfl rl51 rs_42 (by first | omega | (simp only [lAz, lC, lN, lR, lS]; omega)) (by first | omega | (simp only [lAz, lC, lN, lR, lS]; omega))) rfl (xE (by first | (simp; done) | grind)) ?_
    intro v77 q77 hq77
    obtain ⟨cs77, rfl, rl77⟩ := hq77
    refine w_q rfl (fun h' L' hh hR => zZ rfl) rfl (w_q rfl (fun h' L' hh hR => zZ rfl) rfl (xA (xB (zB (zA (mv rfl rfl (gv (zR (q := 1) rfl rfl (by omega) (by omega)) rfl (asg rfl rfl (zD (xF (A := []) (xF (A := []) (xF (A := []) ?_))))))))))))
    refine yR ((i + 1), (B ++ [btw s (l.getD i (T3.mk (0 : Rat) 0 0)) (l.getD ((i + 1) % l.length) (T3.mk (0 : Rat) 0 0))]), ((F ++ [(l.getD i (T3.mk (0 : Rat) 0 0))]) ++ [btw s (l.getD i (T3.mk (0 : Rat) 0 0)) (l.getD ((i + 1) % l.length) (T3.mk (0 : Rat) 0 0))]), v73, cs73, v77, cs77, h6) ?_ ?_ e7 rfl rfl
    ·
     refine ⟨((((((hmmb.trans hh1).trans hh2).trans hh3).trans hh4).trans hh5).trans hh6), ?_⟩
     replace rl73 := rl73.mono hh6
     refine ⟨rl73, rl77, ?_⟩
     exact ⟨⟨by omega, (by first | exact jK hB hp1 hx1 | exact fF hB hp1 hx1 | exact fL hB hp1 hx1 | exact fM hB hp1 hx1)⟩, (by first | exact jJ hF hp2 hx1 | exact fE hF hp2 hx1 | exact fJ hF hp2 hx1 | exact fK hF hp2 hx1)⟩
    dsimp only
    omega
   have hx1 : ¬ xP s l i := hc65
   refine wM (e' := [(0, _), (3, _), (6, _), (10, _), (7, _), (8, _), (9, _)]) e7 (zL (xB (zB (zA (mv rfl rfl (gv (zR (q := 1) rfl rfl (by omega) (by omega)) rfl (asg rfl rfl (zD (xF (A := []) (xF (A := []) ?_))))))))))
   refine yR ((i + 1), B, (F ++ [(l.getD i (T3.mk (0 : Rat) 0 0))]), s6_3, cs_4, v51, cs51, h3) ?_ ?_ e7 rfl rfl
   ·
    refine ⟨(((hmmb.trans hh1).trans hh2).trans hh3), ?_⟩
    replace rl_5 := rl_5.mono ((hh1.trans hh2).trans hh3)
    refine ⟨rl_5, rl51, ?_⟩
    exact ⟨⟨by omega, (by first | exact jK hB hp1 hx1 | exact fF hB hp1 hx1 | exact fL hB hp1 hx1 | exact fM hB hp1 hx1)⟩, (by first | exact jJ hF hp2 hx1 | exact fE hF hp2 hx1 | exact fJ hF hp2 hx1 | exact fK hF hp2 hx1)⟩
   dsimp only
   omega
  have hp2 : ¬ 0 ≤ sdZ s (gp l i) := hc47
  refine wM (e' := [(0, _), (3, _), (6, _), (7, _), (8, _), (9, _), (10, _), (11, _), (12, _), (13, _), (14, _)]) e11 (zL (zB (zC (zA (mv rfl rfl ?_)))))
  refine vS (ι := Unit) 4 (fun _ => True) (fun _ => [(56, vB ((qN s l i) ∨ ((sdZ s (l.getD i (T3.mk (0 : Rat) 0 0))) < (0 : Int)))), (0, vl), (3, vP b3 0), (6, s6_3), (7, s7_6), (9, vB (qG s l i)), (10, vI ↑i), (11, vP b11 0), (12, vP b12 0), (13, vI (sdZ s (l.getD i (T3.mk (0 : Rat) 0 0)))), (14, vI (sdZ s (l.getD ((i + 1) % l.length) (T3.mk (0 : Rat) 0 0))))]) (fun _ => [.var b12 32 cs_11, .var b11 32 cs_9, .gs 32 9 s7_6 F.length cs_7, .gs 32 9 s6_3 B.length cs_4, .var b3 34 cs3]) (fun _ => h2) ?_ ?_
  ·
   refine wI (qN s l i) (fun hg => ?_) (fun hg => ?_)
   ·
    refine xH (zF (v := .bool true) (congrArg some (xJ hg))) rfl rfl rfl (yK rfl rfl rfl rfl rfl rfl (yK rfl rfl rfl rfl rfl rfl (gv (xC rfl rfl) rfl (zD ?_))))
    refine yM () trivial ⟨?_, rfl, rfl, rfl, rfl, rfl, rfl, rfl, rfl, rfl, rfl, trivial⟩ rfl rfl
    exact congrArg some (qU hg)
   refine xH (zF (v := .bool false) (congrArg some (yS hg))) rfl rfl rfl (yU rfl rfl rfl (mv rfl rfl (yU rfl rfl rfl (gv (zW (q := 0) rfl rfl) rfl (gv (xN rfl rfl) rfl (zD ?_))))))
   refine yM () trivial ⟨?_, rfl, rfl, rfl, rfl, rfl, rfl, rfl, rfl, rfl, rfl, trivial⟩ rfl rfl
   exact congrArg some (qV hg)
  intro _ _
  show GL _ _ _ _ _ _ _ [(56, vB ((qN s l i) ∨ ((sdZ s (l.getD i (T3.mk (0 : Rat) 0 0))) < (0 : Int)))), (0, vl), (3, vP b3 0), (6, s6_3), (7, s7_6), (9, vB (qG s l i)), (10, vI ↑i), (11, vP b11 0), (12, vP b12 0), (13, vI (sdZ s (l.getD i (T3.mk (0 : Rat) 0 0)))), (14, vI (sdZ s (l.getD ((i + 1) % l.length) (T3.mk (0 : Rat) 0 0))))] [.var b12 32 cs_11, .var b11 32 cs_9, .gs 32 9 s7_6 F.length cs_7, .gs 32 9 s6_3 B.length cs_4, .var b3 34 cs3] h2
  refine mv rfl rfl ?_
  refine vS (ι := Unit) 4 (fun _ => True) (fun _ => [(61, vB ((qG s l i) ∨ ((0 : Int) < (sdZ s (l.getD i (T3.mk (0 : Rat) 0 0)))))), (0, vl), (3, vP b3 0), (6, s6_3), (7, s7_6), (10, vI ↑i), (11, vP b11 0), (12, vP b12 0), (13, vI (sdZ s (l.getD i (T3.mk (0 : Rat) 0 0)))), (14, vI (sdZ s (l.getD ((i + 1) % l.length) (T3.mk (0 : Rat) 0 0)))), (56, vB ((qN s l i) ∨ ((sdZ s (l.getD i (T3.mk (0 : Rat) 0 0))) < (0 : Int))))]) (fun _ => [.var b12 32 cs_11, .var b11 32 cs_9, .gs 32 9 s7_6 F.length cs_7, .gs 32 9 s6_3 B.length cs_4, .var b3 34 cs3]) (fun _ => h2) ?_ ?_
  ·
   refine wI (qG s l i) (fun hg => ?_) (fun hg => ?_)
   ·
    refine xH (zF (v := .bool true) (congrArg some (xJ hg))) rfl rfl rfl (yK rfl rfl rfl rfl rfl rfl (yK rfl rfl rfl rfl rfl rfl (gv (xC rfl rfl) rfl (zD ?_))))
    refine yM () trivial ⟨?_, rfl, rfl, rfl, rfl, rfl, rfl, rfl, rfl, rfl, rfl, trivial⟩ rfl rfl
    exact congrArg some (qU hg)
   refine xH (zF (v := .bool false) (congrArg some (yS hg))) rfl rfl rfl (yU rfl rfl rfl (mv rfl rfl (yU rfl rfl rfl (gv (vY (q := 0) rfl rfl) rfl (gv (xN rfl rfl) rfl (zD ?_))))))
   refine yM () trivial ⟨?_, rfl, rfl, rfl, rfl, rfl, rfl, rfl, rfl, rfl, rfl, trivial⟩ rfl rfl
   exact congrArg some (qV hg)
  intro _ _
  show GL _ _ _ _ _ _ _ [(61, vB ((qG s l i) ∨ ((0 : Int) < (sdZ s (l.getD i (T3.mk (0 : Rat) 0 0)))))), (0, vl), (3, vP b3 0), (6, s6_3), (7, s7_6), (10, vI ↑i), (11, vP b11 0), (12, vP b12 0), (13, vI (sdZ s (l.getD i (T3.mk (0 : Rat) 0 0)))), (14, vI (sdZ s (l.getD ((i + 1) % l.length) (T3.mk (0 : Rat) 0 0)))), (56, vB ((qN s l i) ∨ ((sdZ s (l.getD i (T3.mk (0 : Rat) 0 0))) < (0 : Int))))] [.var b12 32 cs_11, .var b11 32 cs_9, .gs 32 9 s7_6 F.length cs_7, .gs 32 9 s6_3 B.length cs_4, .var b3 34 cs3] h2
  refine asg rfl rfl (asg rfl rfl (zD (zB (zC (zA (mv rfl rfl (mv rfl rfl (gv (jU rfl rfl (by have := qO hsd36 hsd39; omega) (by have := qO hsd36 hsd39; omega)) rfl (gv (zW (q := 0) rfl rfl) rfl (zD (zB ?_)))))))))))
  refine zO rfl (fun hc65 => ?_) (fun hc65 => ?_)
  ·
   have hx1 : xP s l i := hc65
   refine zC (zA ?_)
   replace rb_10 := rb_10.mono (hh1.trans hh2)
   refine wF (F := fun v_ => (rpT (rpQ (k + 1))).Is h2 v_ (l.getD i (T3.mk (0 : Rat) 0 0))) (zE yZ (Pc.here _) rfl rfl rb_10 rfl) (yF (.tail _ (.head _))) rfl ?_
   intro v66 r66
   replace rb_12 := rb_12.mono (hh1.trans hh2)
   refine wF (F := fun v_ => (rpT (rpQ (k + 1))).Is h2 v_ (l.getD ((i + 1) % l.length) (T3.mk (0 : Rat) 0 0))) (zE yZ (Pc.here _) rfl rfl rb_12 rfl) (yF (.head _)) rfl ?_
   intro v67 r67
   replace rb3 := rb3.mono (hh1.trans hh2)
   refine wF (F := fun v_ => (rpP (rpT (rpQ n)) (rpQ m)).Is h2 v_ s) (zE jM (Pc.here _) rfl rfl rb3 rfl) (yF (.tail _ (.tail _ (.tail _ (.tail _ (.head _)))))) rfl ?_
   intro v68 r68
   refine zM (vs := [_, _, _]) rfl rfl rfl rfl call49 e3z (fun w hs => sF hs r66 r67 r68 (by omega) (by omega) (by omega)) ?_
   intro v69 h3 hh3 r69
   change (rpT (rpQ (12 * (k + 1) + 3 * m + 9 * n + 50))).Is h3 v69 (btw s (l.getD i (T3.mk (0 : Rat) 0 0)) (l.getD ((i + 1) % l.length) (T3.mk (0 : Rat) 0 0))) at r69
   replace r69 := Rp.Is.le r69 (Le.t (Le.q (l := 12 * k + 3 * m + 9 * n + 62) (by omega)))
   refine zK (yY (ρ := (rpT (rpQ 1))) (X := (T3.mk (0 : Rat) 0 0)) yD rfl rfl (wH (wA (by decide)))) rfl rfl rfl ?_
   intro v15 q15 hq15
   obtain ⟨b15, cs15, rfl, rfl, rb15⟩ := hq15
   have rw_43 := (Le.t (Le.q (l := 12 * k + 3 * m + 9 * n + 62) (by omega))).R rb15
   refine wB (A := []) (F := fun c_ => (rpT (rpQ (12 * k + 3 * m + 9 * n + 62))).R h3 c_ (btw s (l.getD i (T3.mk (0 : Rat) 0 0)) (l.getD ((i + 1) % l.length) (T3.mk (0 : Rat) 0 0)))) (yG sizeOf32 (Pc.here _) rfl rfl rfl rw_43 r69 rfl) ?_
   intro cs_44 rb_45
   refine zD (zJ (e' := [(0, _), (3, _), (6, _), (7, _), (10, _), (8, _), (9, _), (15, _)]) e8 (zB ?_))
   refine yI 10 [.var b15 32 cs_44, .var b12 32 cs_11, .var b11 32 cs_9, .var b3 34 cs3] [] [(0, .q), (1, .q), (4, .q), (5, .q), (2, .d 3 6), (7, .c), (8, .q), (9, .q)] xI nX (by kernel_rfl) nX (by intro r hr; simp only [List.mem_cons, List.mem_append, List.not_mem_nil, or_false] at hr ⊢ <;> grind) (w_q rfl (fun h' L' hh hR => zF rfl) rfl (yP (F := fun v_ => (rpT (rpQ (12 * k + 3 * m + 9 * n + 62))).Is h3 v_ (btw s (l.getD i (T3.mk (0 : Rat) 0 0)) (l.getD ((i + 1) % l.length) (T3.mk (0 : Rat) 0 0)))) rfl (zE yZ (Pc.here _) rfl rfl rb_45 rfl) (yF (.head _)) rfl ?_))
   intro v71 r71
   refine w_q rfl (fun h' L' hh hR => zF rfl) rfl (yP (F := fun v_ => (rpT (rpQ (12 * k + 3 * m + 9 * n + 62))).Is h3 v_ (btw s (l.getD i (T3.mk (0 : Rat) 0 0)) (l.getD ((i + 1) % l.length) (T3.mk (0 : Rat) 0 0)))) rfl (zE yZ (Pc.here _) rfl rfl rb_45 rfl) (yF (.head _)) rfl ?_)
   intro v75 r75
   refine w_d rfl rfl rfl ?_ ?_
   ·
    refine qD (fun X => xD (ρ := (rpT (rpQ (12 * k + 3 * m + 9 * n + 62)))) (m := 1) (xs := [btw s (l.getD i (T3.mk (0 : Rat) 0 0)) (l.getD ((i + 1) % l.length) (T3.mk (0 : Rat) 0 0))]) (ps' := [(0, _)]) underlying27 yD rfl rfl rfl (wH (wA (by omega))) e2z (yX rfl (Pc.arr (Pc.here _) (T3.mk (0 : Rat) 0 0) 0 (by decide)) r71 wD) (show 1 * 9 ≤ 16777216 from by decide) p9N) rfl ?_
    intro v72 q72 hq72
    obtain ⟨cs72, rfl, rl72⟩ := hq72
    refine ⟨?_, ?_⟩
    ·
     refine xR (A := []) (ρ := (rpT (rpQ (12 * k + 3 * m + 9 * n + 62)))) rl72 (xS (by first | (simp; done) | grind)) ?_
     intro h4 hh4 rs_46
     replace rl_5 := rl_5.mono (((hh1.trans hh2).trans hh3).trans hh4)
     refine uK (A := [_, _, _, _]) (fun X => yN (ρ := (rpT (rpQ (12 * k + 3 * m + 9 * n + 62)))) (bytes := 168) underlying27 yD rfl rfl rfl rfl p9N rfl rfl rl_5 rs_46 (by first | omega | (simp only [lAz, lC, lN, lR, lS]; omega)) (by first | omega | (simp only [lAz, lC, lN, lR, lS]; omega))) rfl (xE (by first | (simp; done) | grind)) ?_
     intro v73 q73 hq73
     obtain ⟨cs73, rfl, rl73⟩ := hq73
     replace r75 := r75.mono hh4
     refine qD (fun X => xD (ρ := (rpT (rpQ (12 * k + 3 * m + 9 * n + 62)))) (m := 1) (xs := [btw s (l.getD i (T3.mk (0 : Rat) 0 0)) (l.getD ((i + 1) % l.length) (T3.mk (0 : Rat) 0 0))]) (ps' := [(0, _)]) underlying27 yD rfl rfl rfl (wH (wA (by omega))) e2z (yX rfl (Pc.arr (Pc.here _) (T3.mk (0 : Rat) 0 0) 0 (by decide)) r75 wD) (show 1 * 9 ≤ 16777216 from by decide) p9N) rfl ?_
     intro v76 q76 hq76
     obtain ⟨cs76, rfl, rl76⟩ := hq76
     refine w_c rfl (xR (A := []) (ρ := (rpT (rpQ (12 * k + 3 * m + 9 * n + 62)))) rl76 (xS (by first | (simp; done) | grind)) ?_)
     intro h5 hh5 rs_47
     replace rl_8 := rl_8.mono ((((hh1.trans hh2).trans hh3).trans hh4).trans hh5)
     refine uK (A := [_, _, _]) (fun X => yN (ρ := (rpT (rpQ (12 * k + 3 * m + 9 * n + 62)))) (bytes := 168) underlying27 yD rfl rfl rfl rfl p9N rfl rfl rl_8 rs_47 (by first | omega | (simp only [lAz, lC, lN, lR, lS]; omega)) (by first | omega | (simp only [lAz, lC, lN, lR, lS]; omega))) rfl (xE (by first | (simp; done) | grind)) ?_
     intro v77 q77 hq77
     obtain ⟨cs77, rfl, rl77⟩ := hq77
     refine w_q rfl (fun h' L' hh hR => zZ rfl) rfl (w_q rfl (fun h' L' hh hR => zZ rfl) rfl (xA (xB (zB (zA (mv rfl rfl (gv (zR (q := 1) rfl rfl (by omega) (by omega)) rfl (asg rfl rfl (zD (xF (A := []) (xF (A := []) (xF (A := []) ?_))))))))))))
     refine yR ((i + 1), (B ++ [btw s (l.getD i (T3.mk (0 : Rat) 0 0)) (l.getD ((i + 1) % l.length) (T3.mk (0 : Rat) 0 0))]), (F ++ [btw s (l.getD i (T3.mk (0 : Rat) 0 0)) (l.getD ((i + 1) % l.length) (T3.mk (0 : Rat) 0 0))]), v73, cs73, v77, cs77, h5) ?_ ?_ e7 rfl rfl
     ·
      refine ⟨(((((hmmb.trans hh1).trans hh2).trans hh3).trans hh4).trans hh5), ?_⟩
      replace rl73 := rl73.mono hh5
      refine ⟨rl73, rl77, ?_⟩
      exact ⟨⟨by omega, (by first | exact jK hB hp1 hx1 | exact fF hB hp1 hx1 | exact fL hB hp1 hx1 | exact fM hB hp1 hx1)⟩, (by first | exact jJ hF hp2 hx1 | exact fE hF hp2 hx1 | exact fJ hF hp2 hx1 | exact fK hF hp2 hx1)⟩
     dsimp only
     omega
    refine qD (fun X => xD (ρ := (rpT (rpQ (12 * k + 3 * m + 9 * n + 62)))) (m := 1) (xs := [btw s (l.getD i (T3.mk (0 : Rat) 0 0)) (l.getD ((i + 1) % l.length) (T3.mk (0 : Rat) 0 0))]) (ps' := [(0, _)]) underlying27 yD rfl rfl rfl (wH (wA (by omega))) e2z (yX rfl (Pc.arr (Pc.here _) (T3.mk (0 : Rat) 0 0) 0 (by decide)) r75 wD) (show 1 * 9 ≤ 16777216 from by decide) p9N) rfl ?_
    intro v76 q76 hq76
    obtain ⟨cs76, rfl, rl76⟩ := hq76
    refine xR (A := [_]) (ρ := (rpT (rpQ (12 * k + 3 * m + 9 * n + 62)))) rl72 (xS (by first | (simp; done) | grind)) ?_
    intro h4 hh4 rs_48
    replace rl_5 := rl_5.mono (((hh1.trans hh2).trans hh3).trans hh4)
    refine uK (A := [_, _, _, _, _]) (fun X => yN (ρ := (rpT (rpQ (12 * k + 3 * m + 9 * n + 62)))) (bytes := 168) underlying27 yD rfl rfl rfl rfl p9N rfl rfl rl_5 rs_48 (by first | omega | (simp only [lAz, lC, lN, lR, lS]; omega)) (by first | omega | (simp only [lAz, lC, lN, lR, lS]; omega))) rfl (xE (by first | (simp; done) | grind)) ?_
    intro v73 q73 hq73
    obtain ⟨cs73, rfl, rl73⟩ := hq73
    refine w_c rfl ?_
    replace rl76 := rl76.mono hh4
    refine xR (A := []) (ρ := (rpT (rpQ (12 * k + 3 * m + 9 * n + 62)))) rl76 (xS (by first | (simp; done) | grind)) ?_
    intro h5 hh5 rs_49
    replace rl_8 := rl_8.mono ((((hh1.trans hh2).trans hh3).trans hh4).trans hh5)
    refine uK (A := [_, _, _]) (fun X => yN (ρ := (rpT (rpQ (12 * k + 3 * m + 9 * n + 62)))) (bytes := 168) underlying27 yD rfl rfl rfl rfl p9N rfl rfl rl_8 rs_49 (by first | omega | (simp only [lAz, lC, lN, lR, lS]; omega)) (by first | omega | (simp only [lAz, lC, lN, lR, lS]; omega))) rfl (xE (by first | (simp; done) | grind)) ?_
    intro v77 q77 hq77
    obtain ⟨cs77, rfl, rl77⟩ := hq77
    refine w_q rfl (fun h' L' hh hR => zZ rfl) rfl (w_q rfl (fun h' L' hh hR => zZ rfl) rfl (xA (xB (zB (zA (mv rfl rfl (gv (zR (q := 1) rfl rfl (by omega) (by omega)) rfl (asg rfl rfl (zD (xF (A := []) (xF (A := []) (xF (A := []) ?_))))))))))))
    refine yR ((i + 1), (B ++ [btw s (l.getD i (T3.mk (0 : Rat) 0 0)) (l.getD ((i + 1) % l.length) (T3.mk (0 : Rat) 0 0))]), (F ++ [btw s (l.getD i (T3.mk (0 : Rat) 0 0)) (l.getD ((i + 1) % l.length) (T3.mk (0 : Rat) 0 0))]), v73, cs73, v77, cs77, h5) ?_ ?_ e7 rfl rfl
    ·
     refine ⟨(((((hmmb.trans hh1).trans hh2).trans hh3).trans hh4).trans hh5), ?_⟩
     replace rl73 := rl73.mono hh5
     refine ⟨rl73, rl77, ?_⟩
     exact ⟨⟨by omega, (by first | exact jK hB hp1 hx1 | exact fF hB hp1 hx1 | exact fL hB hp1 hx1 | exact fM hB hp1 hx1)⟩, (by first | exact jJ hF hp2 hx1 | exact fE hF hp2 hx1 | exact fJ hF hp2 hx1 | exact fK hF hp2 hx1)⟩
    dsimp only
    omega
   refine qD (fun X => xD (ρ := (rpT (rpQ (12 * k + 3 * m + 9 * n + 62)))) (m := 1) (xs := [btw s (l.getD i (T3.mk (0 : Rat) 0 0)) (l.getD ((i + 1) % l.length) (T3.mk (0 : Rat) 0 0))]) (ps' := [(0, _)]) underlying27 yD rfl rfl rfl (wH (wA (by omega))) e2z (yX rfl (Pc.arr (Pc.here _) (T3.mk (0 : Rat) 0 0) 0 (by decide)) r75 wD) (show 1 * 9 ≤ 16777216 from by decide) p9N) rfl ?_
   intro v76 q76 hq76
   obtain ⟨cs76, rfl, rl76⟩ := hq76
   refine qD (fun X => xD (ρ := (rpT (rpQ (12 * k + 3 * m + 9 * n + 62)))) (m := 1) (xs := [btw s (l.getD i (T3.mk (0 : Rat) 0 0)) (l.getD ((i + 1) % l.length) (T3.mk (0 : Rat) 0 0))]) (ps' := [(0, _)]) underlying27 yD rfl rfl rfl (wH (wA (by omega))) e2z (yX rfl (Pc.arr (Pc.here _) (T3.mk (0 : Rat) 0 0) 0 (by decide)) r71 wD) (show 1 * 9 ≤ 16777216 from by decide) p9N) rfl ?_
   intro v72 q72 hq72
   obtain ⟨cs72, rfl, rl72⟩ := hq72
   refine xR (A := []) (ρ := (rpT (rpQ (12 * k + 3 * m + 9 * n + 62)))) rl72 (xS (by first | (simp; done) | grind)) ?_
   intro h4 hh4 rs_50
   replace rl_5 := rl_5.mono (((hh1.trans hh2).trans hh3).trans hh4)
   refine uK (A := [_, _, _, _, _]) (fun X => yN (ρ := (rpT (rpQ (12 * k + 3 * m + 9 * n + 62)))) (bytes := 168) underlying27 yD rfl rfl rfl rfl p9N rfl rfl rl_5 rs_50 (by first | omega | (simp only [lAz, lC, lN, lR, lS]; omega)) (by first | omega | (simp only [lAz, lC, lN, lR, lS]; omega))) rfl (xE (by first | (simp; done) | grind)) ?_
   intro v73 q73 hq73
   obtain ⟨cs73, rfl, rl73⟩ := hq73
   refine w_c rfl ?_
   replace rl76 := rl76.mono hh4
   refine xR (A := []) (ρ := (rpT (rpQ (12 * k + 3 * m + 9 * n + 62)))) rl76 (xS (by first | (simp; done) | grind)) ?_
   intro h5 hh5 rs_51
   replace rl_8 := rl_8.mono ((((hh1.trans hh2).trans hh3).trans hh4).trans hh5)
   refine uK (A := [_, _, _]) (fun X => yN (ρ := (rpT (rpQ (12 * k + 3 * m + 9 * n + 62)))) (bytes := 168) underlying27 yD rfl rfl rfl rfl p9N rfl rfl rl_8 rs_51 (by first | omega | (simp only [lAz, lC, lN, lR, lS]; omega)) (by first | omega | (simp only [lAz, lC, lN, lR, lS]; omega))) rfl (xE (by first | (simp; done) | grind)) ?_
   intro v77 q77 hq77
   obtain ⟨cs77, rfl, rl77⟩ := hq77
   refine w_q rfl (fun h' L' hh hR => zZ rfl) rfl (w_q rfl (fun h' L' hh hR => zZ rfl) rfl (xA (xB (zB (zA (mv rfl rfl (gv (zR (q := 1) rfl rfl (by omega) (by omega)) rfl (asg rfl rfl (zD (xF (A := []) (xF (A := []) (xF (A := []) ?_))))))))))))
   refine yR ((i + 1), (B ++ [btw s (l.getD i (T3.mk (0 : Rat) 0 0)) (l.getD ((i + 1) % l.length) (T3.mk (0 : Rat) 0 0))]), (F ++ [btw s (l.getD i (T3.mk (0 : Rat) 0 0)) (l.getD ((i + 1) % l.length) (T3.mk (0 : Rat) 0 0))]), v73, cs73, v77, cs77, h5) ?_ ?_ e7 rfl rfl
   ·
    refine ⟨(((((hmmb.trans hh1).trans hh2).trans hh3).trans hh4).trans hh5), ?_⟩
    replace rl73 := rl73.mono hh5
    refine ⟨rl73, rl77, ?_⟩
    exact ⟨⟨by omega, (by first | exact jK hB hp1 hx1 | exact fF hB hp1 hx1 | exact fL hB hp1 hx1 | exact fM hB hp1 hx1)⟩, (by first | exact jJ hF hp2 hx1 | exact fE hF hp2 hx1 | exact fJ hF hp2 hx1 | exact fK hF hp2 hx1)⟩
   dsimp only
   omega
  have hx1 : ¬ xP s l i := hc65
  refine wM (e' := [(0, _), (3, _), (6, _), (7, _), (10, _), (8, _), (9, _)]) e7 (zL (xB (zB (zA (mv rfl rfl (gv (zR (q := 1) rfl rfl (by omega) (by omega)) rfl (asg rfl rfl (zD (xF (A := []) (xF (A := []) ?_))))))))))
  refine yR ((i + 1), B, F, s6_3, cs_4, s7_6, cs_7, h2) ?_ ?_ e7 rfl rfl
  ·
   refine ⟨((hmmb.trans hh1).trans hh2), ?_⟩
   replace rl_5 := rl_5.mono (hh1.trans hh2)
   replace rl_8 := rl_8.mono (hh1.trans hh2)
   refine ⟨rl_5, rl_8, ?_⟩
   exact ⟨⟨by omega, (by first | exact jK hB hp1 hx1 | exact fF hB hp1 hx1 | exact fL hB hp1 hx1 | exact fM hB hp1 hx1)⟩, (by first | exact jJ hF hp2 hx1 | exact fE hF hp2 hx1 | exact fJ hF hp2 hx1 | exact fK hF hp2 hx1)⟩
  dsimp only
  omega
 have ej : i = l.length := by omega
 rw [ej] at hB hF
 refine xM (yE (yE (xL (zB (zC (zS (zC (zA (mv rfl rfl (gv (kZ rfl) rfl ?_))))))))))
 refine vS (ι := Unit) 4 (fun _ => True) (fun _ => [(84, vB ((¬ (qN s l i)) ∧ (¬ (qG s l i)))), (0, vl), (6, s6_3), (7, s7_6), (8, vB (qN s l i)), (9, vB (qG s l i))]) (fun _ => [.gs 32 9 s7_6 F.length cs_7, .gs 32 9 s6_3 B.length cs_4, .var b3 34 cs3]) (fun _ => mb) ?_ ?_
 ·
  refine wI (¬ (qN s l i)) (fun hg => ?_) (fun hg => ?_)
  ·
   refine xH (zF (v := .bool true) (congrArg some (xJ hg))) rfl rfl rfl (yU rfl rfl rfl (mv rfl rfl (yU rfl rfl rfl (gv (kZ rfl) rfl (gv (xC rfl rfl) rfl (zD ?_))))))
   refine yM () trivial ⟨?_, rfl, rfl, rfl, rfl, rfl, trivial⟩ rfl rfl
   exact congrArg some (uN hg)
  refine xH (zF (v := .bool false) (congrArg some (yS hg))) rfl rfl rfl (yK rfl rfl rfl rfl rfl rfl (yK rfl rfl rfl rfl rfl rfl (gv (xN rfl rfl) rfl (zD ?_))))
  refine yM () trivial ⟨?_, rfl, rfl, rfl, rfl, rfl, trivial⟩ rfl rfl
  exact congrArg some (uO hg)
 intro _ _
 show GL _ _ _ _ _ _ _ [(84, vB ((¬ (qN s l i)) ∧ (¬ (qG s l i)))), (0, vl), (6, s6_3), (7, s7_6), (8, vB (qN s l i)), (9, vB (qG s l i))] [.gs 32 9 s7_6 F.length cs_7, .gs 32 9 s6_3 B.length cs_4, .var b3 34 cs3] mb
 refine asg rfl rfl (zD (zB ?_))
 refine zO rfl (fun hc78 => ?_) (fun hc78 => ?_)
 ·
  refine zC (zA (mv rfl rfl (z4 32 9 ?_)))
  have rl_52 : RL (rpT (rpQ k)) mb [] ([] : List (T3 Rat)) := RL.nil
  refine jB (A := []) (yN (ρ := (rpT (rpQ k))) (bytes := 168) underlying27 yD rfl rfl rfl rfl p9N rfl rfl rl_52 rl (by first | omega | (simp only [lAz, lC, lN, lR, lS]; omega)) (by first | omega | (simp only [lAz, lC, lN, lR, lS]; omega))) rfl rfl rfl ?_
  intro v86 q86 hq86
  obtain ⟨cs86, rfl, rl86⟩ := hq86
  refine asg rfl rfl (asg rfl rfl (zD (zB (zQ (wY (zX (kI (A := []) (ρ := (rpT (rpQ k))) rl86 ?_)))))))
  intro h1 hh1 rs_53
  refine vJ rfl rfl rfl ?_
  refine ⟨_, _, ?_, (Rp.Is.cast (Rp.Is.le rs_53 (Le.s (Le.t (Le.q (l := 12 * k + 3 * m + 9 * n + 62) (by omega))))) (by rw [List.nil_append]; exact (tZ (by rw [← ej]; exact hc78.2)).1.symm)), (Rp.Is.cast (bD _) (by exact (tZ (by rw [← ej]; exact hc78.2)).2.symm))⟩
  rfl
 refine zC (zA (mv rfl rfl (gv (kZ rfl) rfl (asg rfl rfl (zD (zB ?_))))))
 refine zO rfl (fun hc87 => ?_) (fun hc87 => ?_)
 ·
  refine zC (zA (mv rfl rfl (asg rfl rfl (asg rfl rfl (zD (zJ (e' := [(4, _), (5, _)]) e2z (zB (zQ (wY (zX (kI (A := []) (ρ := (rpT (rpQ (12 * k + 3 * m + 9 * n + 62)))) rl_8 ?_)))))))))))
  intro h1 hh1 rs_54
  refine vJ rfl rfl rfl ?_
  refine ⟨_, _, ?_, (Rp.Is.cast (bD _) (by exact (cut_nb (by rw [← ej]; exact Classical.byContradiction fun e => hc78 ⟨hc87, e⟩) (by rw [← ej]; exact hc87)).1.symm)), (Rp.Is.cast rs_54 (by rw [hF]; exact (cut_nb (by rw [← ej]; exact Classical.byContradiction fun e => hc78 ⟨hc87, e⟩) (by rw [← ej]; exact hc87)).2.symm))⟩
  rfl
 refine zC (zA (mv rfl rfl (gv (kZ rfl) rfl (asg rfl rfl (zD (zJ (e' := [(6, _), (7, _), (91, _)]) e3z (zB ?_)))))))
 refine zO rfl (fun hc91 => ?_) (fun hc91 => ?_)
 ·
  refine zC (zA (mv rfl rfl (asg rfl rfl (asg rfl rfl (zD (zB (zQ (wY (zX (kI (A := [_]) (ρ := (rpT (rpQ (12 * k + 3 * m + 9 * n + 62)))) rl_5 ?_))))))))))
  intro h1 hh1 rs_55
  refine vJ rfl rfl rfl ?_
  refine ⟨_, _, ?_, (Rp.Is.cast rs_55 (by rw [hB]; exact (cut_na (by rw [← ej]; exact hc91)).1.symm)), (Rp.Is.cast (bD _) (by exact (cut_na (by rw [← ej]; exact hc91)).2.symm))⟩
  rfl
 refine zL (xB (zB (zC (zA (mv rfl rfl (mv rfl rfl (asg rfl rfl (asg rfl rfl (zD (zB (zQ (kI (A := [_]) (ρ := (rpT (rpQ (12 * k + 3 * m + 9 * n + 62)))) rl_5 ?_))))))))))))
 intro h1 hh1 rs_56
 replace rl_8 := rl_8.mono hh1
 refine kI (A := []) (ρ := (rpT (rpQ (12 * k + 3 * m + 9 * n + 62)))) rl_8 ?_
 intro h2 hh2 rs_57
 refine vJ rfl rfl rfl ?_
 replace rs_56 := rs_56.mono hh2
 refine ⟨_, _, ?_, (Rp.Is.cast rs_56 (by rw [hB]; exact (fT (by rw [← ej]; exact Classical.not_not.1 hc91) (by rw [← ej]; exact Classical.not_not.1 hc87)).1.symm)), (Rp.Is.cast rs_57 (by rw [hF]; exact (fT (by rw [← ej]; exact Classical.not_not.1 hc91) (by rw [← ej]; exact Classical.not_not.1 hc87)).2.symm))⟩
 rfl
end Go.Proofs.YtghhjjmjpeehdaaGreat
namespace Bk
set_option linter.unusedVariables false
set_option linter.unusedSimpArgs false
open Classical
noncomputable def sqrL (s : Pl) (x0 y0 x1 y1 : Rat) : List Pt := [qS s (T3.mk x0 y0 (0 : Rat)), qS s (T3.mk x1 y0 (0 : Rat)), qS s (T3.mk x1 y1 (0 : Rat)), qS s (T3.mk x0 y1 (0 : Rat))]
noncomputable def sG (s : Pl) (ps : List Pt) : Nat → Pt
  | 0 => qT s (gp ps 0)
  | m + 1 => T3.mk (kT (sG s ps m).x (qT s (gp ps m)).x) (kT (sG s ps m).y (qT s (gp ps m)).y) (sG s ps m).z
noncomputable def sH (s : Pl) (ps : List Pt) : Nat → Pt
  | 0 => qT s (gp ps 0)
  | m + 1 => T3.mk (kP (sH s ps m).x (qT s (gp ps m)).x) (kP (sH s ps m).y (qT s (gp ps m)).y) (sH s ps m).z
noncomputable def aroZ (s : Pl) (ps : List Pt) : List Pt :=
  if ps.length = 0 ∨ s.1 = zT then [] else sqrL s ((sG s ps ps.length).x - ((1 : Int) : Rat)) ((sG s ps ps.length).y - ((1 : Int) : Rat)) ((sH s ps ps.length).x + ((1 : Int) : Rat)) ((sH s ps ps.length).y + ((1 : Int) : Rat))
theorem lo_hi2 (s : Pl) (ps : List Pt) : ∀ m, (sG s ps m).x ≤ (sH s ps m).x ∧ (sG s ps m).y ≤ (sH s ps m).y
  | 0 => ⟨Rat.le_refl, Rat.le_refl⟩
  | m + 1 => by
    obtain ⟨h1, h2⟩ := lo_hi2 s ps m
    have key : ∀ {a b c : Rat}, a ≤ b → kT a c ≤ kP b c := fun {a b c} h => by
      unfold kT kP
      split <;> split <;> grind
    exact ⟨key h1, key h2⟩
theorem f9 {x0 y0 x1 y1 : Rat} (hx : x0 < x1) (hy : y0 < y1) : lE (fun m => (([(x0, y0), (x1, y0), (x1, y1), (x0, y1)] : List P2)).getD m (0, 0)) 4 := by
  have hp : 0 < (x1 - x0) * (y1 - y0) := Rat.mul_pos (by grind) (by grind)
  intro i j k hij hjk hk
  have h : (i = 0 ∧ j = 1 ∧ k = 2) ∨ (i = 0 ∧ j = 1 ∧ k = 3) ∨ (i = 0 ∧ j = 2 ∧ k = 3) ∨ (i = 1 ∧ j = 2 ∧ k = 3) := by omega
  rcases h with ⟨rfl, rfl, rfl⟩ | ⟨rfl, rfl, rfl⟩ | ⟨rfl, rfl, rfl⟩ | ⟨rfl, rfl, rfl⟩ <;> simp [cr] <;> grind
theorem pt2_lift {s : Pl} {q : Pt} (h : ¬ s.1.at (axK s.1) = 0) : pt2 s (qS s q) = (q.x, q.y) := by
  unfold qS
  rw [if_neg h]
  generalize liftQ s q = u
  unfold pt2 pr
  rcases oK s.1 with ⟨e1, e2, e3⟩ | ⟨e1, e2, e3⟩ | ⟨e1, e2, e3⟩ | ⟨e1, e2, e3⟩ | ⟨e1, e2, e3⟩ | ⟨e1, e2, e3⟩ <;> rw [e1, e2, e3] <;> rfl
theorem sqr_conv {s : Pl} {x0 y0 x1 y1 : Rat} (hn : ¬ s.1 = zT) (hx : x0 < x1) (hy : y0 < y1) : kV s (sqrL s x0 y0 x1 y1) := by
  have hk : ¬ s.1.at (axK s.1) = 0 := fun e => hn ((aB _).1 e)
  have hc : ∀ m, m < 4 → m = 0 ∨ m = 1 ∨ m = 2 ∨ m = 3 := fun m hm => by omega
  refine oO (by show 3 ≤ 4; omega) hn (fun m hm => ?_) ?_
  · rcases hc m hm with rfl | rfl | rfl | rfl <;> exact side_lift hk
  · have h := f9 hx hy
    have e : ∀ m, m < 4 → pt2 s (gp (sqrL s x0 y0 x1 y1) m) = (([(x0, y0), (x1, y0), (x1, y1), (x0, y1)] : List P2)).getD m (0, 0) := fun m hm => by
      rcases hc m hm with rfl | rfl | rfl | rfl <;> exact pt2_lift hk
    intro i j k hij hjk hk
    have hk' : k < 4 := hk
    show 0 < cr (pt2 s (gp _ i)) (pt2 s (gp _ j)) (pt2 s (gp _ k))
    rw [e i (by omega), e j (by omega), e k hk']
    exact h i j k hij hjk hk'
theorem aro_conv {s : Pl} {ps : List Pt} (hl : ¬ ps.length = 0) (hn : ¬ s.1 = zT) : kV s (aroZ s ps) ∧ (aroZ s ps).length = 4 := by
  unfold aroZ
  rw [if_neg (fun e => e.elim hl hn)]
  obtain ⟨h1, h2⟩ := lo_hi2 s ps ps.length
  have e : (((1 : Int) : Rat)) = 1 := rfl
  rw [e]
  exact ⟨sqr_conv hn (by grind) (by grind), rfl⟩
def i3 (x y z : Int) : Pt := T3.mk ((x : Int) : Rat) ((y : Int) : Rat) ((z : Int) : Rat)
def sq0 : List Pt := [i3 0 0 0, i3 2 0 0, i3 2 2 0, i3 0 2 0]
theorem j8 : kV (i3 0 0 1, (0 : Rat)) sq0 := by
  have hn : ¬ (i3 0 0 1) = zT := fun e => absurd (congrArg T3.z e) (by decide +kernel)
  have e1 : axI (i3 0 0 1) = 0 := if_pos (by decide +kernel)
  have e2 : axJ (i3 0 0 1) = 1 := if_pos (by decide +kernel)
  have hc : ∀ m, m < 4 → m = 0 ∨ m = 1 ∨ m = 2 ∨ m = 3 := fun m hm => by omega
  refine oO (by show 3 ≤ 4; omega) hn (fun m hm => ?_) ?_
  · rw [gX]
    rcases hc m hm with rfl | rfl | rfl | rfl <;> decide +kernel
  · have h := f9 (x0 := 0) (y0 := 0) (x1 := 2) (y1 := 2) (by decide +kernel) (by decide +kernel)
    have e : ∀ m, m < 4 → pt2 (i3 0 0 1, (0 : Rat)) (gp sq0 m) = (([((0 : Rat), (0 : Rat)), (2, 0), (2, 2), (0, 2)] : List P2)).getD m (0, 0) := fun m hm => by
      unfold pt2
      simp only [e1, e2]
      rcases hc m hm with rfl | rfl | rfl | rfl <;> rfl
    intro i j k hij hjk hk
    have hk' : k < 4 := hk
    show 0 < cr (pt2 _ (gp _ i)) (pt2 _ (gp _ j)) (pt2 _ (gp _ k))
    rw [e i (by omega), e j (by omega), e k hk']
    exact h i j k hij hjk hk'
def pl0 : Pl := (i3 1 0 0, (1 : Rat))
theorem tN : tB pl0 sq0 = [i3 0 0 0, btw pl0 (i3 0 0 0) (i3 2 0 0), btw pl0 (i3 2 2 0) (i3 0 2 0), i3 0 2 0] ∧ tA pl0 sq0 = [btw pl0 (i3 0 0 0) (i3 2 0 0), i3 2 0 0, i3 2 2 0, btw pl0 (i3 2 2 0) (i3 0 2 0)] := by
  have m1 : sdZ pl0 (gp sq0 0) = -1 := jI.2 (by decide +kernel)
  have m2 : sdZ pl0 (gp sq0 1) = 1 := kC.2 (by decide +kernel)
  have m3 : sdZ pl0 (gp sq0 2) = 1 := kC.2 (by decide +kernel)
  have m4 : sdZ pl0 (gp sq0 3) = -1 := jI.2 (by decide +kernel)
  have x1 : xP pl0 sq0 0 := by show sdZ pl0 (gp sq0 0) * sdZ pl0 (gp sq0 1) < 0; rw [m1, m2]; decide
  have x2 : ¬ xP pl0 sq0 1 := by show ¬ sdZ pl0 (gp sq0 1) * sdZ pl0 (gp sq0 2) < 0; rw [m2, m3]; decide
  have x3 : xP pl0 sq0 2 := by show sdZ pl0 (gp sq0 2) * sdZ pl0 (gp sq0 3) < 0; rw [m3, m4]; decide
  have x4 : ¬ xP pl0 sq0 3 := by show ¬ sdZ pl0 (gp sq0 3) * sdZ pl0 (gp sq0 0) < 0; rw [m4, m1]; decide
  have hb : qN pl0 sq0 sq0.length := (rJ _).2 ⟨0, by decide, by rw [m1]; decide⟩
  have ha : qG pl0 sq0 sq0.length := (rK _).2 ⟨1, by decide, by rw [m2]; decide⟩
  rw [(fT ha hb).1, (fT ha hb).2]
  have b1 := jK (B := []) (pl := pl0) (l := sq0) (m := 0) rfl (by rw [m1]; decide) x1
  have b2 := fM b1 (by rw [m2]; decide) x2
  have b3 := fL b2 (by rw [m3]; decide) x3
  have b4 := fF b3 (by rw [m4]; decide) x4
  have f1 := fJ (B := []) (pl := pl0) (l := sq0) (m := 0) rfl (by rw [m1]; decide) x1
  have f2 := fE f1 (by rw [m2]; decide) x2
  have f3 := jJ f2 (by rw [m3]; decide) x3
  have f4 := fK f3 (by rw [m4]; decide) x4
  exact ⟨b4.symm, f4.symm⟩
theorem sane_pt : btw pl0 (i3 0 0 0) (i3 2 0 0) = i3 1 0 0 := by
  unfold btw cutT lerp i3
  rw [T3.mk.injEq]
  decide +kernel
end Bk
namespace Go.Proofs.YtghhjjmjpeehdaaGreat
open Bk Go Tryz
set_option linter.unusedVariables false
set_option linter.unusedSimpArgs false
set_option maxRecDepth 10000
theorem s4 {w0 : World} {h0 : Mem}  (hs : MLe h0 (mem w0)) {m l k : Nat} {vs : Value} {s : ((T3 Rat) × Rat)} (rs : (rpP (rpT (rpQ m)) (rpQ l)).Is h0 vs s) {vx : Value} {x : Rat} (rx : (rpQ k).Is h0 vx x) {vy : Value} {y : Rat} (ry : (rpQ k).Is h0 vy y) {vu : Value} {u : Rat} (ru : (rpQ k).Is h0 vu u) {vv : Value} {v : Rat} (rv : (rpQ k).Is h0 vv v) (hcd0 : k ≤ 100000) (hcd1 : l ≤ 100000) (hcd2 : m ≤ 100000)  :
    Calls Tryz.prog 76 #[vs, vx, vy, vu, vv] w0 (Ret w0 h0 (fun h r => (rpS (rpT (rpQ (3 * k + l + 4 * m + 33)))).Is h r (sqrL s x y u v))) := by
 refine zP (n := 46) (e := [(0, vs), (1, vx), (2, vy), (3, vu), (4, vv)]) (vs := [vs, vx, vy, vu, vv]) func76 rfl rfl (bL rfl) hs e5 (zC (zA (zK (yW (ρ := (rpP (rpT (rpQ m)) (rpQ l))) rfl rs) rfl rfl rfl ?_)))
 intro v5 q5 hq5
 obtain ⟨b5, cs5, rfl, rfl, rb5⟩ := hq5
 refine zK (yW (ρ := (rpQ k)) rfl rx) rfl rfl rfl ?_
 intro v6 q6 hq6
 obtain ⟨b6, cs6, rfl, rfl, rb6⟩ := hq6
 refine zK (yW (ρ := (rpQ k)) rfl ry) rfl rfl rfl ?_
 intro v7 q7 hq7
 obtain ⟨b7, cs7, rfl, rfl, rb7⟩ := hq7
 refine zK (yW (ρ := (rpQ k)) rfl ru) rfl rfl rfl ?_
 intro v8 q8 hq8
 obtain ⟨b8, cs8, rfl, rfl, rb8⟩ := hq8
 refine zK (yW (ρ := (rpQ k)) rfl rv) rfl rfl rfl ?_
 intro v9 q9 hq9
 obtain ⟨b9, cs9, rfl, rfl, rb9⟩ := hq9
 refine asg rfl rfl (zD (zB (zC (zA (asg rfl rfl (zD (zB (zC (zA (wF (F := fun v_ => (rpQ k).Is h0 v_ x) (zE xZ (Pc.here _) rfl rfl rb6 rfl) (yF (.tail _ (.tail _ (.tail _ (.head _))))) rfl ?_))))))))))
 intro v16 r16
 refine wF (F := fun v_ => (rpQ k).Is h0 v_ y) (zE xZ (Pc.here _) rfl rfl rb7 rfl) (yF (.tail _ (.tail _ (.head _)))) rfl ?_
 intro v17 r17
 refine wF (F := fun v_ => (rpT (rpQ (k + 1))).Is h0 v_ (T3.mk x y (0 : Rat))) (wW (ps' := [(0, _), (1, _)]) underlying32 yD rfl rfl sizeOf30 e4z rfl (wH (wA (by omega))) (yX rfl (Pc.tx (Pc.here _)) (r16.le (Le.q (l := k + 1) (by omega))) (yX rfl (Pc.ty (Pc.here _)) (r17.le (Le.q (l := k + 1) (by omega))) wD))) vW rfl ?_
 intro v18 r18
 refine wF (F := fun v_ => (rpQ k).Is h0 v_ u) (zE xZ (Pc.here _) rfl rfl rb8 rfl) (yF (.tail _ (.head _))) rfl ?_
 intro v19 r19
 refine wF (F := fun v_ => (rpQ k).Is h0 v_ y) (zE xZ (Pc.here _) rfl rfl rb7 rfl) (yF (.tail _ (.tail _ (.head _)))) rfl ?_
 intro v20 r20
 refine wF (F := fun v_ => (rpT (rpQ (k + 1))).Is h0 v_ (T3.mk u y (0 : Rat))) (wW (ps' := [(0, _), (1, _)]) underlying32 yD rfl rfl sizeOf30 e4z rfl (wH (wA (by omega))) (yX rfl (Pc.tx (Pc.here _)) (r19.le (Le.q (l := k + 1) (by omega))) (yX rfl (Pc.ty (Pc.here _)) (r20.le (Le.q (l := k + 1) (by omega))) wD))) vW rfl ?_
 intro v21 r21
 refine wF (F := fun v_ => (rpQ k).Is h0 v_ u) (zE xZ (Pc.here _) rfl rfl rb8 rfl) (yF (.tail _ (.head _))) rfl ?_
 intro v22 r22
 refine wF (F := fun v_ => (rpQ k).Is h0 v_ v) (zE xZ (Pc.here _) rfl rfl rb9 rfl) (yF (.head _)) rfl ?_
 intro v23 r23
 refine wF (F := fun v_ => (rpT (rpQ (k + 1))).Is h0 v_ (T3.mk u v (0 : Rat))) (wW (ps' := [(0, _), (1, _)]) underlying32 yD rfl rfl sizeOf30 e4z rfl (wH (wA (by omega))) (yX rfl (Pc.tx (Pc.here _)) (r22.le (Le.q (l := k + 1) (by omega))) (yX rfl (Pc.ty (Pc.here _)) (r23.le (Le.q (l := k + 1) (by omega))) wD))) vW rfl ?_
 intro v24 r24
 refine wF (F := fun v_ => (rpQ k).Is h0 v_ x) (zE xZ (Pc.here _) rfl rfl rb6 rfl) (yF (.tail _ (.tail _ (.tail _ (.head _))))) rfl ?_
 intro v25 r25
 refine wF (F := fun v_ => (rpQ k).Is h0 v_ v) (zE xZ (Pc.here _) rfl rfl rb9 rfl) (yF (.head _)) rfl ?_
 intro v26 r26
 refine wF (F := fun v_ => (rpT (rpQ (k + 1))).Is h0 v_ (T3.mk x v (0 : Rat))) (wW (ps' := [(0, _), (1, _)]) underlying32 yD rfl rfl sizeOf30 e4z rfl (wH (wA (by omega))) (yX rfl (Pc.tx (Pc.here _)) (r25.le (Le.q (l := k + 1) (by omega))) (yX rfl (Pc.ty (Pc.here _)) (r26.le (Le.q (l := k + 1) (by omega))) wD))) vW rfl ?_
 intro v27 r27
 refine wF (F := fun v_ => (rpA 4 (rpT (rpQ (k + 1)))).Is h0 v_ [(T3.mk x y (0 : Rat)), (T3.mk u y (0 : Rat)), (T3.mk u v (0 : Rat)), (T3.mk x v (0 : Rat))]) (wW (ps' := [(0, _), (1, _), (2, _), (3, _)]) underlying119 info119 rfl rfl sizeOf32 e8 rfl (zr_a 4 (wH (wA (by omega)))) (yX rfl (Pc.arr (Pc.here _) (T3.mk (0 : Rat) 0 0) 0 (by decide)) r18 (yX rfl (Pc.arr (Pc.here _) (T3.mk (0 : Rat) 0 0) 1 (by decide)) r21 (yX rfl (Pc.arr (Pc.here _) (T3.mk (0 : Rat) 0 0) 2 (by decide)) r24 (yX rfl (Pc.arr (Pc.here _) (T3.mk (0 : Rat) 0 0) 3 (by decide)) r27 wD))))) vW rfl ?_
 intro v28 r28
 refine zK (yY (ρ := (rpA 4 (rpT (rpQ 1)))) (X := (List.replicate 4 (T3.mk (0 : Rat) 0 0))) info119 rfl rfl (zr_a 4 (wH (wA (by decide))))) rfl rfl rfl ?_
 intro v12 q12 hq12
 obtain ⟨b12, cs12, rfl, rfl, rb12⟩ := hq12
 have rw_1 := (Le.a (Le.t (Le.q (l := k + 1) (by omega)))).R rb12
 refine wB (A := []) (F := fun c_ => (rpA 4 (rpT (rpQ (k + 1)))).R h0 c_ [(T3.mk x y (0 : Rat)), (T3.mk u y (0 : Rat)), (T3.mk u v (0 : Rat)), (T3.mk x v (0 : Rat))]) (yG sizeOf119 (Pc.here _) rfl rfl rfl rw_1 r28 rfl) ?_
 intro cs_2 rb_3
 refine zD (zJ (e' := [(5, _), (11, _), (12, _)]) e3z (zB (zC (zC (zA (asg (v := vI (0)) rfl rfl (zD (zB (zS (jW (zC (zC (zA ?_)))))))))))))
 refine mv rfl rfl (gv (OpV.tr (by decide) (zW (q := 4) rfl rfl)) rfl (zD (zB (xQ rfl (zL (zB (zC (zS (zC ?_)))))))))
 refine yI 11 _ [(8, (14, 32, [.bool false, .slice none 0 0, .slice none 0 0, .bool false, .slice none 0 0, .slice none 0 0, .bool false, .slice none 0 0, .slice none 0 0]))] [(0, .q), (1, .q), (2, .q), (3, .q), (4, .c), (5, .q), (6, .q), (7, .q), (8, .a), (9, .c), (10, .q)] xI (jC.cons rfl (uU yD rfl rfl) jC.nil) (by kernel_rfl) (uV rfl rfl jY) (fun r hr => hr) (yP (F := fun v_ => (rpP (rpT (rpQ m)) (rpQ l)).Is h0 v_ s) rfl (zE jM (Pc.here _) rfl rfl rb5 rfl) (yF (.tail _ (.tail _ (.tail _ (.tail _ (.tail _ (.head _))))))) rfl ?_)
 intro v34u1 r34u1
 refine w_q rfl (fun h' L' hh hR => zF rfl) rfl (w_q rfl (fun h' L' hh hR => (zH (sz := 9) 0 underlying119 sizeOf32 rfl rfl rfl (by decide)).cv (show _ = vP b12 0 from congrArg (vP b12) (by rfl))) rfl (yP (F := fun v_ => (rpT (rpQ (k + 1))).Is h0 v_ ([(T3.mk x y (0 : Rat)), (T3.mk u y (0 : Rat)), (T3.mk u v (0 : Rat)), (T3.mk x v (0 : Rat))].getD 0 (T3.mk (0 : Rat) 0 0))) rfl (zE yZ (Pc.arr (Pc.here _) (T3.mk (0 : Rat) 0 0) 0 (by decide)) rfl rfl rb_3 rfl) (yF (.head _)) rfl ?_))
 intro v37u1 r37u1
 refine w_c rfl ?_
 refine zY (vs := [_, _]) call114 e2z (fun w hs => bW hs r34u1 r37u1 (by omega) (by omega) (by omega)) rfl ?_
 intro v38u1 h1 hh1 r38u1
 obtain ⟨v38u1_0, rfl, r38u1_0⟩ := r38u1
 change (rpT (rpQ (3 * (k + 1) + l + 4 * m + 30))).Is h1 v38u1_0 (qS s ([(T3.mk x y (0 : Rat)), (T3.mk u y (0 : Rat)), (T3.mk u v (0 : Rat)), (T3.mk x v (0 : Rat))].getD 0 (T3.mk (0 : Rat) 0 0))) at r38u1_0
 replace r38u1_0 := Rp.Is.le r38u1_0 (Le.t (Le.q (l := 3 * k + l + 4 * m + 33) (by omega)))
 refine w_q rfl (fun h' L' hh hR => zF rfl) rfl (w_q rfl (fun h' L' hh hR => zN (vs := [_, _]) rfl rfl) rfl (w_q rfl (fun h' L' hh hR => zN (vs := [_, _]) rfl rfl) rfl ?_))
 refine w_a rfl (fun b14u1 => ?_)
 have rb14u1 : (rpT (rpQ (3 * k + l + 4 * m + 33))).R h1 [.bool false, .slice none 0 0, .slice none 0 0, .bool false, .slice none 0 0, .slice none 0 0, .bool false, .slice none 0 0, .slice none 0 0] (T3.mk (0 : Rat) 0 0) := (wH (wA (by omega)))
 refine w_c rfl (fH (A := []) (F := fun c_ => (rpT (rpQ (3 * k + l + 4 * m + 33))).R h1 c_ (qS s ([(T3.mk x y (0 : Rat)), (T3.mk u y (0 : Rat)), (T3.mk u v (0 : Rat)), (T3.mk x v (0 : Rat))].getD 0 (T3.mk (0 : Rat) 0 0)))) (yG sizeOf32 (Pc.here _) rfl rfl rfl rb14u1 r38u1_0 rfl) (xE (by first | (simp; done) | grind)) ?_)
 intro cs_4 rb_5
 refine w_q rfl (fun h' L' hh hR => zZ rfl) rfl (xA (zJ (e' := [(5, _), (11, _), (12, _), (13, _), (14, _)]) e5 (zB (zA (mv rfl rfl (wF (F := fun v_ => (rpT (rpQ (3 * k + l + 4 * m + 33))).Is h1 v_ (qS s ([(T3.mk x y (0 : Rat)), (T3.mk u y (0 : Rat)), (T3.mk u v (0 : Rat)), (T3.mk x v (0 : Rat))].getD 0 (T3.mk (0 : Rat) 0 0)))) (zE yZ (Pc.here _) rfl rfl rb_5 rfl) (yF (.head _)) rfl ?_))))))
 intro v42u1 r42u1
 refine zK (xD (ρ := (rpT (rpQ (3 * k + l + 4 * m + 33)))) (m := 1) (xs := [qS s ([(T3.mk x y (0 : Rat)), (T3.mk u y (0 : Rat)), (T3.mk u v (0 : Rat)), (T3.mk x v (0 : Rat))].getD 0 (T3.mk (0 : Rat) 0 0))]) (ps' := [(0, _)]) underlying27 yD rfl rfl rfl (wH (wA (by omega))) e2z (yX rfl (Pc.arr (Pc.here _) (T3.mk (0 : Rat) 0 0) 0 (by decide)) r42u1 wD) (show 1 * 9 ≤ 16777216 from by decide) p9N) rfl rfl rfl ?_
 intro v43u1 q43u1 hq43u1
 obtain ⟨cs43u1, rfl, rl43u1⟩ := hq43u1
 refine kJ (A := []) (ρ := (rpT (rpQ (3 * k + l + 4 * m + 33)))) rl43u1 ?_
 intro h2 hh2 rs_6
 refine z4 32 9 ?_
 have rl_7 : RL (rpT (rpQ (3 * k + l + 4 * m + 33))) h2 [] ([] : List (T3 Rat)) := RL.nil
 refine jB (A := []) (yN (ρ := (rpT (rpQ (3 * k + l + 4 * m + 33)))) (bytes := 168) underlying27 yD rfl rfl rfl rfl p9N rfl rfl rl_7 rs_6 (by first | omega | (simp only [lAz, lC, lN, lR, lS]; omega)) (by first | omega | (simp only [lAz, lC, lN, lR, lS]; omega))) rfl rfl rfl ?_
 intro v44u1 q44u1 hq44u1
 obtain ⟨cs44u1, rfl, rl44u1⟩ := hq44u1
 refine asg rfl rfl (zD (xB (zB (zA (mv rfl rfl (gv ((zR (q := 1) rfl rfl (by omega) (by omega)).cv (show _ = vI (1) from rfl)) rfl (asg rfl rfl (zD (xT (zC (zC (zA (mv rfl rfl ?_)))))))))))))
 refine gv (OpV.tr (by decide) (zW (q := 4) rfl rfl)) rfl (zD (zB (xQ rfl (zL (zB (zC (zS (zC (wM (e' := [(5, _), (12, _), (11, _), (13, _)]) e4z ?_)))))))))
 refine yI 11 _ [(8, (14, 32, [.bool false, .slice none 0 0, .slice none 0 0, .bool false, .slice none 0 0, .slice none 0 0, .bool false, .slice none 0 0, .slice none 0 0]))] [(0, .q), (1, .q), (2, .q), (3, .q), (4, .c), (5, .q), (6, .q), (7, .q), (8, .a), (9, .c), (10, .q)] xI (jC.cons rfl (uU yD rfl rfl) jC.nil) (by kernel_rfl) (uV rfl rfl jY) (fun r hr => hr) ?_
 replace rb5 := rb5.mono (hh1.trans hh2)
 refine yP (F := fun v_ => (rpP (rpT (rpQ m)) (rpQ l)).Is h2 v_ s) rfl (zE jM (Pc.here _) rfl rfl rb5 rfl) (yF (.tail _ (.tail _ (.tail _ (.tail _ (.tail _ (.tail _ (.tail _ (.head _))))))))) rfl ?_
 intro v34u2 r34u2
 refine w_q rfl (fun h' L' hh hR => zF rfl) rfl (w_q rfl (fun h' L' hh hR => (zH (sz := 9) 1 underlying119 sizeOf32 rfl rfl rfl (by decide)).cv (show _ = vP b12 9 from congrArg (vP b12) (by rfl))) rfl ?_)
 replace rb_3 := rb_3.mono (hh1.trans hh2)
 refine yP (F := fun v_ => (rpT (rpQ (k + 1))).Is h2 v_ ([(T3.mk x y (0 : Rat)), (T3.mk u y (0 : Rat)), (T3.mk u v (0 : Rat)), (T3.mk x v (0 : Rat))].getD 1 (T3.mk (0 : Rat) 0 0))) rfl (zE yZ (Pc.arr (Pc.here _) (T3.mk (0 : Rat) 0 0) 1 (by decide)) rfl rfl rb_3 rfl) (yF (.tail _ (.tail _ (.head _)))) rfl ?_
 intro v37u2 r37u2
 refine w_c rfl ?_
 refine zY (vs := [_, _]) call114 e2z (fun w hs => bW hs r34u2 r37u2 (by omega) (by omega) (by omega)) rfl ?_
 intro v38u2 h3 hh3 r38u2
 obtain ⟨v38u2_0, rfl, r38u2_0⟩ := r38u2
 change (rpT (rpQ (3 * (k + 1) + l + 4 * m + 30))).Is h3 v38u2_0 (qS s ([(T3.mk x y (0 : Rat)), (T3.mk u y (0 : Rat)), (T3.mk u v (0 : Rat)), (T3.mk x v (0 : Rat))].getD 1 (T3.mk (0 : Rat) 0 0))) at r38u2_0
 replace r38u2_0 := Rp.Is.le r38u2_0 (Le.t (Le.q (l := 3 * k + l + 4 * m + 33) (by omega)))
 refine w_q rfl (fun h' L' hh hR => zF rfl) rfl (w_q rfl (fun h' L' hh hR => zN (vs := [_, _]) rfl rfl) rfl (w_q rfl (fun h' L' hh hR => zN (vs := [_, _]) rfl rfl) rfl ?_))
 refine w_a rfl (fun b14u2 => ?_)
 have rb14u2 : (rpT (rpQ (3 * k + l + 4 * m + 33))).R h3 [.bool false, .slice none 0 0, .slice none 0 0, .bool false, .slice none 0 0, .slice none 0 0, .bool false, .slice none 0 0, .slice none 0 0] (T3.mk (0 : Rat) 0 0) := (wH (wA (by omega)))
 refine w_c rfl (fH (A := []) (F := fun c_ => (rpT (rpQ (3 * k + l + 4 * m + 33))).R h3 c_ (qS s ([(T3.mk x y (0 : Rat)), (T3.mk u y (0 : Rat)), (T3.mk u v (0 : Rat)), (T3.mk x v (0 : Rat))].getD 1 (T3.mk (0 : Rat) 0 0)))) (yG sizeOf32 (Pc.here _) rfl rfl rfl rb14u2 r38u2_0 rfl) (xE (by first | (simp; done) | grind)) ?_)
 intro cs_8 rb_9
 refine w_q rfl (fun h' L' hh hR => zZ rfl) rfl (xA (zB (zA (mv rfl rfl (wF (F := fun v_ => (rpT (rpQ (3 * k + l + 4 * m + 33))).Is h3 v_ (qS s ([(T3.mk x y (0 : Rat)), (T3.mk u y (0 : Rat)), (T3.mk u v (0 : Rat)), (T3.mk x v (0 : Rat))].getD 1 (T3.mk (0 : Rat) 0 0)))) (zE yZ (Pc.here _) rfl rfl rb_9 rfl) (yF (.head _)) rfl ?_)))))
 intro v42u2 r42u2
 refine zK (xD (ρ := (rpT (rpQ (3 * k + l + 4 * m + 33)))) (m := 1) (xs := [qS s ([(T3.mk x y (0 : Rat)), (T3.mk u y (0 : Rat)), (T3.mk u v (0 : Rat)), (T3.mk x v (0 : Rat))].getD 1 (T3.mk (0 : Rat) 0 0))]) (ps' := [(0, _)]) underlying27 yD rfl rfl rfl (wH (wA (by omega))) e2z (yX rfl (Pc.arr (Pc.here _) (T3.mk (0 : Rat) 0 0) 0 (by decide)) r42u2 wD) (show 1 * 9 ≤ 16777216 from by decide) p9N) rfl rfl rfl ?_
 intro v43u2 q43u2 hq43u2
 obtain ⟨cs43u2, rfl, rl43u2⟩ := hq43u2
 refine kJ (A := []) (ρ := (rpT (rpQ (3 * k + l + 4 * m + 33)))) rl43u2 ?_
 intro h4 hh4 rs_10
 replace rl44u1 := rl44u1.mono (hh3.trans hh4)
 refine jB (A := [_]) (yN (ρ := (rpT (rpQ (3 * k + l + 4 * m + 33)))) (bytes := 168) underlying27 yD rfl rfl rfl rfl p9N rfl rfl rl44u1 rs_10 (by first | omega | (simp only [lAz, lC, lN, lR, lS]; omega)) (by first | omega | (simp only [lAz, lC, lN, lR, lS]; omega))) rfl rfl rfl ?_
 intro v44u2 q44u2 hq44u2
 obtain ⟨cs44u2, rfl, rl44u2⟩ := hq44u2
 refine asg rfl rfl (zD (xB (zJ (e' := [(5, _), (12, _), (13, _), (11, _)]) e4z (zB (zA (mv rfl rfl (gv ((zR (q := 1) rfl rfl (by omega) (by omega)).cv (show _ = vI (2) from rfl)) rfl (asg rfl rfl (zD (xT (zC (zC (zA ?_)))))))))))))
 refine mv rfl rfl (gv (OpV.tr (by decide) (zW (q := 4) rfl rfl)) rfl (zD (zB (xQ rfl (zL (zB (zC (zS (zC ?_)))))))))
 refine yI 11 _ [(8, (14, 32, [.bool false, .slice none 0 0, .slice none 0 0, .bool false, .slice none 0 0, .slice none 0 0, .bool false, .slice none 0 0, .slice none 0 0]))] [(0, .q), (1, .q), (2, .q), (3, .q), (4, .c), (5, .q), (6, .q), (7, .q), (8, .a), (9, .c), (10, .q)] xI (jC.cons rfl (uU yD rfl rfl) jC.nil) (by kernel_rfl) (uV rfl rfl jY) (fun r hr => hr) ?_
 replace rb5 := rb5.mono (hh3.trans hh4)
 refine yP (F := fun v_ => (rpP (rpT (rpQ m)) (rpQ l)).Is h4 v_ s) rfl (zE jM (Pc.here _) rfl rfl rb5 rfl) (yF (.tail _ (.tail _ (.tail _ (.tail _ (.tail _ (.tail _ (.tail _ (.tail _ (.head _)))))))))) rfl ?_
 intro v34u3 r34u3
 refine w_q rfl (fun h' L' hh hR => zF rfl) rfl (w_q rfl (fun h' L' hh hR => (zH (sz := 9) 2 underlying119 sizeOf32 rfl rfl rfl (by decide)).cv (show _ = vP b12 18 from congrArg (vP b12) (by rfl))) rfl ?_)
 replace rb_3 := rb_3.mono (hh3.trans hh4)
 refine yP (F := fun v_ => (rpT (rpQ (k + 1))).Is h4 v_ ([(T3.mk x y (0 : Rat)), (T3.mk u y (0 : Rat)), (T3.mk u v (0 : Rat)), (T3.mk x v (0 : Rat))].getD 2 (T3.mk (0 : Rat) 0 0))) rfl (zE yZ (Pc.arr (Pc.here _) (T3.mk (0 : Rat) 0 0) 2 (by decide)) rfl rfl rb_3 rfl) (yF (.tail _ (.tail _ (.tail _ (.head _))))) rfl ?_
 intro v37u3 r37u3
 refine w_c rfl ?_
 refine zY (vs := [_, _]) call114 e2z (fun w hs => bW hs r34u3 r37u3 (by omega) (by omega) (by omega)) rfl ?_
 intro v38u3 h5 hh5 r38u3
 obtain ⟨v38u3_0, rfl, r38u3_0⟩ := r38u3
 change (rpT (rpQ (3 * (k + 1) + l + 4 * m + 30))).Is h5 v38u3_0 (qS s ([(T3.mk x y (0 : Rat)), (T3.mk u y (0 : Rat)), (T3.mk u v (0 : Rat)), (T3.mk x v (0 : Rat))].getD 2 (T3.mk (0 : Rat) 0 0))) at r38u3_0
 replace r38u3_0 := Rp.Is.le r38u3_0 (Le.t (Le.q (l := 3 * k + l + 4 * m + 33) (by omega)))
 refine w_q rfl (fun h' L' hh hR => zF rfl) rfl (w_q rfl (fun h' L' hh hR => zN (vs := [_, _]) rfl rfl) rfl (w_q rfl (fun h' L' hh hR => zN (vs := [_, _]) rfl rfl) rfl ?_))
 refine w_a rfl (fun b14u3 => ?_)
 have rb14u3 : (rpT (rpQ (3 * k + l + 4 * m + 33))).R h5 [.bool false, .slice none 0 0, .slice none 0 0, .bool false, .slice none 0 0, .slice none 0 0, .bool false, .slice none 0 0, .slice none 0 0] (T3.mk (0 : Rat) 0 0) := (wH (wA (by omega)))
 refine w_c rfl (fH (A := []) (F := fun c_ => (rpT (rpQ (3 * k + l + 4 * m + 33))).R h5 c_ (qS s ([(T3.mk x y (0 : Rat)), (T3.mk u y (0 : Rat)), (T3.mk u v (0 : Rat)), (T3.mk x v (0 : Rat))].getD 2 (T3.mk (0 : Rat) 0 0)))) (yG sizeOf32 (Pc.here _) rfl rfl rfl rb14u3 r38u3_0 rfl) (xE (by first | (simp; done) | grind)) ?_)
 intro cs_11 rb_12
 refine w_q rfl (fun h' L' hh hR => zZ rfl) rfl (xA (zJ (e' := [(5, _), (12, _), (11, _), (13, _), (14, _)]) e5 (zB (zA (mv rfl rfl (wF (F := fun v_ => (rpT (rpQ (3 * k + l + 4 * m + 33))).Is h5 v_ (qS s ([(T3.mk x y (0 : Rat)), (T3.mk u y (0 : Rat)), (T3.mk u v (0 : Rat)), (T3.mk x v (0 : Rat))].getD 2 (T3.mk (0 : Rat) 0 0)))) (zE yZ (Pc.here _) rfl rfl rb_12 rfl) (yF (.head _)) rfl ?_))))))
 intro v42u3 r42u3
 refine zK (xD (ρ := (rpT (rpQ (3 * k + l + 4 * m + 33)))) (m := 1) (xs := [qS s ([(T3.mk x y (0 : Rat)), (T3.mk u y (0 : Rat)), (T3.mk u v (0 : Rat)), (T3.mk x v (0 : Rat))].getD 2 (T3.mk (0 : Rat) 0 0))]) (ps' := [(0, _)]) underlying27 yD rfl rfl rfl (wH (wA (by omega))) e2z (yX rfl (Pc.arr (Pc.here _) (T3.mk (0 : Rat) 0 0) 0 (by decide)) r42u3 wD) (show 1 * 9 ≤ 16777216 from by decide) p9N) rfl rfl rfl ?_
 intro v43u3 q43u3 hq43u3
 obtain ⟨cs43u3, rfl, rl43u3⟩ := hq43u3
 refine kJ (A := []) (ρ := (rpT (rpQ (3 * k + l + 4 * m + 33)))) rl43u3 ?_
 intro h6 hh6 rs_13
 replace rl44u2 := rl44u2.mono (hh5.trans hh6)
 refine jB (A := [_, _]) (yN (ρ := (rpT (rpQ (3 * k + l + 4 * m + 33)))) (bytes := 168) underlying27 yD rfl rfl rfl rfl p9N rfl rfl rl44u2 rs_13 (by first | omega | (simp only [lAz, lC, lN, lR, lS]; omega)) (by first | omega | (simp only [lAz, lC, lN, lR, lS]; omega))) rfl rfl rfl ?_
 intro v44u3 q44u3 hq44u3
 obtain ⟨cs44u3, rfl, rl44u3⟩ := hq44u3
 refine asg rfl rfl (zD (xB (zB (zA (mv rfl rfl (gv ((zR (q := 1) rfl rfl (by omega) (by omega)).cv (show _ = vI (3) from rfl)) rfl (asg rfl rfl (zD (xT (zC (zC (zA (mv rfl rfl ?_)))))))))))))
 refine gv (OpV.tr (by decide) (zW (q := 4) rfl rfl)) rfl (zD (zB (xQ rfl (zL (zB (zC (zS (zC (wM (e' := [(5, _), (12, _), (11, _), (13, _)]) e4z ?_)))))))))
 refine yI 11 _ [(8, (14, 32, [.bool false, .slice none 0 0, .slice none 0 0, .bool false, .slice none 0 0, .slice none 0 0, .bool false, .slice none 0 0, .slice none 0 0]))] [(0, .q), (1, .q), (2, .q), (3, .q), (4, .c), (5, .q), (6, .q), (7, .q), (8, .a), (9, .c), (10, .q)] xI (jC.cons rfl (uU yD rfl rfl) jC.nil) (by kernel_rfl) (uV rfl rfl jY) (fun r hr => hr) ?_
 replace rb5 := rb5.mono (hh5.trans hh6)
 refine yP (F := fun v_ => (rpP (rpT (rpQ m)) (rpQ l)).Is h6 v_ s) rfl (zE jM (Pc.here _) rfl rfl rb5 rfl) (yF (.tail _ (.tail _ (.tail _ (.tail _ (.tail _ (.tail _ (.tail _ (.tail _ (.tail _ (.head _))))))))))) rfl ?_
 intro v34u4 r34u4
 refine w_q rfl (fun h' L' hh hR => zF rfl) rfl (w_q rfl (fun h' L' hh hR => (zH (sz := 9) 3 underlying119 sizeOf32 rfl rfl rfl (by decide)).cv (show _ = vP b12 27 from congrArg (vP b12) (by rfl))) rfl ?_)
 replace rb_3 := rb_3.mono (hh5.trans hh6)
 refine yP (F := fun v_ => (rpT (rpQ (k + 1))).Is h6 v_ ([(T3.mk x y (0 : Rat)), (T3.mk u y (0 : Rat)), (T3.mk u v (0 : Rat)), (T3.mk x v (0 : Rat))].getD 3 (T3.mk (0 : Rat) 0 0))) rfl (zE yZ (Pc.arr (Pc.here _) (T3.mk (0 : Rat) 0 0) 3 (by decide)) rfl rfl rb_3 rfl) (yF (.tail _ (.tail _ (.tail _ (.tail _ (.head _)))))) rfl ?_
 intro v37u4 r37u4
 refine w_c rfl ?_
 refine zY (vs := [_, _]) call114 e2z (fun w hs => bW hs r34u4 r37u4 (by omega) (by omega) (by omega)) rfl ?_
 intro v38u4 h7 hh7 r38u4
 obtain ⟨v38u4_0, rfl, r38u4_0⟩ := r38u4
 change (rpT (rpQ (3 * (k + 1) + l + 4 * m + 30))).Is h7 v38u4_0 (qS s ([(T3.mk x y (0 : Rat)), (T3.mk u y (0 : Rat)), (T3.mk u v (0 : Rat)), (T3.mk x v (0 : Rat))].getD 3 (T3.mk (0 : Rat) 0 0))) at r38u4_0
 replace r38u4_0 := Rp.Is.le r38u4_0 (Le.t (Le.q (l := 3 * k + l + 4 * m + 33) (by omega)))
 refine w_q rfl (fun h' L' hh hR => zF rfl) rfl (w_q rfl (fun h' L' hh hR => zN (vs := [_, _]) rfl rfl) rfl (w_q rfl (fun h' L' hh hR => zN (vs := [_, _]) rfl rfl) rfl ?_))
 refine w_a rfl (fun b14u4 => ?_)
 have rb14u4 : (rpT (rpQ (3 * k + l + 4 * m + 33))).R h7 [.bool false, .slice none 0 0, .slice none 0 0, .bool false, .slice none 0 0, .slice none 0 0, .bool false, .slice none 0 0, .slice none 0 0] (T3.mk (0 : Rat) 0 0) := (wH (wA (by omega)))
 refine w_c rfl (fH (A := []) (F := fun c_ => (rpT (rpQ (3 * k + l + 4 * m + 33))).R h7 c_ (qS s ([(T3.mk x y (0 : Rat)), (T3.mk u y (0 : Rat)), (T3.mk u v (0 : Rat)), (T3.mk x v (0 : Rat))].getD 3 (T3.mk (0 : Rat) 0 0)))) (yG sizeOf32 (Pc.here _) rfl rfl rfl rb14u4 r38u4_0 rfl) (xE (by first | (simp; done) | grind)) ?_)
 intro cs_14 rb_15
 refine w_q rfl (fun h' L' hh hR => zZ rfl) rfl (xA (zB (zA (mv rfl rfl (wF (F := fun v_ => (rpT (rpQ (3 * k + l + 4 * m + 33))).Is h7 v_ (qS s ([(T3.mk x y (0 : Rat)), (T3.mk u y (0 : Rat)), (T3.mk u v (0 : Rat)), (T3.mk x v (0 : Rat))].getD 3 (T3.mk (0 : Rat) 0 0)))) (zE yZ (Pc.here _) rfl rfl rb_15 rfl) (yF (.head _)) rfl ?_)))))
 intro v42u4 r42u4
 refine zK (xD (ρ := (rpT (rpQ (3 * k + l + 4 * m + 33)))) (m := 1) (xs := [qS s ([(T3.mk x y (0 : Rat)), (T3.mk u y (0 : Rat)), (T3.mk u v (0 : Rat)), (T3.mk x v (0 : Rat))].getD 3 (T3.mk (0 : Rat) 0 0))]) (ps' := [(0, _)]) underlying27 yD rfl rfl rfl (wH (wA (by omega))) e2z (yX rfl (Pc.arr (Pc.here _) (T3.mk (0 : Rat) 0 0) 0 (by decide)) r42u4 wD) (show 1 * 9 ≤ 16777216 from by decide) p9N) rfl rfl rfl ?_
 intro v43u4 q43u4 hq43u4
 obtain ⟨cs43u4, rfl, rl43u4⟩ := hq43u4
 refine kJ (A := []) (ρ := (rpT (rpQ (3 * k + l + 4 * m + 33)))) rl43u4 ?_
 intro h8 hh8 rs_16
 replace rl44u3 := rl44u3.mono (hh7.trans hh8)
 refine jB (A := [_, _, _]) (yN (ρ := (rpT (rpQ (3 * k + l + 4 * m + 33)))) (bytes := 168) underlying27 yD rfl rfl rfl rfl p9N rfl rfl rl44u3 rs_16 (by first | omega | (simp only [lAz, lC, lN, lR, lS]; omega)) (by first | omega | (simp only [lAz, lC, lN, lR, lS]; omega))) rfl rfl rfl ?_
 intro v44u4 q44u4 hq44u4
 obtain ⟨cs44u4, rfl, rl44u4⟩ := hq44u4
 refine asg rfl rfl (zD (xB (zJ (e' := [(5, _), (12, _), (13, _), (11, _)]) e4z (zB (zA (mv rfl rfl (gv ((zR (q := 1) rfl rfl (by omega) (by omega)).cv (show _ = vI (4) from rfl)) rfl (asg rfl rfl (zD (xT (zC (zC (zA ?_)))))))))))))
 refine mv rfl rfl (gv (OpV.fa (by decide) (zW (q := 4) rfl rfl)) rfl (zD (zB (vZ rfl (xM (yE (yE (xL (zB (zC (zA (mv rfl rfl (asg rfl rfl ?_)))))))))))))
 refine zD (zB (zQ (kI (A := [_, _, _]) (ρ := (rpT (rpQ (3 * k + l + 4 * m + 33)))) rl44u4 ?_)))
 intro h9 hh9 rs_17
 refine yH rfl rfl ?_
 exact rs_17
theorem s6 {w0 : World} {h0 : Mem}  (hs : MLe h0 (mem w0)) {m l k : Nat} {vs : Value} {s : ((T3 Rat) × Rat)} (rs : (rpP (rpT (rpQ m)) (rpQ l)).Is h0 vs s) {vps : Value} {ps : (List (T3 Rat))} (rps : (rpS (rpT (rpQ k))).Is h0 vps ps) (hcd0 : k ≤ 10000) (hcd1 : l ≤ 10000) (hcd2 : m ≤ 10000)  :
    Calls Tryz.prog 37 #[vs, vps] w0 (Ret w0 h0 (fun h r => ∃ u0, r = .tuple #[u0, vB (¬ (ps.length = 0 ∨ s.1 = zT))] ∧ (rpS (rpT (rpQ (3 * k + l + 4 * m + 45)))).Is h u0 (aroZ s ps))) := by
 have hlp := s_lt rps
 refine zP (n := 79) (e := [(0, vs), (1, vps)]) (vs := [vs, vps]) func37 rfl rfl (bL rfl) hs e2z (zC (zA (zK (yW (ρ := (rpP (rpT (rpQ m)) (rpQ l))) rfl rs) rfl rfl rfl ?_)))
 intro v2 q2 hq2
 obtain ⟨b2, cs2, rfl, rfl, rb2⟩ := hq2
 refine asg rfl rfl (asg rfl rfl (zD (zB (zC (zC (zA (mv rfl rfl (gv (vE underlying27 rfl rps) rfl (gv (wG (q := 0) rfl rfl) rfl ?_)))))))))
 refine vS (ι := Mem) 5 (fun m_ => MLe h0 m_) (fun _ => [(19, vB (((↑(ps).length : Int) = (0 : Int)) ∨ (s.1 = (T3.mk (0 : Rat) 0 0)))), (1, vps), (2, vP b2 0)]) (fun _ => [.var b2 34 cs2]) (fun m_ => m_) ?_ ?_
 ·
  refine wI ((↑(ps).length : Int) = (0 : Int)) (fun hg => ?_) (fun hg => ?_)
  ·
   refine xH (zF (v := .bool true) (congrArg some (xJ hg))) rfl rfl rfl (yK rfl rfl rfl rfl rfl rfl (yK rfl rfl rfl rfl rfl rfl (yK rfl rfl rfl rfl rfl rfl (gv (xC rfl rfl) rfl (zD ?_)))))
   refine yM h0 (MLe.refl _) ⟨?_, rfl, rfl, trivial⟩ rfl rfl
   exact congrArg some (qU hg)
  refine xH (zF (v := .bool false) (congrArg some (yS hg))) rfl rfl rfl (yU rfl rfl rfl (gv ((zI underlying34 rfl sizeOf32 rfl).cv (show _ = vP b2 0 from congrArg (vP b2) (by rfl))) rfl (yU rfl rfl rfl (wF (F := fun v_ => (rpT (rpQ m)).Is h0 v_ s.1) (zE yZ (Pc.fst (Pc.here _)) rfl rfl rb2 rfl) (yF (.head _)) rfl ?_))))
  intro v17 r17
  refine yU rfl rfl rfl ?_
  refine zM (vs := [_]) rfl rfl rfl rfl call41 ⟨rfl, trivial⟩ (fun w hs => mD hs r17 (by omega)) ?_
  intro v18 h1 hh1 r18
  obtain rfl : v18 = vB (s.1 = (T3.mk (0 : Rat) 0 0)) := r18
  refine gv (xN rfl rfl) rfl (zD ?_)
  refine yM h1 hh1 ⟨?_, rfl, rfl, trivial⟩ rfl rfl
  exact congrArg some (qV hg)
 intro mg1_3 hmmg1_3
 show GL _ _ _ _ _ _ _ [(19, vB (((↑(ps).length : Int) = (0 : Int)) ∨ (s.1 = (T3.mk (0 : Rat) 0 0)))), (1, vps), (2, vP b2 0)] [.var b2 34 cs2] mg1_3
 refine zD (zB ?_)
 refine zO rfl (fun hc19 => ?_) (fun hc19 => ?_)
 ·
  have hz : ps.length = 0 ∨ s.1 = zT := hc19.imp (fun e => by omega) id
  refine zC (zA (asg rfl rfl (asg rfl rfl (zD (zB (zQ (zX (vJ rfl rfl rfl ?_))))))))
  refine ⟨_, ?_, (Rp.Is.cast (bD _) (by exact (if_pos hz).symm))⟩
  rw [yS (fun e => e hz)]
 have hz : ¬ (ps.length = 0 ∨ s.1 = zT) := fun e => hc19 (e.imp (fun e => by omega) id)
 refine zL (zB (zC ?_))
 refine yI 6 _ [(5, (6, 32, [.bool false, .slice none 0 0, .slice none 0 0, .bool false, .slice none 0 0, .slice none 0 0, .bool false, .slice none 0 0, .slice none 0 0]))] [(0, .q), (1, .q), (2, .q), (3, .q), (4, .c), (5, .a), (6, .t)] xI (jC.cons rfl (uU yD rfl rfl) jC.nil) (by kernel_rfl) (uV rfl rfl jY) (fun r hr => hr) ?_
 replace rb2 := rb2.mono hmmg1_3
 refine yP (F := fun v_ => (rpP (rpT (rpQ m)) (rpQ l)).Is mg1_3 v_ s) rfl (zE jM (Pc.here _) rfl rfl rb2 rfl) (yF (.head _)) rfl ?_
 intro v20 r20
 refine w_q rfl (fun h' L' hh hR => zF rfl) rfl ?_
 replace rps := rps.mono hmmg1_3
 refine yP (F := fun v_ => AtP (rpT (rpQ k)) mg1_3 v_ (ps.getD 0 (T3.mk (0 : Rat) 0 0))) rfl (vN (q := 0) (T3.mk (0 : Rat) 0 0) 0 underlying27 yZ rfl rfl rps rfl (by omega) p9N) vW rfl ?_
 intro v22 r22
 refine yP (F := fun v_ => (rpT (rpQ k)).Is mg1_3 v_ (ps.getD 0 (T3.mk (0 : Rat) 0 0))) rfl (wP yZ rfl r22) vW rfl ?_
 intro v23 r23
 refine w_c rfl ?_
 refine zY (vs := [_, _]) call73 e2z (fun w hs => lX hs r20 r23 (by omega) (by omega)) rfl ?_
 intro v24 h1 hh1 r24
 change (rpT (rpQ (k + 1))).Is h1 v24 (qT s (ps.getD 0 (T3.mk (0 : Rat) 0 0))) at r24
 refine w_a rfl (fun b6 => ?_)
 have rb6 : (rpT (rpQ (k + 1))).R h1 [.bool false, .slice none 0 0, .slice none 0 0, .bool false, .slice none 0 0, .slice none 0 0, .bool false, .slice none 0 0, .slice none 0 0] (T3.mk (0 : Rat) 0 0) := (wH (wA (by omega)))
 refine xY (A := []) (F := fun c_ => (rpT (rpQ (k + 1))).R h1 c_ (qT s (ps.getD 0 (T3.mk (0 : Rat) 0 0)))) rfl (yG sizeOf32 (Pc.here _) rfl rfl rfl rb6 r24 rfl) ?_
 intro cs_18 rb_19
 refine xA (zB (zC (zA (wF (F := fun v_ => (rpT (rpQ (k + 1))).Is h1 v_ (qT s (ps.getD 0 (T3.mk (0 : Rat) 0 0)))) (zE yZ (Pc.here _) rfl rfl rb_19 rfl) (yF (.head _)) rfl ?_))))
 intro v25 r25
 refine zK (yY (ρ := (rpT (rpQ (k + 1)))) (X := (T3.mk (0 : Rat) 0 0)) yD rfl rfl (wH (wA (by omega)))) rfl rfl rfl ?_
 intro v7 q7 hq7
 obtain ⟨b7, cs7, rfl, rfl, rb7⟩ := hq7
 refine wB (A := []) (F := fun c_ => (rpT (rpQ (k + 1))).R h1 c_ (qT s (ps.getD 0 (T3.mk (0 : Rat) 0 0)))) (yG sizeOf32 (Pc.here _) rfl rfl rfl rb7 r25 rfl) ?_
 intro cs_20 rb_21
 refine zD (zB (zC (zC (zA (asg (v := vI (0)) rfl rfl (zD (zB (zS ?_))))))))
 refine wT (ι := Nat × List Value × List Value × Mem) (fun (i, cs_22, cs_24, ma) => MLe h1 ma ∧ ((rpT (rpQ (k + 1))).R ma cs_22 (sG s ps i) ∧ (rpT (rpQ (k + 1))).R ma cs_24 (sH s ps i) ∧ i ≤ ps.length)) (fun (i, cs_22, cs_24, ma) => [(1, vps), (2, vP b2 0), (6, vP b6 0), (7, vP b7 0), (8, vI ↑i)]) (fun (i, cs_22, cs_24, ma) => [.var b7 32 cs_24, .var b6 32 cs_22, .var b2 34 cs2]) (fun (i, cs_22, cs_24, ma) => ma) (fun (i, cs_22, cs_24, ma) => ps.length - i) (0, cs_18, cs_20, h1) ?_ e5 rfl rfl ?_
 ·
  refine ⟨MLe.refl _, ?_⟩
  refine ⟨rb_19, rb_21, ?_⟩
  exact (by omega)
 intro x hx
 obtain ⟨i, cs_22, cs_24, ma⟩ := x
 obtain ⟨hmma, hinv⟩ := hx
 show GC _ _ _ _ _ _ [(1, vps), (2, vP b2 0), (6, vP b6 0), (7, vP b7 0), (8, vI ↑i)] [.var b7 32 cs_24, .var b6 32 cs_22, .var b2 34 cs2] ma
 obtain ⟨rb_23, rb_25, hinv⟩ := hinv
 have hi1 := hinv
 refine zC (zC (zA (mv rfl rfl (mv rfl rfl ?_))))
 replace rps := rps.mono (hh1.trans hmma)
 refine gv (vE underlying27 rfl rps) rfl (gv (zW rfl rfl) rfl (zD (zB ?_)))
 refine zO rfl (fun hc29 => ?_) (fun hc29 => ?_)
 ·
  refine zL (zB (zC (zS (zC ?_))))
  refine yI 7 _ [(6, (9, 32, [.bool false, .slice none 0 0, .slice none 0 0, .bool false, .slice none 0 0, .slice none 0 0, .bool false, .slice none 0 0, .slice none 0 0]))] [(0, .q), (1, .q), (2, .q), (3, .q), (4, .q), (5, .c), (6, .a), (7, .t)] xI (jC.cons rfl (uU yD rfl rfl) jC.nil) (by kernel_rfl) (uV rfl rfl jY) (fun r hr => hr) ?_
  replace rb2 := rb2.mono (hh1.trans hmma)
  refine yP (F := fun v_ => (rpP (rpT (rpQ m)) (rpQ l)).Is ma v_ s) rfl (zE jM (Pc.here _) rfl rfl rb2 rfl) (yF (.tail _ (.tail _ (.head _)))) rfl ?_
  intro v32 r32
  refine w_q rfl (fun h' L' hh hR => zF rfl) rfl (w_q rfl (fun h' L' hh hR => zF rfl) rfl (yP (F := fun v_ => AtP (rpT (rpQ k)) ma v_ (ps.getD i (T3.mk (0 : Rat) 0 0))) rfl (vN (T3.mk (0 : Rat) 0 0) i underlying27 yZ rfl rfl rps rfl (by omega) p9N) vW rfl ?_))
  intro v35 r35
  refine yP (F := fun v_ => (rpT (rpQ k)).Is ma v_ (ps.getD i (T3.mk (0 : Rat) 0 0))) rfl (wP yZ rfl r35) vW rfl ?_
  intro v36 r36
  refine w_c rfl ?_
  refine zY (vs := [_, _]) call73 e2z (fun w hs => lX hs r32 r36 (by omega) (by omega)) rfl ?_
  intro v37 h2 hh2 r37
  change (rpT (rpQ (k + 1))).Is h2 v37 (qT s (ps.getD i (T3.mk (0 : Rat) 0 0))) at r37
  refine w_a rfl (fun b9 => ?_)
  have rb9 : (rpT (rpQ (k + 1))).R h2 [.bool false, .slice none 0 0, .slice none 0 0, .bool false, .slice none 0 0, .slice none 0 0, .bool false, .slice none 0 0, .slice none 0 0] (T3.mk (0 : Rat) 0 0) := (wH (wA (by omega)))
  refine xY (A := []) (F := fun c_ => (rpT (rpQ (k + 1))).R h2 c_ (qT s (ps.getD i (T3.mk (0 : Rat) 0 0)))) rfl (yG sizeOf32 (Pc.here _) rfl rfl rfl rb9 r37 rfl) ?_
  intro cs_26 rb_27
  refine xA (zJ (e' := [(1, _), (2, _), (6, _), (7, _), (8, _), (9, _)]) e6 (zB (zC (zA (asg (v := vI (0)) rfl rfl (zD (zB (zS (jW (zC (zC (zA (mv rfl rfl ?_)))))))))))))
  refine gv (OpV.tr (by decide) (zW (q := 2) rfl rfl)) rfl (zD (zB (xQ rfl (zL (zB (zC (zS ?_)))))))
  refine yI 17 _ [] [(0, .q), (1, .p), (2, .q), (3, .q), (4, .q), (5, .q), (6, .q), (7, .q), (9, .q), (10, .q), (11, .q), (12, .q), (13, .q), (14, .q), (8, .c), (16, .q), (15, .c), (17, .t), (18, .t), (19, .t)] xI nX (gK [0, 0, 0, 4, 8, 0, 32, 64, 144, 0, 512, 1024, 0, 4096, 8192, 18688, 509, 98813, 262143, 524287] [1048575, 1048575, 1048575, 1048571, 1048567, 1048575, 1048543, 1048511, 1048431, 1048575, 1048063, 1047551, 1048575, 1044479, 1040383, 1030143, 1048574, 982783, 1048573, 753663] (by kernel_rfl)) nX (fun r hr => hr) (w_q rfl (fun h' L' hh hR => zF rfl) rfl (w_p (⟨.inl rfl,  rfl⟩) rfl rfl (w_q rfl (fun h' L' hh hR => zF rfl) rfl (w_q rfl (fun h' L' hh hR => (zH (sz := 3) 0 underlying32 sizeOf30 rfl rfl rfl (by decide)).cv (show _ = vP b6 0 from congrArg (vP b6) (by rfl))) rfl ?_))))
  replace rb_23 := rb_23.mono hh2
  refine yP (F := fun v_ => (rpQ (k + 1)).Is h2 v_ ((sG s ps i).x)) rfl (zE xZ (Pc.tx (Pc.here _)) rfl rfl rb_23 rfl) (yF (.tail _ (.tail _ (.head _)))) rfl ?_
  intro v46u6 r46u6
  refine w_q rfl (fun h' L' hh hR => zF rfl) rfl (w_q rfl (fun h' L' hh hR => (zH (sz := 3) 0 underlying32 sizeOf30 rfl rfl rfl (by decide)).cv (show _ = vP b9 0 from congrArg (vP b9) (by rfl))) rfl (yP (F := fun v_ => (rpQ (k + 1)).Is h2 v_ ((qT s (ps.getD i (T3.mk (0 : Rat) 0 0))).x)) rfl (zE xZ (Pc.tx (Pc.here _)) rfl rfl rb_27 rfl) (yF (.head _)) rfl ?_))
  intro v49u6 r49u6
  refine w_q rfl (fun h' L' hh hR => zF rfl) rfl (w_q rfl (fun h' L' hh hR => (zH (sz := 3) 0 underlying32 sizeOf30 rfl rfl rfl (by decide)).cv (show _ = vP b7 0 from congrArg (vP b7) (by rfl))) rfl ?_)
  replace rb_25 := rb_25.mono hh2
  refine yP (F := fun v_ => (rpQ (k + 1)).Is h2 v_ ((sH s ps i).x)) rfl (zE xZ (Pc.tx (Pc.here _)) rfl rfl rb_25 rfl) (yF (.tail _ (.head _))) rfl ?_
  intro v53u6 r53u6
  refine w_q rfl (fun h' L' hh hR => zF rfl) rfl (w_q rfl (fun h' L' hh hR => (zH (sz := 3) 0 underlying32 sizeOf30 rfl rfl rfl (by decide)).cv (show _ = vP b9 0 from congrArg (vP b9) (by rfl))) rfl (yP (F := fun v_ => (rpQ (k + 1)).Is h2 v_ ((qT s (ps.getD i (T3.mk (0 : Rat) 0 0))).x)) rfl (zE xZ (Pc.tx (Pc.here _)) rfl rfl rb_27 rfl) (yF (.head _)) rfl ?_))
  intro v56u6 r56u6
  refine w_c rfl ?_
  refine zY (vs := [_, _]) call74 e2z (fun w hs => eQ hs r46u6 r49u6 (by omega)) rfl ?_
  intro v50u6 h3 hh3 r50u6
  change (rpQ (k + 1)).Is h3 v50u6 (kT ((sG s ps i).x) ((qT s (ps.getD i (T3.mk (0 : Rat) 0 0))).x)) at r50u6
  refine w_q rfl (fun h' L' hh hR => (zH (sz := 3) 0 underlying32 sizeOf30 rfl rfl rfl (by decide)).cv (show _ = vP b6 0 from congrArg (vP b6) (by rfl))) rfl ?_
  refine w_c rfl ?_
  replace r53u6 := r53u6.mono hh3
  replace r56u6 := r56u6.mono hh3
  refine zY (vs := [_, _]) call75 e2z (fun w hs => eR hs r53u6 r56u6 (by omega)) rfl ?_
  intro v57u6 h4 hh4 r57u6
  change (rpQ (k + 1)).Is h4 v57u6 (kP ((sH s ps i).x) ((qT s (ps.getD i (T3.mk (0 : Rat) 0 0))).x)) at r57u6
  replace rb_23 := rb_23.mono (hh3.trans hh4)
  replace r50u6 := r50u6.mono hh4
  refine xY (A := [_, _]) (F := fun c_ => (rpT (rpQ (k + 1))).R h4 c_ (T3.mk (kT ((sG s ps i).x) ((qT s (ps.getD i (T3.mk (0 : Rat) 0 0))).x)) ((sG s ps i).y) ((sG s ps i).z))) rfl (yG sizeOf30 (Pc.tx (Pc.here _)) rfl rfl rfl rb_23 r50u6 rfl) ?_
  intro cs_28 rb_29
  refine aZ rfl ((zH (sz := 3) 0 underlying32 sizeOf30 rfl rfl rfl (by decide)).cv (show _ = vP b7 0 from congrArg (vP b7) (by rfl))) rfl ?_
  replace rb_25 := rb_25.mono (hh3.trans hh4)
  refine xY (A := [_]) (F := fun c_ => (rpT (rpQ (k + 1))).R h4 c_ (T3.mk (kP ((sH s ps i).x) ((qT s (ps.getD i (T3.mk (0 : Rat) 0 0))).x)) ((sH s ps i).y) ((sH s ps i).z))) rfl (yG sizeOf30 (Pc.tx (Pc.here _)) rfl rfl rfl rb_25 r57u6 rfl) ?_
  intro cs_30 rb_31
  refine xA (xB (zJ (e' := [(1, _), (2, _), (6, _), (7, _), (8, _), (9, _), (10, _)]) e7 (zB (zA (mv rfl rfl (gv ((zR (q := 1) rfl rfl (by omega) (by omega)).cv (show _ = vI (1) from rfl)) rfl (asg rfl rfl (zD (xT (zC (zC (zA (mv rfl rfl ?_)))))))))))))
  refine gv (OpV.tr (by decide) (zW (q := 2) rfl rfl)) rfl (zD (zB (xQ rfl (zL (zB (zC (zS ?_)))))))
  refine yI 17 _ [] [(0, .q), (1, .p), (2, .q), (3, .q), (4, .q), (5, .q), (6, .q), (7, .q), (9, .q), (10, .q), (11, .q), (12, .q), (13, .q), (14, .q), (8, .c), (16, .q), (15, .c), (17, .t), (18, .t), (19, .t)] xI nX (gK [0, 0, 0, 4, 8, 0, 32, 64, 144, 0, 512, 1024, 0, 4096, 8192, 18688, 509, 98813, 262143, 524287] [1048575, 1048575, 1048575, 1048571, 1048567, 1048575, 1048543, 1048511, 1048431, 1048575, 1048063, 1047551, 1048575, 1044479, 1040383, 1030143, 1048574, 982783, 1048573, 753663] (by kernel_rfl)) nX (fun r hr => hr) (w_q rfl (fun h' L' hh hR => zF rfl) rfl (w_p (⟨.inl rfl,  rfl⟩) rfl rfl (w_q rfl (fun h' L' hh hR => zF rfl) rfl (w_q rfl (fun h' L' hh hR => (zH (sz := 3) 1 underlying32 sizeOf30 rfl rfl rfl (by decide)).cv (show _ = vP b6 3 from congrArg (vP b6) (by rfl))) rfl (yP (F := fun v_ => (rpQ (k + 1)).Is h4 v_ ((sG s ps i).y)) rfl (zE xZ (Pc.ty (Pc.here _)) rfl rfl rb_29 rfl) (yF (.tail _ (.tail _ (.head _)))) rfl ?_)))))
  intro v46u7 r46u7
  refine w_q rfl (fun h' L' hh hR => zF rfl) rfl (w_q rfl (fun h' L' hh hR => (zH (sz := 3) 1 underlying32 sizeOf30 rfl rfl rfl (by decide)).cv (show _ = vP b9 3 from congrArg (vP b9) (by rfl))) rfl ?_)
  replace rb_27 := rb_27.mono (hh3.trans hh4)
  refine yP (F := fun v_ => (rpQ (k + 1)).Is h4 v_ ((qT s (ps.getD i (T3.mk (0 : Rat) 0 0))).y)) rfl (zE xZ (Pc.ty (Pc.here _)) rfl rfl rb_27 rfl) (yF (.head _)) rfl ?_
  intro v49u7 r49u7
  refine w_q rfl (fun h' L' hh hR => zF rfl) rfl (w_q rfl (fun h' L' hh hR => (zH (sz := 3) 1 underlying32 sizeOf30 rfl rfl rfl (by decide)).cv (show _ = vP b7 3 from congrArg (vP b7) (by rfl))) rfl (yP (F := fun v_ => (rpQ (k + 1)).Is h4 v_ ((sH s ps i).y)) rfl (zE xZ (Pc.ty (Pc.here _)) rfl rfl rb_31 rfl) (yF (.tail _ (.head _))) rfl ?_))
  intro v53u7 r53u7
  refine w_q rfl (fun h' L' hh hR => zF rfl) rfl (w_q rfl (fun h' L' hh hR => (zH (sz := 3) 1 underlying32 sizeOf30 rfl rfl rfl (by decide)).cv (show _ = vP b9 3 from congrArg (vP b9) (by rfl))) rfl (yP (F := fun v_ => (rpQ (k + 1)).Is h4 v_ ((qT s (ps.getD i (T3.mk (0 : Rat) 0 0))).y)) rfl (zE xZ (Pc.ty (Pc.here _)) rfl rfl rb_27 rfl) (yF (.head _)) rfl ?_))
  intro v56u7 r56u7
  refine w_c rfl ?_
  refine zY (vs := [_, _]) call74 e2z (fun w hs => eQ hs r46u7 r49u7 (by omega)) rfl ?_
  intro v50u7 h5 hh5 r50u7
  change (rpQ (k + 1)).Is h5 v50u7 (kT ((sG s ps i).y) ((qT s (ps.getD i (T3.mk (0 : Rat) 0 0))).y)) at r50u7
  refine w_q rfl (fun h' L' hh hR => (zH (sz := 3) 1 underlying32 sizeOf30 rfl rfl rfl (by decide)).cv (show _ = vP b6 3 from congrArg (vP b6) (by rfl))) rfl ?_
  refine w_c rfl ?_
  replace r53u7 := r53u7.mono hh5
  replace r56u7 := r56u7.mono hh5
  refine zY (vs := [_, _]) call75 e2z (fun w hs => eR hs r53u7 r56u7 (by omega)) rfl ?_
  intro v57u7 h6 hh6 r57u7
  change (rpQ (k + 1)).Is h6 v57u7 (kP ((sH s ps i).y) ((qT s (ps.getD i (T3.mk (0 : Rat) 0 0))).y)) at r57u7
  replace rb_29 := rb_29.mono (hh5.trans hh6)
  replace r50u7 := r50u7.mono hh6
  refine xY (A := [_, _]) (F := fun c_ => (rpT (rpQ (k + 1))).R h6 c_ (T3.mk (kT ((sG s ps i).x) ((qT s (ps.getD i (T3.mk (0 : Rat) 0 0))).x)) (kT ((sG s ps i).y) ((qT s (ps.getD i (T3.mk (0 : Rat) 0 0))).y)) ((sG s ps i).z))) rfl (yG sizeOf30 (Pc.ty (Pc.here _)) rfl rfl rfl rb_29 r50u7 rfl) ?_
  intro cs_32 rb_33
  refine aZ rfl ((zH (sz := 3) 1 underlying32 sizeOf30 rfl rfl rfl (by decide)).cv (show _ = vP b7 3 from congrArg (vP b7) (by rfl))) rfl ?_
  replace rb_31 := rb_31.mono (hh5.trans hh6)
  refine xY (A := [_]) (F := fun c_ => (rpT (rpQ (k + 1))).R h6 c_ (T3.mk (kP ((sH s ps i).x) ((qT s (ps.getD i (T3.mk (0 : Rat) 0 0))).x)) (kP ((sH s ps i).y) ((qT s (ps.getD i (T3.mk (0 : Rat) 0 0))).y)) ((sH s ps i).z))) rfl (yG sizeOf30 (Pc.ty (Pc.here _)) rfl rfl rfl rb_31 r57u7 rfl) ?_
  intro cs_34 rb_35
  refine xA (xB (zJ (e' := [(1, _), (2, _), (6, _), (7, _), (8, _), (9, _), (10, _)]) e7 (zB (zA (mv rfl rfl (gv ((zR (q := 1) rfl rfl (by omega) (by omega)).cv (show _ = vI (2) from rfl)) rfl (asg rfl rfl (zD (xT (zC (zC (zA (mv rfl rfl ?_)))))))))))))
  refine gv (OpV.fa (by decide) (zW (q := 2) rfl rfl)) rfl (zD (zB (vZ rfl (xM (yE (yE (xL (xB (zB (zA (mv rfl rfl (gv (zR (q := 1) rfl rfl (by omega) (by omega)) rfl (asg rfl rfl ?_)))))))))))))
  refine zD (xF (A := []) ?_)
  refine yR ((i + 1), cs_32, cs_34, h6) ?_ ?_ e5 rfl rfl
  ·
   refine ⟨(((((hmma.trans hh2).trans hh3).trans hh4).trans hh5).trans hh6), ?_⟩
   refine ⟨(Rp.castR rb_33 rfl), (Rp.castR rb_35 rfl), ?_⟩
   exact (by omega)
  dsimp only
  omega
 have ei : i = ps.length := by omega
 refine xM (yE (yE (xL (zB (zC (zA ?_))))))
 refine zM (vs := [vI (1)]) rfl rfl rfl rfl call45 ⟨rfl, trivial⟩ (fun w hs => jG hs (by decide) (by decide)) ?_
 intro v60 h2 hh2 r60
 change (rpQ 2).Is h2 v60 (((1 : Int) : Int) : Rat) at r60
 refine zK (yY (ρ := (rpQ 1)) (X := (0 : Rat)) wQ rfl rfl (wA (by decide))) rfl rfl rfl ?_
 intro v11 q11 hq11
 obtain ⟨b11, cs11, rfl, rfl, rb11⟩ := hq11
 have rw_36 := (Le.q (l := 2) (by decide)).R rb11
 refine wB (A := []) (F := fun c_ => (rpQ 2).R h2 c_ (((1 : Int) : Int) : Rat)) (yG sizeOf30 (Pc.here _) rfl rfl rfl rw_36 r60 rfl) ?_
 intro cs_37 rb_38
 refine zD (zB (zC ?_))
 refine yI 20 _ [] [(0, .q), (1, .q), (2, .q), (3, .q), (5, .q), (6, .q), (7, .q), (9, .q), (10, .q), (11, .q), (13, .q), (14, .q), (15, .q), (4, .c), (8, .c), (12, .c), (16, .c), (17, .c), (18, .q), (19, .q)] xI nX (gK [0, 0, 2, 0, 12, 0, 32, 0, 208, 0, 512, 0, 3328, 0, 8192, 0, 53248, 69905, 262143, 524287] [1048575, 1048575, 1048573, 1048575, 1048563, 1048575, 1048543, 1048575, 1048383, 1048575, 1048063, 1048575, 1045503, 1048575, 1040383, 1048575, 999423, 978670, 917503, 1048575] (by kernel_rfl)) nX (fun r hr => hr) ?_
 replace rb2 := rb2.mono ((hh1.trans hmma).trans hh2)
 refine yP (F := fun v_ => (rpP (rpT (rpQ m)) (rpQ l)).Is h2 v_ s) rfl (zE jM (Pc.here _) rfl rfl rb2 rfl) (yF (.tail _ (.tail _ (.tail _ (.head _))))) rfl ?_
 intro v61 r61
 refine w_q rfl (fun h' L' hh hR => (zH (sz := 3) (q := 0) 0 underlying32 sizeOf30 rfl rfl rfl (by decide)).cv (show _ = vP b6 0 from congrArg (vP b6) (by rfl))) rfl ?_
 replace rb_23 := rb_23.mono hh2
 refine yP (F := fun v_ => (rpQ (k + 1)).Is h2 v_ ((sG s ps i).x)) rfl (zE xZ (Pc.tx (Pc.here _)) rfl rfl rb_23 rfl) (yF (.tail _ (.tail _ (.head _)))) rfl ?_
 intro v63 r63
 refine yP (F := fun v_ => (rpQ 2).Is h2 v_ (((1 : Int) : Int) : Rat)) rfl (zE xZ (Pc.here _) rfl rfl rb_38 rfl) (yF (.head _)) rfl ?_
 intro v64 r64
 refine w_q rfl (fun h' L' hh hR => (zH (sz := 3) (q := 1) 1 underlying32 sizeOf30 rfl rfl rfl (by decide)).cv (show _ = vP b6 3 from congrArg (vP b6) (by rfl))) rfl (yP (F := fun v_ => (rpQ (k + 1)).Is h2 v_ ((sG s ps i).y)) rfl (zE xZ (Pc.ty (Pc.here _)) rfl rfl rb_23 rfl) (yF (.tail _ (.tail _ (.head _)))) rfl ?_)
 intro v67 r67
 refine yP (F := fun v_ => (rpQ 2).Is h2 v_ (((1 : Int) : Int) : Rat)) rfl (zE xZ (Pc.here _) rfl rfl rb_38 rfl) (yF (.head _)) rfl ?_
 intro v68 r68
 refine w_q rfl (fun h' L' hh hR => (zH (sz := 3) (q := 0) 0 underlying32 sizeOf30 rfl rfl rfl (by decide)).cv (show _ = vP b7 0 from congrArg (vP b7) (by rfl))) rfl ?_
 replace rb_25 := rb_25.mono hh2
 refine yP (F := fun v_ => (rpQ (k + 1)).Is h2 v_ ((sH s ps i).x)) rfl (zE xZ (Pc.tx (Pc.here _)) rfl rfl rb_25 rfl) (yF (.tail _ (.head _))) rfl ?_
 intro v71 r71
 refine yP (F := fun v_ => (rpQ 2).Is h2 v_ (((1 : Int) : Int) : Rat)) rfl (zE xZ (Pc.here _) rfl rfl rb_38 rfl) (yF (.head _)) rfl ?_
 intro v72 r72
 refine w_q rfl (fun h' L' hh hR => (zH (sz := 3) (q := 1) 1 underlying32 sizeOf30 rfl rfl rfl (by decide)).cv (show _ = vP b7 3 from congrArg (vP b7) (by rfl))) rfl (yP (F := fun v_ => (rpQ (k + 1)).Is h2 v_ ((sH s ps i).y)) rfl (zE xZ (Pc.ty (Pc.here _)) rfl rfl rb_25 rfl) (yF (.tail _ (.head _))) rfl ?_)
 intro v75 r75
 refine yP (F := fun v_ => (rpQ 2).Is h2 v_ (((1 : Int) : Int) : Rat)) rfl (zE xZ (Pc.here _) rfl rfl rb_38 rfl) (yF (.head _)) rfl ?_
 intro v76 r76
 refine w_c rfl ?_
 refine zY (vs := [_, _]) call56 e2z (fun w hs => jE hs r63 r64 (by omega)) rfl ?_
 intro v65 h3 hh3 r65
 change (rpQ ((k + 1) + 2 + 1)).Is h3 v65 (((sG s ps i).x) - (((1 : Int) : Int) : Rat)) at r65
 replace r65 := Rp.Is.le r65 (Le.q (l := k + 4) (by omega))
 refine w_c rfl ?_
 replace r67 := r67.mono hh3
 replace r68 := r68.mono hh3
 refine zY (vs := [_, _]) call56 e2z (fun w hs => jE hs r67 r68 (by omega)) rfl ?_
 intro v69 h4 hh4 r69
 change (rpQ ((k + 1) + 2 + 1)).Is h4 v69 (((sG s ps i).y) - (((1 : Int) : Int) : Rat)) at r69
 replace r69 := Rp.Is.le r69 (Le.q (l := k + 4) (by omega))
 refine w_c rfl ?_
 replace r71 := r71.mono (hh3.trans hh4)
 replace r72 := r72.mono (hh3.trans hh4)
 refine zY (vs := [_, _]) call53 e2z (fun w hs => gR hs r71 r72 (by omega)) rfl ?_
 intro v73 h5 hh5 r73
 change (rpQ ((k + 1) + 2 + 1)).Is h5 v73 (((sH s ps i).x) + (((1 : Int) : Int) : Rat)) at r73
 replace r73 := Rp.Is.le r73 (Le.q (l := k + 4) (by omega))
 refine w_c rfl ?_
 replace r75 := r75.mono ((hh3.trans hh4).trans hh5)
 replace r76 := r76.mono ((hh3.trans hh4).trans hh5)
 refine zY (vs := [_, _]) call53 e2z (fun w hs => gR hs r75 r76 (by omega)) rfl ?_
 intro v77 h6 hh6 r77
 change (rpQ ((k + 1) + 2 + 1)).Is h6 v77 (((sH s ps i).y) + (((1 : Int) : Int) : Rat)) at r77
 replace r77 := Rp.Is.le r77 (Le.q (l := k + 4) (by omega))
 refine w_c rfl ?_
 replace r61 := r61.mono (((hh3.trans hh4).trans hh5).trans hh6)
 replace r65 := r65.mono ((hh4.trans hh5).trans hh6)
 replace r69 := r69.mono (hh5.trans hh6)
 replace r73 := r73.mono hh6
 refine zY (vs := [_, _, _, _, _]) call76 e5 (fun w hs => s4 hs r61 r65 r69 r73 r77 (by omega) (by omega) (by omega)) rfl ?_
 intro v78 h7 hh7 r78
 change (rpS (rpT (rpQ (3 * (k + 4) + l + 4 * m + 33)))).Is h7 v78 (sqrL s (((sG s ps i).x) - (((1 : Int) : Int) : Rat)) (((sG s ps i).y) - (((1 : Int) : Int) : Rat)) (((sH s ps i).x) + (((1 : Int) : Int) : Rat)) (((sH s ps i).y) + (((1 : Int) : Int) : Rat))) at r78
 replace r78 := Rp.Is.le r78 (Le.s (Le.t (Le.q (l := 3 * k + l + 4 * m + 45) (by omega))))
 refine w_q rfl (fun h' L' hh hR => zZ rfl) rfl (w_q rfl (fun h' L' hh hR => zZ rfl) rfl (xA (zJ (e' := [(4, _), (5, _)]) e2z (zB (zQ (vJ rfl rfl rfl ?_))))))
 refine ⟨_, ?_, (Rp.Is.cast r78 (by rw [ei]; exact (if_neg hz).symm))⟩
 rw [xJ hz]
end Go.Proofs.YtghhjjmjpeehdaaGreat
namespace Go.Proofs.YtghhjjmjpeehdaaGreat
open Bk Go Tryz
set_option linter.unusedVariables false
set_option linter.unusedSimpArgs false
set_option maxRecDepth 10000
theorem lZ {w0 : World} {h0 : Mem}  (hs : MLe h0 (mem w0))  :
    Calls Tryz.prog 43 #[] w0 (Ret w0 h0 (fun h r => (rpS (rpT (rpQ 2))).Is h r sq0)) := by
 refine zP (n := 6) (e := []) (vs := []) func43 rfl rfl (bL rfl) hs trivial ?_
 refine zC ?_
 refine zA ?_  -- region 0 (line 14)
 refine asg rfl rfl ?_
 refine zD ?_
 refine zB ?_
 refine zC ?_
 refine zA ?_  -- region 1 (line 15)
 refine zM (vs := [vI (0), vI (0), vI (0)]) rfl rfl rfl rfl call44 e3z (fun w hs => gB hs (by decide) (by decide) (by decide) (by decide) (by decide) (by decide)) ?_
 intro v1 h1 hh1 r1
 change (rpT (rpQ 2)).Is h1 v1 (T3.mk (((0 : Int) : Int) : Rat) (((0 : Int) : Int) : Rat) (((0 : Int) : Int) : Rat)) at r1
 refine zM (vs := [vI (2), vI (0), vI (0)]) rfl rfl rfl rfl call44 e3z (fun w hs => gB hs (by decide) (by decide) (by decide) (by decide) (by decide) (by decide)) ?_
 intro v2 h2 hh2 r2
 change (rpT (rpQ 2)).Is h2 v2 (T3.mk (((2 : Int) : Int) : Rat) (((0 : Int) : Int) : Rat) (((0 : Int) : Int) : Rat)) at r2
 refine zM (vs := [vI (2), vI (2), vI (0)]) rfl rfl rfl rfl call44 e3z (fun w hs => gB hs (by decide) (by decide) (by decide) (by decide) (by decide) (by decide)) ?_
 intro v3 h3 hh3 r3
 change (rpT (rpQ 2)).Is h3 v3 (T3.mk (((2 : Int) : Int) : Rat) (((2 : Int) : Int) : Rat) (((0 : Int) : Int) : Rat)) at r3
 refine zM (vs := [vI (0), vI (2), vI (0)]) rfl rfl rfl rfl call44 e3z (fun w hs => gB hs (by decide) (by decide) (by decide) (by decide) (by decide) (by decide)) ?_
 intro v4 h4 hh4 r4
 change (rpT (rpQ 2)).Is h4 v4 (T3.mk (((0 : Int) : Int) : Rat) (((2 : Int) : Int) : Rat) (((0 : Int) : Int) : Rat)) at r4
 replace r1 := r1.mono ((hh2.trans hh3).trans hh4)
 replace r2 := r2.mono (hh3.trans hh4)
 replace r3 := r3.mono hh4
 refine zK (xD (ρ := (rpT (rpQ 2))) (m := 4) (xs := [(T3.mk (((0 : Int) : Int) : Rat) (((0 : Int) : Int) : Rat) (((0 : Int) : Int) : Rat)), (T3.mk (((2 : Int) : Int) : Rat) (((0 : Int) : Int) : Rat) (((0 : Int) : Int) : Rat)), (T3.mk (((2 : Int) : Int) : Rat) (((2 : Int) : Int) : Rat) (((0 : Int) : Int) : Rat)), (T3.mk (((0 : Int) : Int) : Rat) (((2 : Int) : Int) : Rat) (((0 : Int) : Int) : Rat))]) (ps' := [(0, _), (1, _), (2, _), (3, _)]) underlying27 yD rfl rfl rfl (wH (wA (by decide))) e8 (yX rfl (Pc.arr (Pc.here _) (T3.mk (0 : Rat) 0 0) 0 (by decide)) r1 (yX rfl (Pc.arr (Pc.here _) (T3.mk (0 : Rat) 0 0) 1 (by decide)) r2 (yX rfl (Pc.arr (Pc.here _) (T3.mk (0 : Rat) 0 0) 2 (by decide)) r3 (yX rfl (Pc.arr (Pc.here _) (T3.mk (0 : Rat) 0 0) 3 (by decide)) r4 wD)))) (show 4 * 9 ≤ 16777216 from by decide) p9N) rfl rfl rfl ?_
 intro v5 q5 hq5
 obtain ⟨cs5, rfl, rl5⟩ := hq5
 refine asg rfl rfl ?_
 refine zD ?_
 refine zB ?_
 refine zQ ?_
 refine kI (A := []) (ρ := (rpT (rpQ 2))) rl5 ?_
 intro h5 hh5 rs_1
 refine yH rfl rfl ?_
 exact rs_1
theorem sV {w0 : World} {h0 : Mem}  (hs : MLe h0 (mem w0))  :
    Calls Tryz.prog 10 #[] w0 (Ret w0 h0 (fun _ r => r = .bool true)) := by
 refine zP (n := 33) (e := []) (vs := []) func10 rfl rfl (bL rfl) hs trivial ?_
 refine zC ?_
 refine zA ?_  -- region 0 (line 19)
 refine asg rfl rfl ?_
 refine zD ?_
 refine zB ?_
 refine zC ?_
 refine zA ?_  -- region 1 (line 20)
 refine zM (vs := []) rfl rfl rfl rfl call43 trivial (fun w hs => lZ hs ) ?_
 intro v4 h1 hh1 r4
 change (rpS (rpT (rpQ 2))).Is h1 v4 sq0 at r4
 refine zM (vs := [vI (1), vI (0), vI (0)]) rfl rfl rfl rfl call44 e3z (fun w hs => gB hs (by decide) (by decide) (by decide) (by decide) (by decide) (by decide)) ?_
 intro v5 h2 hh2 r5
 change (rpT (rpQ 2)).Is h2 v5 (T3.mk (((1 : Int) : Int) : Rat) (((0 : Int) : Int) : Rat) (((0 : Int) : Int) : Rat)) at r5
 refine zM (vs := [vI (1)]) rfl rfl rfl rfl call45 ⟨rfl, trivial⟩ (fun w hs => jG hs (by decide) (by decide)) ?_
 intro v6 h3 hh3 r6
 change (rpQ 2).Is h3 v6 (((1 : Int) : Int) : Rat) at r6
 replace r5 := r5.mono hh3
 refine wF (F := fun v_ => (rpP (rpT (rpQ 2)) (rpQ 2)).Is h3 v_ ((T3.mk (((1 : Int) : Int) : Rat) (((0 : Int) : Int) : Rat) (((0 : Int) : Int) : Rat)), (((1 : Int) : Int) : Rat))) (cV (ps' := [(0, _), (1, _)]) underlying34 sW rfl rfl (cU underlying34) e4z rfl (oM (wH (wA (by decide))) (wA (by decide))) (yX rfl (Pc.fst (Pc.here _)) r5 (yX rfl (Pc.snd (Pc.here _)) r6 wD))) vW rfl ?_
 intro v7 r7
 replace r4 := r4.mono (hh2.trans hh3)
 refine zM (vs := [_, _]) rfl rfl rfl rfl call14 e2z (fun w hs => o_cx_cut hs r4 r7 (by decide) (by decide) (by decide) (by first | omega | exact (by decide : 4 ≤ 50000))) ?_
 intro v8 h4 hh4 r8
 obtain ⟨v8_0, v8_1, rfl, r8_0, r8_1⟩ := r8
 change (rpS (rpT (rpQ (12 * 2 + 3 * 2 + 9 * 2 + 62 + 2)))).Is h4 v8_0 (tB ((T3.mk (((1 : Int) : Int) : Rat) (((0 : Int) : Int) : Rat) (((0 : Int) : Int) : Rat)), (((1 : Int) : Int) : Rat)) sq0) at r8_0
 replace r8_0 := Rp.Is.le r8_0 (Le.s (Le.t (Le.q (l := 112) (by omega))))
 change (rpS (rpT (rpQ (12 * 2 + 3 * 2 + 9 * 2 + 62 + 2)))).Is h4 v8_1 (tA ((T3.mk (((1 : Int) : Int) : Rat) (((0 : Int) : Int) : Rat) (((0 : Int) : Int) : Rat)), (((1 : Int) : Int) : Rat)) sq0) at r8_1
 replace r8_1 := Rp.Is.le r8_1 (Le.s (Le.t (Le.q (l := 112) (by omega))))
 refine mv rfl rfl ?_
 refine gv (zN (vs := [_, _]) rfl rfl) rfl ?_
 refine gv (zN (vs := [_, _]) rfl rfl) rfl ?_
 refine asg rfl rfl ?_
 refine asg rfl rfl ?_
 refine zD ?_
 refine zB ?_
 refine zC ?_
 refine yI 23 _ [] [(0, .q), (1, .q), (2, .q), (3, .q), (4, .q), (5, .q), (6, .q), (7, .q), (8, .q), (9, .q), (10, .q), (11, .q), (12, .c), (13, .c), (14, .q), (15, .q), (16, .q), (17, .q), (18, .q), (19, .c), (20, .c), (21, .q), (22, .q)] xI nX (gK [0, 1, 2, 4, 8, 24, 40, 72, 136, 256, 768, 1280, 256, 6400, 8448, 24576, 32768, 98304, 163840, 32768, 819200, 1081344, 4194303] [8388607, 8388606, 8388605, 8388603, 8388599, 8388583, 8388567, 8388535, 8388479, 8388351, 8387839, 8387327, 8388351, 8382207, 8380159, 8372223, 8355839, 8290303, 8224767, 8355839, 7569407, 7307263, 6291455] (by kernel_rfl)) nX (fun r hr => hr) ?_  -- region 2 (line 21)
 refine w_q rfl (fun h' L' hh hR => zF rfl) rfl ?_
 refine w_q rfl (fun h' L' hh hR => vE underlying27 rfl (r8_0.mono hh)) rfl ?_
 refine w_q rfl (fun h' L' hh hR => OpV.tr (by exact congrArg (fun l : List Pt => (↑l.length : Int)) tN.1) (wG (q := 4) rfl rfl)) rfl ?_
 refine w_q rfl (fun h' L' hh hR => zF rfl) rfl ?_
 refine vT rfl rfl rfl (fun h' L' hh hR => zF rfl) rfl ?_
 refine vT rfl rfl rfl (fun h' L' hh hR => vE underlying27 rfl (r8_1.mono hh)) rfl ?_
 refine vT rfl rfl rfl (fun h' L' hh hR => OpV.tr (by exact congrArg (fun l : List Pt => (↑l.length : Int)) tN.2) (wG (q := 4) rfl rfl)) rfl ?_
 refine w_q rfl (fun h' L' hh hR => xC rfl rfl) rfl ?_
 refine w_q rfl (fun h' L' hh hR => zF rfl) rfl ?_
 refine vT rfl rfl rfl (fun h' L' hh hR => zF rfl) rfl ?_
 refine kL (F := fun v_ => AtP (rpT (rpQ 112)) h4 v_ ((tB ((T3.mk (((1 : Int) : Int) : Rat) (((0 : Int) : Int) : Rat) (((0 : Int) : Int) : Rat)), (((1 : Int) : Int) : Rat)) sq0).getD 1 (T3.mk (0 : Rat) 0 0))) rfl rfl rfl (vN (q := 1) (T3.mk (0 : Rat) 0 0) 1 underlying27 yZ rfl rfl r8_0 rfl (by exact Nat.lt_of_lt_of_eq (by decide : 1 < 4) (congrArg List.length tN.1).symm) p9N) vW rfl ?_
 intro v21 r21
 refine kL (F := fun v_ => (rpT (rpQ 112)).Is h4 v_ ((tB ((T3.mk (((1 : Int) : Int) : Rat) (((0 : Int) : Int) : Rat) (((0 : Int) : Int) : Rat)), (((1 : Int) : Int) : Rat)) sq0).getD 1 (T3.mk (0 : Rat) 0 0))) rfl rfl rfl (wP yZ rfl r21) vW rfl ?_
 intro v22 r22
 refine w_c rfl ?_
 refine lK rfl rfl ?_
 refine zY (vs := [vI (1), vI (0), vI (0)]) call44 e3z (fun w hs => gB hs (by decide) (by decide) (by decide) (by decide) (by decide) (by decide)) rfl ?_
 intro v23 h5 hh5 r23
 change (rpT (rpQ 2)).Is h5 v23 (T3.mk (((1 : Int) : Int) : Rat) (((0 : Int) : Int) : Rat) (((0 : Int) : Int) : Rat)) at r23
 refine w_c rfl ?_
 refine lK rfl rfl ?_
 replace r22 := r22.mono hh5
 refine zY (vs := [_, _]) call29 e2z (fun w hs => mE hs r22 r23 (by decide)) rfl ?_
 intro v24 h6 hh6 r24
 obtain rfl : v24 = .bool true := by rw [show v24 = vB (((tB ((T3.mk (((1 : Int) : Int) : Rat) (((0 : Int) : Int) : Rat) (((0 : Int) : Int) : Rat)), (((1 : Int) : Int) : Rat)) sq0).getD 1 (T3.mk (0 : Rat) 0 0)) = (T3.mk (((1 : Int) : Int) : Rat) (((0 : Int) : Int) : Rat) (((0 : Int) : Int) : Rat))) from r24, xJ (by exact (congrArg (fun l : List Pt => l.getD 1 zT) tN.1).trans sane_pt)]
 refine w_q rfl (fun h' L' hh hR => xC rfl rfl) rfl ?_
 refine w_q rfl (fun h' L' hh hR => zF rfl) rfl ?_
 refine vT rfl rfl rfl (fun h' L' hh hR => zF rfl) rfl ?_
 replace r8_1 := r8_1.mono (hh5.trans hh6)
 refine kL (F := fun v_ => AtP (rpT (rpQ 112)) h6 v_ ((tA ((T3.mk (((1 : Int) : Int) : Rat) (((0 : Int) : Int) : Rat) (((0 : Int) : Int) : Rat)), (((1 : Int) : Int) : Rat)) sq0).getD 0 (T3.mk (0 : Rat) 0 0))) rfl rfl rfl (vN (q := 0) (T3.mk (0 : Rat) 0 0) 0 underlying27 yZ rfl rfl r8_1 rfl (by exact Nat.lt_of_lt_of_eq (by decide : 0 < 4) (congrArg List.length tN.2).symm) p9N) vW rfl ?_
 intro v28 r28
 refine kL (F := fun v_ => (rpT (rpQ 112)).Is h6 v_ ((tA ((T3.mk (((1 : Int) : Int) : Rat) (((0 : Int) : Int) : Rat) (((0 : Int) : Int) : Rat)), (((1 : Int) : Int) : Rat)) sq0).getD 0 (T3.mk (0 : Rat) 0 0))) rfl rfl rfl (wP yZ rfl r28) vW rfl ?_
 intro v29 r29
 refine w_c rfl ?_
 refine lK rfl rfl ?_
 refine zY (vs := [vI (1), vI (0), vI (0)]) call44 e3z (fun w hs => gB hs (by decide) (by decide) (by decide) (by decide) (by decide) (by decide)) rfl ?_
 intro v30 h7 hh7 r30
 change (rpT (rpQ 2)).Is h7 v30 (T3.mk (((1 : Int) : Int) : Rat) (((0 : Int) : Int) : Rat) (((0 : Int) : Int) : Rat)) at r30
 refine w_c rfl ?_
 refine lK rfl rfl ?_
 replace r29 := r29.mono hh7
 refine zY (vs := [_, _]) call29 e2z (fun w hs => mE hs r29 r30 (by decide)) rfl ?_
 intro v31 h8 hh8 r31
 obtain rfl : v31 = .bool true := by rw [show v31 = vB (((tA ((T3.mk (((1 : Int) : Int) : Rat) (((0 : Int) : Int) : Rat) (((0 : Int) : Int) : Rat)), (((1 : Int) : Int) : Rat)) sq0).getD 0 (T3.mk (0 : Rat) 0 0)) = (T3.mk (((1 : Int) : Int) : Rat) (((0 : Int) : Int) : Rat) (((0 : Int) : Int) : Rat))) from r31, xJ (by exact (congrArg (fun l : List Pt => l.getD 0 zT) tN.2).trans sane_pt)]
 refine w_q rfl (fun h' L' hh hR => xC rfl rfl) rfl ?_
 refine w_q rfl (fun h' L' hh hR => zZ rfl) rfl ?_
 refine xA ?_
 refine zJ (e' := [(0, _)]) ⟨rfl, trivial⟩ ?_
 refine zB ?_
 refine zQ ?_
 refine yH rfl rfl ?_
 rfl
theorem w5 {w0 w : World} {h0 h : Mem} {b k : Nat} {vl : Value} {xs : List Int} (hl : Is h vl xs) (hk : k ≤ xs.length) {L : List Res} (hs : St w0 h0 (.var b 65 [vl, vI ↑k] :: L) h w) :
    Calls Tryz.prog 12 #[vP b 0] w (aW w0 h0 h L (fun g r q' => ∃ k' : Nat, ∃ u0 u1 : Value, ∃ m : List (T3 Rat), ∃ s : (T3 Rat) × Rat, q' = .var b 65 [vl, vI ↑k'] ∧ k' ≤ xs.length ∧ (kV s m ∧ m.length ≤ 32) ∧ r = .tuple #[u0, u1] ∧ (rpS (rpT (rpQ 140000))).Is g u0 m ∧ (rpP (rpT (rpQ 2)) (rpQ 2)).Is g u1 s)) := by
 have hlen := hl.lt63
 refine kS (n := 46) (e := [(0, vP b 0)]) (vs := [vP b 0]) func12 rfl rfl (bL rfl) hs ⟨rfl, trivial⟩ ?_
 refine zC ?_
 refine zA ?_  -- region 0 (line 25)
 refine asg rfl rfl ?_
 refine zK (yY (ρ := (rpP (rpT (rpQ 2)) (rpQ 2))) (X := ((T3.mk (0 : Rat) 0 0), (0 : Rat))) sW rfl rfl (oM (wH (wA (by decide))) (wA (by decide)))) rfl rfl rfl ?_
 intro v3 q3 hq3
 obtain ⟨b3, cs3, rfl, rfl, rb3⟩ := hq3
 refine zD ?_
 refine zB ?_
 refine zC ?_
 refine zA ?_  -- region 1 (line 26)
 refine mv rfl rfl ?_
 refine wC (A := [_]) (vs := [_]) call13 ⟨rfl, trivial⟩ (fun X w hs => pQ hl (by first | omega | exact Nat.zero_le _) hs) rfl ?_
 intro v11 g11 q11 hg11 hr11
 obtain ⟨k11, p11, rfl, hk11, hr11⟩ := hr11
 refine zK (yY (ρ := (rpP (rpT (rpQ 2)) (rpQ 2))) (X := ((T3.mk (0 : Rat) 0 0), (0 : Rat))) sW rfl rfl (oM (wH (wA (by decide))) (wA (by decide)))) rfl rfl rfl ?_
 intro v4 q4 hq4
 obtain ⟨b4, cs4, rfl, rfl, rb4⟩ := hq4
 refine wB (A := []) (F := fun c_ => (rpP (rpT (rpQ 2)) (rpQ 2)).R g11 c_ p11) (yG sizeOf34 (Pc.here _) rfl rfl rfl rb4 hr11 rfl) ?_
 intro cs_2 rb_3
 refine zD ?_
 refine zB ?_
 refine zC ?_
 refine nP (A := [_, _]) 12 [] [(0, .q), (1, .q), (3, .q), (2, .c), (4, .c), (5, .c), (6, .c), (7, .q), (8, .q), (9, .q), (10, .q), (11, .q)] xI nX (gK [0, 0, 2, 0, 12, 20, 49, 64, 128, 128, 511, 2047] [4095, 4095, 4093, 4095, 4087, 4075, 4062, 4031, 3967, 3967, 3839, 3583] (by kernel_rfl)) nX ?_
 refine yP (F := fun v_ => (rpP (rpT (rpQ 2)) (rpQ 2)).Is g11 v_ p11) rfl (zE jM (Pc.here _) rfl rfl rb_3 rfl) (yF (.head _)) rfl ?_
 intro v13 r13
 refine w_q rfl (fun h' L' hh hR => zF rfl) rfl ?_
 refine w_q rfl (fun h' L' hh hR => zF rfl) rfl ?_
 refine w_c rfl ?_
 replace hl := hl.mono hg11
 refine pI (A := [_, _]) (vs := [_]) call33 ⟨rfl, trivial⟩ (fun X w hs => mW hl (by first | omega | exact Nat.zero_le _) hs) rfl (xE (by first | (simp; done) | grind)) ?_
 intro v15 g15 q15 hg15 hr15
 obtain ⟨k15, p15, rfl, hk15, hr15⟩ := hr15
 refine w_c rfl ?_
 replace hl := hl.mono hg15
 refine pI (A := [_, _]) (vs := [_]) call33 ⟨rfl, trivial⟩ (fun X w hs => mW hl (by first | omega | exact Nat.zero_le _) hs) rfl (xE (by first | (simp; done) | grind)) ?_
 intro v17 g17 q17 hg17 hr17
 obtain ⟨k17, p17, rfl, hk17, hr17⟩ := hr17
 refine w_c rfl ?_
 replace hr15 := hr15.mono hg17
 refine qD (fun X => xD (ρ := (rpT (rpQ 2))) (m := 2) (xs := [p15, p17]) (ps' := [(0, _), (1, _)]) underlying27 yD rfl rfl rfl (wH (wA (by decide))) e4z (yX rfl (Pc.arr (Pc.here _) (T3.mk (0 : Rat) 0 0) 0 (by decide)) hr15 (yX rfl (Pc.arr (Pc.here _) (T3.mk (0 : Rat) 0 0) 1 (by decide)) hr17 wD)) (show 2 * 9 ≤ 16777216 from by decide) p9N) rfl ?_
 intro v18 q18 hq18
 obtain ⟨cs18, rfl, rl18⟩ := hq18
 refine w_c rfl ?_
 refine xR (A := []) (ρ := (rpT (rpQ 2))) rl18 (xS (by first | (simp; done) | grind)) ?_
 intro h1 hh1 rs_4
 replace r13 := r13.mono ((hg15.trans hg17).trans hh1)
 refine zY (vs := [_, _]) call37 e2z (fun w hs => s6 hs r13 rs_4 (by decide) (by decide) (by decide)) rfl ?_
 intro v19 h2 hh2 r19
 obtain ⟨v19_0, rfl, r19_0⟩ := r19
 change (rpS (rpT (rpQ (3 * 2 + 2 + 4 * 2 + 45)))).Is h2 v19_0 (aroZ p11 [p15, p17]) at r19_0
 replace r19_0 := Rp.Is.le r19_0 (Le.s (Le.t (Le.q (l := 61) (by omega))))
 refine w_q rfl (fun h' L' hh hR => zF rfl) rfl ?_
 refine w_q rfl (fun h' L' hh hR => zN (vs := [_, _]) rfl rfl) rfl ?_
 refine w_q rfl (fun h' L' hh hR => zN (vs := [_, _]) rfl rfl) rfl ?_
 refine w_q rfl (fun h' L' hh hR => zZ rfl) rfl ?_
 refine w_q rfl (fun h' L' hh hR => zZ rfl) rfl ?_
 refine xA ?_
 refine zJ (e' := [(0, _), (3, _), (4, _), (5, _), (6, _)]) e5 ?_
 refine zB ?_
 refine zC ?_
 refine zC ?_
 refine zA ?_  -- region 3 (line 28)
 refine mv rfl rfl ?_
 refine gv (kZ rfl) rfl ?_
 refine zD ?_
 refine zB ?_
 refine zO rfl (fun hc23 => ?_) (fun hc23 => ?_)
 ·
  refine zC ?_
  refine zA ?_  -- region 4 (line 29)
  refine zM (vs := []) rfl rfl rfl rfl call43 trivial (fun w hs => lZ hs ) ?_
  intro v24 h3 hh3 r24
  change (rpS (rpT (rpQ 2))).Is h3 v24 sq0 at r24
  refine zM (vs := [vI (0), vI (0), vI (1)]) rfl rfl rfl rfl call44 e3z (fun w hs => gB hs (by decide) (by decide) (by decide) (by decide) (by decide) (by decide)) ?_
  intro v25 h4 hh4 r25
  change (rpT (rpQ 2)).Is h4 v25 (T3.mk (((0 : Int) : Int) : Rat) (((0 : Int) : Int) : Rat) (((1 : Int) : Int) : Rat)) at r25
  refine wF (F := fun v_ => (rpP (rpT (rpQ 2)) (rpQ 1)).Is h4 v_ ((T3.mk (((0 : Int) : Int) : Rat) (((0 : Int) : Int) : Rat) (((1 : Int) : Int) : Rat)), (0 : Rat))) (cV (ps' := [(0, _)]) underlying34 sW rfl rfl (cU underlying34) e2z rfl (oM (wH (wA (by decide))) (wA (by decide))) (yX rfl (Pc.fst (Pc.here _)) r25 wD)) vW rfl ?_
  intro v26 r26
  refine asg rfl rfl ?_
  replace rb3 := rb3.mono ((((((hg11.trans hg15).trans hg17).trans hh1).trans hh2).trans hh3).trans hh4)
  refine wB (A := [_]) (F := fun c_ => (rpP (rpT (rpQ 2)) (rpQ 2)).R h4 c_ ((T3.mk (((0 : Int) : Int) : Rat) (((0 : Int) : Int) : Rat) (((1 : Int) : Int) : Rat)), (0 : Rat))) (yG sizeOf34 (Pc.here _) rfl rfl rfl rb3 (r26.le (Le.p (Le.refl _) (Le.q (l := 2) (by decide)))) rfl) ?_
  intro cs_5 rb_6
  refine zD ?_
  refine zB ?_
  refine zQ ?_
  refine zX ?_
  refine uG (gJ (t := 3) jM (.tail _ (.head _)) rfl rb_6) ?_
  intro w_7 hvw_7 rr_8
  refine jH (fun E S => gE rfl (sC rfl) hvw_7 E S) ?_
  replace r24 := r24.mono hh4
  exact ⟨_, (.cons _ (.cons _ (List.Sublist.refl _))), ((((((hg11.trans hg15).trans hg17).trans hh1).trans hh2).trans hh3).trans hh4), _, _, _, _, _, rfl, by omega, (by first | exact ⟨j8, by decide⟩ | exact ⟨hcv, by omega⟩), rfl, (Rp.Is.le r24 (Le.s (Le.t (Le.q (l := 140000) (by decide))))), rr_8⟩
 ·
  have hnz : ¬ p11.1 = zT := fun e => (Classical.not_not.1 hc23) (.inr e)
  refine zL ?_
  refine zB ?_
  refine zC ?_
  refine zC ?_
  refine zA ?_  -- region 5 (line 31)
  refine mv rfl rfl ?_
  replace hl := hl.mono ((hg17.trans hh1).trans hh2)
  refine wC (A := [_, _]) (vs := [_, vI (4)]) call22 e2z (fun X w hs => uL hl (by first | omega | exact Nat.zero_le _) (by omega) (by omega) hs) rfl ?_
  intro v28 g28 q28 hg28 hr28
  obtain ⟨k28, z28, rfl, hk28, rfl, hz28, hy28⟩ := hr28
  refine asg rfl rfl ?_
  refine zD ?_
  refine zB ?_
  refine zS ?_
  refine wT (ι := Nat × Nat × List (T3 Rat) × Value × Nat × Mem) (fun (n, kk, lv, u5_9, kd_11, ma) => MLe g28 ma ∧ ((rpS (rpT (rpQ kk))).Is ma u5_9 lv ∧ kd_11 ≤ xs.length ∧ ((n = 3 ∧ kk ≤ 61 ∧ lv.length ≤ 4) ∨ (n ≤ 2 ∧ kk ≤ 900 ∧ lv.length ≤ 8) ∨ (n ≤ 1 ∧ kk ≤ 11000 ∧ lv.length ≤ 16) ∨ (n = 0 ∧ kk ≤ 140000 ∧ lv.length ≤ 32)) ∧ kV p11 lv)) (fun (n, kk, lv, u5_9, kd_11, ma) => [(0, vP b 0), (3, vP b3 0), (4, vP b4 0), (5, u5_9), (7, vI ↑n)]) (fun (n, kk, lv, u5_9, kd_11, ma) => (.var b4 34 cs_2 :: .var b3 34 cs3 :: .var b 65 [vl, vI ↑kd_11] :: L)) (fun (n, kk, lv, u5_9, kd_11, ma) => ma) (fun (n, kk, lv, u5_9, kd_11, ma) => n) (z28.toNat, 61, (aroZ p11 [p15, p17]), v19_0, k28, g28) ?_ ⟨?_, ?_, ?_, ?_, ?_, trivial⟩ rfl rfl ?_
  ·
   refine ⟨MLe.refl _, ?_⟩
   replace r19_0 := r19_0.mono hg28
   refine ⟨r19_0, (by omega), ?_⟩
   exact ⟨by have := (aro_conv (s := p11) (ps := [p15, p17]) (by simp) hnz).2; omega, (aro_conv (by simp) hnz).1⟩
  · exact rfl
  · exact rfl
  · exact rfl
  · exact rfl
  · exact congrArg (fun z => some (vI z)) (by omega)
  ·
   intro x hx
   obtain ⟨n, kk, lv, u5_9, kd_11, ma⟩ := x
   obtain ⟨hmma, hinv⟩ := hx
   show GC _ _ _ _ _ _ [(0, vP b 0), (3, vP b3 0), (4, vP b4 0), (5, u5_9), (7, vI ↑n)] (.var b4 34 cs_2 :: .var b3 34 cs3 :: .var b 65 [vl, vI ↑kd_11] :: L) ma
   obtain ⟨ru_10, hkd_12, hinv⟩ := hinv
   obtain ⟨hnk, hcv⟩ := hinv
   refine zC ?_
   refine zC ?_
   refine zA ?_  -- region 6 (line 31)
   refine mv rfl rfl ?_
   refine gv (vY (q := 0) rfl rfl) rfl ?_
   refine zD ?_
   refine zB ?_
   refine zO rfl (fun hc30 => ?_) (fun hc30 => ?_)
   ·
    refine zL ?_
    refine zB ?_
    refine zC ?_
    refine zS ?_
    refine zC ?_
    refine zA ?_  -- region 8 (line 32)
    refine mv rfl rfl ?_
    refine mv rfl rfl ?_
    replace hl := hl.mono (hg28.trans hmma)
    refine wC (A := [_, _]) (vs := [_]) call13 ⟨rfl, trivial⟩ (fun X w hs => pQ hl (by first | omega | exact Nat.zero_le _) hs) rfl ?_
    intro v36 g36 q36 hg36 hr36
    obtain ⟨k36, p36, rfl, hk36, hr36⟩ := hr36
    replace ru_10 := ru_10.mono hg36
    refine zM (vs := [_, _]) rfl rfl rfl rfl call15 e2z (fun w hs => o_r6_cut hs ru_10 hr36 (by omega) (by decide) (by decide) (by omega)) ?_
    intro v37 h3 hh3 r37
    obtain ⟨v37_0, v37_1, rfl, r37_0, r37_1⟩ := r37
    change (rpS (rpT (rpQ (12 * kk + 3 * 2 + 9 * 2 + 62)))).Is h3 v37_0 (tB p36 lv) at r37_0
    replace r37_0 := Rp.Is.le r37_0 (Le.s (Le.t (Le.q (l := 12 * kk + 86) (by omega))))
    change (rpS (rpT (rpQ (12 * kk + 3 * 2 + 9 * 2 + 62)))).Is h3 v37_1 (tA p36 lv) at r37_1
    replace r37_1 := Rp.Is.le r37_1 (Le.s (Le.t (Le.q (l := 12 * kk + 86) (by omega))))
    refine mv rfl rfl ?_
    refine gv (zN (vs := [_, _]) rfl rfl) rfl ?_
    refine gv (zN (vs := [_, _]) rfl rfl) rfl ?_
    refine asg rfl rfl ?_
    refine asg rfl rfl ?_
    refine zD ?_
    refine zJ (e' := [(0, _), (3, _), (4, _), (5, _), (7, _), (8, _)]) e6 ?_
    refine zB ?_
    refine zC ?_
    refine zA ?_  -- region 9 (line 32)
    refine mv rfl rfl ?_
    refine gv (vE underlying27 rfl r37_0) rfl ?_
    refine gv (vY (q := 0) rfl rfl) rfl ?_
    refine zD ?_
    refine zB ?_
    refine zO rfl (fun hc42 => ?_) (fun hc42 => ?_)
    ·
     refine zA ?_  -- region 10 (line 33)
     refine mv rfl rfl ?_
     refine asg rfl rfl ?_
     refine zD ?_
     refine xB ?_
     refine zB ?_
     refine zA ?_  -- region 7 (line 31)
     refine mv rfl rfl ?_
     refine gv (xU (q := 1) rfl rfl (by omega) (by omega)) rfl ?_
     refine asg rfl rfl ?_
     refine zD ?_
     refine yR ((n - 1), (12 * kk + 86), (tB p36 lv), v37_0, k36, h3) ?_ ?_ ⟨rfl, rfl, rfl, rfl, ?_, trivial⟩ rfl rfl
     ·
      refine ⟨((hmma.trans hg36).trans hh3), ?_⟩
      refine ⟨(Rp.Is.le r37_0 (Le.s (Le.t (Le.q (by omega))))), (by omega), ?_⟩
      exact ⟨by have := gG p36 lv; omega, (iN p36 hcv).resolve_right (fun e => by rw [e] at hc42; exact absurd hc42 (by decide))⟩
     ·
      dsimp only
      omega
     · exact congrArg (fun z => some (vI z)) (by omega)
    ·
     refine zL ?_
     refine xB ?_
     refine zB ?_
     refine zA ?_  -- region 7 (line 31)
     refine mv rfl rfl ?_
     refine gv (xU (q := 1) rfl rfl (by omega) (by omega)) rfl ?_
     refine asg rfl rfl ?_
     refine zD ?_
     refine yR ((n - 1), kk, lv, u5_9, k36, h3) ?_ ?_ ⟨rfl, rfl, rfl, rfl, ?_, trivial⟩ rfl rfl
     ·
      refine ⟨((hmma.trans hg36).trans hh3), ?_⟩
      replace ru_10 := ru_10.mono hh3
      refine ⟨(Rp.Is.le ru_10 (Le.s (Le.t (Le.q (by omega))))), (by omega), ?_⟩
      exact ⟨by omega, hcv⟩
     ·
      dsimp only
      omega
     · exact congrArg (fun z => some (vI z)) (by omega)
   ·
    refine xM ?_
    refine yE ?_
    refine yE ?_
    refine xL ?_
    refine zB ?_
    refine zC ?_
    refine yI 3 _ [] [(0, .q), (1, .q), (2, .q), (3, .t)] xI nX (by kernel_rfl) nX (fun r hr => hr) ?_  -- region 11 (line 36)
    refine w_q rfl (fun h' L' hh hR => zF rfl) rfl ?_
    replace rb_3 := rb_3.mono (((((hg15.trans hg17).trans hh1).trans hh2).trans hg28).trans hmma)
    refine yP (F := fun v_ => (rpP (rpT (rpQ 2)) (rpQ 2)).Is ma v_ p11) rfl (zE jM (Pc.here _) rfl rfl rb_3 rfl) (yF (.head _)) rfl ?_
    intro v45 r45
    refine w_q rfl (fun h' L' hh hR => zZ rfl) rfl ?_
    replace rb3 := rb3.mono ((((((hg11.trans hg15).trans hg17).trans hh1).trans hh2).trans hg28).trans hmma)
    refine xY (A := [_]) (F := fun c_ => (rpP (rpT (rpQ 2)) (rpQ 2)).R ma c_ p11) rfl (yG sizeOf34 (Pc.here _) rfl rfl rfl rb3 r45 rfl) ?_
    intro cs_13 rb_14
    refine xA ?_
    refine zB ?_
    refine zQ ?_
    refine uG (gJ (t := 3) jM (.tail _ (.head _)) rfl rb_14) ?_
    intro w_15 hvw_15 rr_16
    refine jH (fun E S => gE rfl (sC rfl) hvw_15 E S) ?_
    exact ⟨_, (.cons _ (.cons _ (List.Sublist.refl _))), ((((((hg11.trans hg15).trans hg17).trans hh1).trans hh2).trans hg28).trans hmma), _, _, _, _, _, rfl, by omega, (by first | exact ⟨j8, by decide⟩ | exact ⟨hcv, by omega⟩), rfl, (Rp.Is.le ru_10 (Le.s (Le.t (Le.q (l := 140000) (by omega))))), rr_16⟩
end Go.Proofs.YtghhjjmjpeehdaaGreat
namespace Bk
set_option linter.unusedVariables false
set_option linter.unusedSimpArgs false
open Classical
noncomputable abbrev lp2 (pl : Pl) (l : List Pt) : Nat → P2 := fun m => pt2 pl (gp l m)
def upr (pl : Pl) (a b : Pt) : Pl := (uW (tM b a) pl.1, uT (uW (tM b a) pl.1) a)
def inP (pl : Pl) (l : List Pt) (p : Pt) : Prop := (∀ m, m < l.length → ¬ 0 < sdZ (upr pl (gp l m) (nx l m)) p) ∧ 0 < l.length
theorem upr_or {pl : Pl} {a b p : Pt} (hn : ¬ pl.1 = zT) (ha : sdZ pl a = 0) (hb : sdZ pl b = 0) (hp : sdZ pl p = 0) : ¬ 0 < sdZ (upr pl a b) p ↔ 0 ≤ cr (pt2 pl a) (pt2 pl b) (pt2 pl p) := by
  have h : sdZ (upr pl a b) p = -orZ (pt2 pl a) (pt2 pl b) (pt2 pl p) := up_or hn ha hb hp
  have h2 : orZ (pt2 pl a) (pt2 pl b) (pt2 pl p) < 0 ↔ cr (pt2 pl a) (pt2 pl b) (pt2 pl p) < 0 := qW
  rw [h, ← Rat.not_lt, ← h2]
  omega
theorem j1 {pl : Pl} {l : List Pt} (h : kV pl l) {m : Nat} (hm : m < l.length) : sdZ pl (nx l m) = 0 := h.2.1 _ (Nat.mod_lt _ (by omega))
theorem iK {pl : Pl} {l : List Pt} {p : Pt} (h : kV pl l) (hp : sdZ pl p = 0) : inP pl l p ↔ inC (lp2 pl l) l.length (pt2 pl p) := by
  constructor
  · rintro ⟨h1, _⟩ m hm
    exact (upr_or h.1.2 (h.2.1 m hm) (j1 h hm) hp).1 (h1 m hm)
  · intro h1
    exact ⟨fun m hm => (upr_or h.1.2 (h.2.1 m hm) (j1 h hm) hp).2 (h1 m hm), by have := h.1.1; omega⟩
noncomputable def afC (pl c : Pl) : Rat × Rat × Rat :=
  (c.1.at (axK pl.1) / pl.1.at (axK pl.1) * pl.2 - c.2, c.1.at (axI pl.1) - c.1.at (axK pl.1) / pl.1.at (axK pl.1) * pl.1.at (axI pl.1), c.1.at (axJ pl.1) - c.1.at (axK pl.1) / pl.1.at (axK pl.1) * pl.1.at (axJ pl.1))
theorem aV {pl c : Pl} {p : Pt} (hn : ¬ pl.1 = zT) (hp : sdZ pl p = 0) : afZ (afC pl c) (pt2 pl p) = hgt c p := by
  have hk : ¬ pl.1.at (axK pl.1) = 0 := fun e => hn ((aB _).1 e)
  have h0 : hgt pl p = 0 := gX.1 hp
  have hu : c.1.at (axK pl.1) / pl.1.at (axK pl.1) * pl.1.at (axK pl.1) = c.1.at (axK pl.1) := Rat.div_mul_cancel hk
  unfold afC afZ pt2 pr
  simp only
  generalize c.1.at (axK pl.1) / pl.1.at (axK pl.1) = u at *
  unfold hgt uT at *
  obtain ⟨⟨x, y, z⟩, d⟩ := pl
  obtain ⟨⟨cx, cy, cz⟩, e⟩ := c
  obtain ⟨p1, p2, p3⟩ := p
  rcases oK ⟨x, y, z⟩ with ⟨e1, e2, e3⟩ | ⟨e1, e2, e3⟩ | ⟨e1, e2, e3⟩ | ⟨e1, e2, e3⟩ | ⟨e1, e2, e3⟩ | ⟨e1, e2, e3⟩ <;> simp only [e1, e2, e3, T3.at] at * <;> grind
theorem cfg_cut {pl : Pl} {l : List Pt} (c : Pl) (h : kV pl l) : Cfg (lp2 pl l) l.length (tC c l) (sgB c l) (afC pl c) where
  h3 := h.1.1
  tri := nV h
  per := tC_per c l
  cross := fun m hm hc => by
    have hx := chgB.1 hc
    rw [tC_lt hm]
    refine ⟨(cut_t hx).1, ?_⟩
    have h1 := h.2.1 m hm
    have h2 := j1 h hm
    have h3 : sdZ pl (btw c (gp l m) (nx l m)) = 0 := by
      unfold btw
      rw [gX, iL, gX.1 h1, gX.1 h2]
      grind
    have h4 := aV (c := c) h.1.2 h3
    rw [(cut_t hx).2] at h4
    unfold btw at h4
    rw [t5] at h4
    exact h4
  neg := fun m hm => by rw [aV h.1.2 (h.2.1 m hm)]; exact oX
  zero := fun m hm => by rw [aV h.1.2 (h.2.1 m hm)]; exact gX
theorem inC_congr {P X : Nat → P2} {n : Nat} {p : P2} (h : ∀ q, q < n → P q = X q) : inC P n p ↔ inC X n p := by
  have key : ∀ {P X : Nat → P2}, (∀ q, q < n → P q = X q) → inC P n p → inC X n p := fun {P X} h hp m hm => by
    have := hp m hm
    rw [h m hm, h _ (Nat.mod_lt _ (by omega))] at this
    exact this
  exact ⟨key h, key fun q hq => (h q hq).symm⟩
theorem part_pt {pl c : Pl} {l : List Pt} {s : Nat → Int} {q : Nat} (hq : q < (mks s l.length l.length).length) : lp2 pl ((mks s l.length l.length).map (mk3 c l)) q = mkP (lp2 pl l) l.length (tC c l) ((mks s l.length l.length).getD q (0, false)) := by
  show pt2 pl (gp _ q) = _
  rw [nL hq, oH (jX.1 (mk_in hq)).1]
theorem t8 {pl c : Pl} {l : List Pt} {s : Nat → Int} {p : P2} : inC (lp2 pl ((mks s l.length l.length).map (mk3 c l))) ((mks s l.length l.length).map (mk3 c l)).length p ↔ inC (fun q => mkP (lp2 pl l) l.length (tC c l) ((mks s l.length l.length).getD q (0, false))) (mks s l.length l.length).length p := by
  rw [List.length_map]
  exact inC_congr fun q hq => part_pt hq
theorem z9 {pl c : Pl} {l : List Pt} {p : Pt} (h : kV pl l) (hp : sdZ pl p = 0) (hi : inP pl l p) (hs : ∀ m, m < l.length → 0 ≤ hgt c (gp l m)) : 0 ≤ hgt c p := by
  rw [← aV h.1.2 hp]
  exact mY h.1.1 (nV h) ((iK h hp).1 hi) fun m hm => by
    show 0 ≤ afZ (afC pl c) (pt2 pl (gp l m))
    rw [aV h.1.2 (h.2.1 m hm)]; exact hs m hm
def ngP (c : Pl) : Pl := (T3.mk (-c.1.x) (-c.1.y) (-c.1.z), -c.2)
theorem hgt_ng (c : Pl) (p : Pt) : hgt (ngP c) p = -hgt c p := by unfold hgt ngP uT; grind
theorem conv_side' {pl c : Pl} {l : List Pt} {p : Pt} (h : kV pl l) (hp : sdZ pl p = 0) (hi : inP pl l p) (hs : ∀ m, m < l.length → hgt c (gp l m) ≤ 0) : hgt c p ≤ 0 := by
  have := z9 (c := ngP c) h hp hi fun m hm => by rw [hgt_ng]; have := hs m hm; grind
  rw [hgt_ng] at this
  grind
theorem cutB_in {pl c : Pl} {l : List Pt} {p : Pt} (h : kV pl l) (hp : sdZ pl p = 0) (hs : hgt c p < 0) : inP pl (tB c l) p ↔ inP pl l p := by
  by_cases ha : qG c l l.length
  · by_cases hb : qN c l l.length
    · obtain ⟨i, hi, h1⟩ := (rJ _).1 hb
      obtain ⟨j, hj, h2⟩ := (rK _).1 ha
      have hv := pM h (fun m => chgB) hi hj h1 h2
      rw [(fT ha hb).1, bk_mks, iK hv hp, iK h hp, t8]
      have C := cfg_cut c h
      have hw : afZ (afC pl c) (pt2 pl p) < 0 := by rw [aV h.1.2 hp]; exact hs
      exact ⟨t7 C (w6 hi hj h1 h2), fun h3 => part_in C h3 hw hi h1⟩
    · rw [(rY ha hb).1]
      refine ⟨fun e => absurd e.2 (by decide), fun e => ?_⟩
      have := z9 (c := c) h hp e fun m hm => sd_ge.1 (Int.not_lt.1 fun e => hb ((rJ _).2 ⟨m, hm, e⟩))
      grind
  · rw [(tZ ha).1]
theorem cutF_in {pl c : Pl} {l : List Pt} {p : Pt} (h : kV pl l) (hp : sdZ pl p = 0) (hs : 0 < hgt c p) : inP pl (tA c l) p ↔ inP pl l p := by
  by_cases ha : qG c l l.length
  · by_cases hb : qN c l l.length
    · obtain ⟨i, hi, h1⟩ := (rJ _).1 hb
      obtain ⟨j, hj, h2⟩ := (rK _).1 ha
      have h1' : sgF c l i > 0 := by unfold sgF; omega
      have h2' : sgF c l j < 0 := by unfold sgF; omega
      have hv := pM h (fun m => chgF) hj hi h2' h1'
      rw [(fT ha hb).2, fr_mks, iK hv hp, iK h hp, t8]
      have C : Cfg (lp2 pl l) l.length (tC c l) (sgF c l) (ngW (afC pl c)) := (cfg_cut c h).ng
      have hw : afZ (ngW (afC pl c)) (pt2 pl p) < 0 := by rw [af_ng, aV h.1.2 hp]; grind
      exact ⟨t7 C (w6 hj hi h2' h1'), fun h3 => part_in C h3 hw hj h2'⟩
    · rw [(rY ha hb).2]
  · rw [(tZ ha).2]
    refine ⟨fun e => absurd e.2 (by decide), fun e => ?_⟩
    have := conv_side' (c := c) h hp e fun m hm => sd_le.1 (Int.not_lt.1 fun e => ha ((rK _).2 ⟨m, hm, e⟩))
    grind
end Bk
namespace Bk
set_option linter.unusedVariables false
set_option linter.unusedSimpArgs false
open Classical
def rM (l : List Pt) : Nat → Pt
  | 0 => zT
  | m + 1 => addT (rM l m) (gp l m)
noncomputable def cenZ (l : List Pt) : Pt := if l.length = 0 then zT else T3.mk (wR 1 ↑l.length * (rM l l.length).x) (wR 1 ↑l.length * (rM l l.length).y) (wR 1 ↑l.length * (rM l l.length).z)
def hsum (c : Pl) (l : List Pt) : Nat → Rat
  | 0 => 0
  | m + 1 => hsum c l m + hgt c (gp l m)
theorem dot_sum (c : Pl) (l : List Pt) : ∀ m, uT c.1 (rM l m) = hsum c l m + (m : Rat) * c.2
  | 0 => by
    show uT c.1 zT = 0 + ((0 : Nat) : Rat) * c.2
    have e : ((0 : Nat) : Rat) = 0 := rfl
    rw [e]; unfold uT; grind
  | m + 1 => by
    have ih := dot_sum c l m
    have e : ((m + 1 : Nat) : Rat) = (m : Rat) + 1 := by rw [Rat.natCast_add]; rfl
    show uT c.1 (addT (rM l m) (gp l m)) = hsum c l m + hgt c (gp l m) + _
    rw [e]
    unfold uT addT hgt at *
    unfold uT
    grind
theorem cen_hgt (c : Pl) {l : List Pt} (h : ¬ l.length = 0) : (l.length : Rat) * hgt c (cenZ l) = hsum c l l.length := by
  have hn : ¬ ((l.length : Rat)) = 0 := fun e => by
    have e0 : (0 : Rat) = ((0 : Nat) : Rat) := rfl
    rw [e0] at e
    exact h (by exact_mod_cast e)
  have hq : (l.length : Rat) * wR 1 ↑l.length = 1 := by
    unfold wR
    have e1 : ((1 : Int) : Rat) = 1 := rfl
    have e2 : (((l.length : Nat) : Int) : Rat) = (l.length : Rat) := Rat.intCast_natCast _
    rw [e1, e2, Rat.mul_comm, Rat.div_mul_cancel hn]
  have hd := dot_sum c l l.length
  unfold cenZ
  rw [if_neg h]
  generalize wR 1 ↑l.length = q at *
  generalize (l.length : Rat) = n at *
  unfold hgt uT at *
  simp only
  grind
theorem dX {c : Pl} {l : List Pt} : ∀ m, m ≤ l.length → (∀ q, q < l.length → hgt c (gp l q) = 0) → hsum c l m = 0
  | 0, _, _ => rfl
  | m + 1, hm, h => by
    show hsum c l m + hgt c (gp l m) = 0
    rw [dX m (by omega) h, h m (by omega)]; grind
theorem nat_pos {n : Nat} (h : ¬ n = 0) : (0 : Rat) < (n : Rat) := by
  have e0 : (0 : Rat) = ((0 : Nat) : Rat) := rfl
  rw [e0]
  exact_mod_cast Nat.pos_of_ne_zero h
theorem cen_on {pl : Pl} {l : List Pt} (h : kV pl l) : sdZ pl (cenZ l) = 0 := by
  have h0 : ¬ l.length = 0 := by have := h.1.1; omega
  have h1 := cen_hgt pl h0
  rw [dX _ (Nat.le_refl _) (fun q hq => gX.1 (h.2.1 q hq))] at h1
  rw [gX]
  rcases Rat.mul_eq_zero.1 h1 with h2 | h2
  · have := nat_pos h0; grind
  · exact h2
theorem on_tri {pl : Pl} {a b c : Pt} (ha : sdZ pl a = 0) (hb : sdZ pl b = 0) (hc : sdZ pl c = 0) (t u : Rat) : sdZ pl (T3.mk (a.x + t * ((b.x + u * (c.x - b.x)) - a.x)) (a.y + t * ((b.y + u * (c.y - b.y)) - a.y)) (a.z + t * ((b.z + u * (c.z - b.z)) - a.z))) = 0 := by
  rw [gX] at *
  unfold hgt uT at *
  simp only
  grind
theorem s2 {pl : Pl} {p a b : Pt} (hp : sdZ pl p = 0) (ha : sdZ pl a = 0) (hb : sdZ pl b = 0) : sdZ pl (T3.mk (p.x + (b.x - a.x)) (p.y + (b.y - a.y)) (p.z + (b.z - a.z))) = 0 := by
  rw [gX] at *
  unfold hgt uT at *
  simp only
  grind
theorem det_le {pl : Pl} {a b c : Pt} (hn : ¬ pl.1 = zT) (ha : sdZ pl a = 0) (hb : sdZ pl b = 0) (hc : sdZ pl c = 0) : uY (detT (tM b a) (tM c a) pl.1) ≤ 0 ↔ ¬ 0 < orZ (pt2 pl a) (pt2 pl b) (pt2 pl c) := by
  rw [← det_or hn ha hb hc, det_eq]
  omega
end Bk
namespace Go.Proofs.YtghhjjmjpeehdaaGreat
open Bk Go Tryz
set_option linter.unusedVariables false
set_option linter.unusedSimpArgs false
set_option maxRecDepth 10000
theorem s3 {w0 : World} {h0 : Mem} (hs : MLe h0 (mem w0)) {n : Int} (hn1 : -9223372036854775808 ≤ n) (hn2 : n < 9223372036854775808) {d : Int} (hd1 : -9223372036854775808 ≤ d) (hd2 : d < 9223372036854775808)  :
    Calls Tryz.prog 52 #[vI n, vI d] w0 (Ret w0 h0 (fun h r => ∃ u0, r = .tuple #[u0, vI (if d = 0 then 3 else 0)] ∧ (rpQ 2).Is h u0 (wR n d))) := by
  exact (dL hs   hn1 hn2 hd1 hd2).mono (jD fun h r x => by obtain ⟨u, e, y⟩ := x; exact ⟨u, e, bC y (by exact oJ hn1 hn2 hd1 hd2)⟩)
theorem mV {w0 : World} {h0 : Mem} (hs : MLe h0 (mem w0)) {n : Int} (hn1 : -9223372036854775808 ≤ n) (hn2 : n < 9223372036854775808) : Calls Tryz.prog 21 #[vI n] w0 (Ret w0 h0 (fun h r => (rpQ 2).Is h r (qI n))) :=
  (made_part hs hn1 hn2).mono (jD fun h r x => bC x.2 x.1)
theorem o_s4_det {w0 : World} {h0 : Mem}  (hs : MLe h0 (mem w0)) {k l m : Nat} {va : Value} {a : (T3 Rat)} (ra : (rpT (rpQ k)).Is h0 va a) {vb : Value} {b : (T3 Rat)} (rb : (rpT (rpQ l)).Is h0 vb b) {vc : Value} {c : (T3 Rat)} (rc : (rpT (rpQ m)).Is h0 vc c) (hcd0 : k ≤ 100000000) (hcd1 : l ≤ 100000000) (hcd2 : m ≤ 100000000)  :
    Calls Tryz.prog 51 #[va, vb, vc] w0 (Ret w0 h0 (fun h r => (rpQ (3 * k + 6 * l + 6 * m + 18)).Is h r (detT a b c))) := by
 refine zP (n := 12) (e := [(0, va), (1, vb), (2, vc)]) (vs := [va, vb, vc]) func51 rfl rfl (bL rfl) hs e3z (zC (zA (zK (yW (ρ := (rpT (rpQ k))) rfl ra) rfl rfl rfl ?_)))
 intro v3 q3 hq3
 obtain ⟨b3, cs3, rfl, rfl, rb3⟩ := hq3
 refine zK (yW (ρ := (rpT (rpQ l))) rfl rb) rfl rfl rfl ?_
 intro v4 q4 hq4
 obtain ⟨b4, cs4, rfl, rfl, rb4⟩ := hq4
 refine zK (yW (ρ := (rpT (rpQ m))) rfl rc) rfl rfl rfl ?_
 intro v5 q5 hq5
 obtain ⟨b5, cs5, rfl, rfl, rb5⟩ := hq5
 refine zK (yY (ρ := (rpQ 1)) (X := (0 : Rat)) wQ rfl rfl (wA (by decide))) rfl rfl rfl ?_
 intro v6 q6 hq6
 obtain ⟨b6, cs6, rfl, rfl, rb6⟩ := hq6
 refine zD (zB (zC ?_))
 refine yI 5 _ [] [(0, .q), (1, .q), (2, .q), (3, .c), (4, .c), (5, .t)] xI nX (by kernel_rfl) nX (fun r hr => hr) (yP (F := fun v_ => (rpT (rpQ k)).Is h0 v_ a) rfl (zE yZ (Pc.here _) rfl rfl rb3 rfl) (yF (.tail _ (.tail _ (.tail _ (.head _))))) rfl ?_)
 intro v7 r7
 refine yP (F := fun v_ => (rpT (rpQ l)).Is h0 v_ b) rfl (zE yZ (Pc.here _) rfl rfl rb4 rfl) (yF (.tail _ (.tail _ (.head _)))) rfl ?_
 intro v8 r8
 refine yP (F := fun v_ => (rpT (rpQ m)).Is h0 v_ c) rfl (zE yZ (Pc.here _) rfl rfl rb5 rfl) (yF (.tail _ (.head _))) rfl ?_
 intro v9 r9
 refine w_c rfl ?_
 refine zY (vs := [_, _]) call61 e2z (fun w hs => eU hs r8 r9 (by omega)) rfl ?_
 intro v10 h1 hh1 r10
 change (rpT (rpQ (2 * l + 2 * m + 3))).Is h1 v10 (uW b c) at r10
 refine w_c rfl ?_
 replace r7 := r7.mono hh1
 refine zY (vs := [_, _]) call57 e2z (fun w hs => cZ hs r7 r10 (by omega)) rfl ?_
 intro v11 h2 hh2 r11
 change (rpQ (3 * k + 3 * (2 * l + 2 * m + 3) + 9)).Is h2 v11 (uT a (uW b c)) at r11
 replace r11 := Rp.Is.le r11 (Le.q (l := 3 * k + 6 * l + 6 * m + 18) (by omega))
 replace rb6 := rb6.mono (hh1.trans hh2)
 have rw_1 := (Le.q (l := 3 * k + 6 * l + 6 * m + 18) (by omega)).R rb6
 refine xY (A := []) (F := fun c_ => (rpQ (3 * k + 6 * l + 6 * m + 18)).R h2 c_ (uT a (uW b c))) rfl (yG sizeOf30 (Pc.here _) rfl rfl rfl rw_1 r11 rfl) ?_
 intro cs_2 rb_3
 refine xA (zJ (e' := [(6, _)]) ⟨rfl, trivial⟩ (zB (zQ (uG (gJ (t := 6) xZ (.head _) rfl rb_3) ?_))))
 intro w_4 hvw_4 rr_5
 refine xW (fun E S => yQ rfl hvw_4 E S) ?_
 exact rr_5
theorem w3 {w0 : World} {h0 : Mem}  (hs : MLe h0 (mem w0)) {m l k : Nat} {vs : Value} {s : ((T3 Rat) × Rat)} (rs : (rpP (rpT (rpQ m)) (rpQ l)).Is h0 vs s) {va : Value} {a : (T3 Rat)} (ra : (rpT (rpQ k)).Is h0 va a) {vb : Value} {b : (T3 Rat)} (rb : (rpT (rpQ k)).Is h0 vb b) (hcd0 : k ≤ 50000000) (hcd1 : l ≤ 50000000) (hcd2 : m ≤ 50000000)  :
    Calls Tryz.prog 39 #[vs, va, vb] w0 (Ret w0 h0 (fun h r => (rpP (rpT (rpQ (4 * k + 2 * m + 5))) (rpQ (15 * k + 6 * m + 24))).Is h r (upr s a b))) := by
 refine zP (n := 19) (e := [(0, vs), (1, va), (2, vb)]) (vs := [vs, va, vb]) func39 rfl rfl (bL rfl) hs e3z (zC (zA (zK (yW (ρ := (rpP (rpT (rpQ m)) (rpQ l))) rfl rs) rfl rfl rfl ?_)))
 intro v3 q3 hq3
 obtain ⟨b3, cs3, rfl, rfl, rb3⟩ := hq3
 refine zK (yW (ρ := (rpT (rpQ k))) rfl ra) rfl rfl rfl ?_
 intro v4 q4 hq4
 obtain ⟨b4, cs4, rfl, rfl, rb4⟩ := hq4
 refine zK (yW (ρ := (rpT (rpQ k))) rfl rb) rfl rfl rfl ?_
 intro v5 q5 hq5
 obtain ⟨b5, cs5, rfl, rfl, rb5⟩ := hq5
 refine zK (yY (ρ := (rpP (rpT (rpQ 1)) (rpQ 1))) (X := ((T3.mk (0 : Rat) 0 0), (0 : Rat))) sW rfl rfl (oM (wH (wA (by decide))) (wA (by decide)))) rfl rfl rfl ?_
 intro v6 q6 hq6
 obtain ⟨b6, cs6, rfl, rfl, rb6⟩ := hq6
 refine zD (zB (zC ?_))
 refine yI 7 _ [(6, (7, 32, [.bool false, .slice none 0 0, .slice none 0 0, .bool false, .slice none 0 0, .slice none 0 0, .bool false, .slice none 0 0, .slice none 0 0]))] [(0, .q), (1, .q), (3, .q), (4, .q), (2, .c), (5, .c), (6, .a), (7, .t)] xI (jC.cons rfl (uU yD rfl rfl) jC.nil) (by kernel_rfl) (uV rfl rfl jY) (fun r hr => hr) (yP (F := fun v_ => (rpT (rpQ k)).Is h0 v_ b) rfl (zE yZ (Pc.here _) rfl rfl rb5 rfl) (yF (.tail _ (.head _))) rfl ?_)
 intro v8 r8
 refine yP (F := fun v_ => (rpT (rpQ k)).Is h0 v_ a) rfl (zE yZ (Pc.here _) rfl rfl rb4 rfl) (yF (.tail _ (.tail _ (.head _)))) rfl ?_
 intro v9 r9
 refine w_q rfl (fun h' L' hh hR => (zI underlying34 rfl sizeOf32 rfl).cv (show _ = vP b3 0 from congrArg (vP b3) (by rfl))) rfl (yP (F := fun v_ => (rpT (rpQ m)).Is h0 v_ s.1) rfl (zE yZ (Pc.fst (Pc.here _)) rfl rfl rb3 rfl) (yF (.tail _ (.tail _ (.tail _ (.head _))))) rfl ?_)
 intro v12 r12
 refine w_c rfl ?_
 refine zY (vs := [_, _]) call23 e2z (fun w hs => tW hs r8 r9 (by omega)) rfl ?_
 intro v10 h1 hh1 r10
 change (rpT (rpQ (k + k + 1))).Is h1 v10 (T3.mk (b.x - a.x) (b.y - a.y) (b.z - a.z)) at r10
 replace r10 := Rp.Is.le r10 (Le.t (Le.q (l := 2 * k + 1) (by omega)))
 refine w_c rfl ?_
 replace r12 := r12.mono hh1
 refine zY (vs := [_, _]) call61 e2z (fun w hs => eU hs r10 r12 (by omega)) rfl ?_
 intro v13 h2 hh2 r13
 change (rpT (rpQ (2 * (2 * k + 1) + 2 * m + 3))).Is h2 v13 (uW (T3.mk (b.x - a.x) (b.y - a.y) (b.z - a.z)) s.1) at r13
 replace r13 := Rp.Is.le r13 (Le.t (Le.q (l := 4 * k + 2 * m + 5) (by omega)))
 refine w_a rfl (fun b7 => ?_)
 have rb7 : (rpT (rpQ (4 * k + 2 * m + 5))).R h2 [.bool false, .slice none 0 0, .slice none 0 0, .bool false, .slice none 0 0, .slice none 0 0, .bool false, .slice none 0 0, .slice none 0 0] (T3.mk (0 : Rat) 0 0) := (wH (wA (by omega)))
 refine xY (A := []) (F := fun c_ => (rpT (rpQ (4 * k + 2 * m + 5))).R h2 c_ (uW (T3.mk (b.x - a.x) (b.y - a.y) (b.z - a.z)) s.1)) rfl (yG sizeOf32 (Pc.here _) rfl rfl rfl rb7 r13 rfl) ?_
 intro cs_6 rb_7
 refine xA (zJ (e' := [(4, _), (6, _), (7, _)]) e3z (zB (zC ?_)))
 refine yI 5 _ [] [(0, .q), (1, .q), (2, .q), (3, .c), (4, .q), (5, .t)] xI nX (by kernel_rfl) nX (fun r hr => hr) (yP (F := fun v_ => (rpT (rpQ (4 * k + 2 * m + 5))).Is h2 v_ (uW (T3.mk (b.x - a.x) (b.y - a.y) (b.z - a.z)) s.1)) rfl (zE yZ (Pc.here _) rfl rfl rb_7 rfl) (yF (.head _)) rfl ?_)
 intro v14 r14
 refine yP (F := fun v_ => (rpT (rpQ (4 * k + 2 * m + 5))).Is h2 v_ (uW (T3.mk (b.x - a.x) (b.y - a.y) (b.z - a.z)) s.1)) rfl (zE yZ (Pc.here _) rfl rfl rb_7 rfl) (yF (.head _)) rfl ?_
 intro v15 r15
 replace rb4 := rb4.mono (hh1.trans hh2)
 refine yP (F := fun v_ => (rpT (rpQ k)).Is h2 v_ a) rfl (zE yZ (Pc.here _) rfl rfl rb4 rfl) (yF (.tail _ (.tail _ (.tail _ (.head _))))) rfl ?_
 intro v16 r16
 refine w_c rfl ?_
 refine zY (vs := [_, _]) call57 e2z (fun w hs => cZ hs r15 r16 (by omega)) rfl ?_
 intro v17 h3 hh3 r17
 change (rpQ (3 * (4 * k + 2 * m + 5) + 3 * k + 9)).Is h3 v17 (uT (uW (T3.mk (b.x - a.x) (b.y - a.y) (b.z - a.z)) s.1) a) at r17
 replace r17 := Rp.Is.le r17 (Le.q (l := 15 * k + 6 * m + 24) (by omega))
 replace r14 := r14.mono hh3
 refine yP (F := fun v_ => (rpP (rpT (rpQ (4 * k + 2 * m + 5))) (rpQ (15 * k + 6 * m + 24))).Is h3 v_ (uW (T3.mk (b.x - a.x) (b.y - a.y) (b.z - a.z)) s.1, uT (uW (T3.mk (b.x - a.x) (b.y - a.y) (b.z - a.z)) s.1) a)) rfl (cV (ps' := [(0, _), (1, _)]) underlying34 sW rfl rfl (cU underlying34) e4z rfl (oM (wH (wA (by omega))) (wA (by omega))) (yX rfl (Pc.fst (Pc.here _)) r14 (yX rfl (Pc.snd (Pc.here _)) r17 wD))) vW rfl ?_
 intro v18 r18
 replace rb6 := rb6.mono ((hh1.trans hh2).trans hh3)
 have rw_8 := (Le.p (Le.t (Le.q (l := 4 * k + 2 * m + 5) (by omega))) (Le.q (l := 15 * k + 6 * m + 24) (by omega))).R rb6
 refine xY (A := [_]) (F := fun c_ => (rpP (rpT (rpQ (4 * k + 2 * m + 5))) (rpQ (15 * k + 6 * m + 24))).R h3 c_ (uW (T3.mk (b.x - a.x) (b.y - a.y) (b.z - a.z)) s.1, uT (uW (T3.mk (b.x - a.x) (b.y - a.y) (b.z - a.z)) s.1) a)) rfl (yG sizeOf34 (Pc.here _) rfl rfl rfl rw_8 r18 rfl) ?_
 intro cs_9 rb_10
 refine xA (zB (zQ (uG (gJ (t := 6) jM (.tail _ (.head _)) rfl rb_10) ?_)))
 intro w_11 hvw_11 rr_12
 refine xW (fun E S => yQ rfl hvw_11 E S) ?_
 exact rr_12
theorem s5 {w0 : World} {h0 : Mem}  (hs : MLe h0 (mem w0)) {k : Nat} {vl : Value} {l : (List (T3 Rat))} (rl : (rpS (rpT (rpQ k))).Is h0 vl l) (hcd0 : k ≤ 10000000) (hcd1 : l.length ≤ 32)  :
    Calls Tryz.prog 18 #[vl] w0 (Ret w0 h0 (fun h r => (rpT (rpQ (32 * k + 100))).Is h r (cenZ l))) := by
 refine zP (n := 33) (e := [(0, vl)]) (vs := [vl]) func18 rfl rfl (bL rfl) hs ⟨rfl, trivial⟩ (zC (zA (zK (yY (ρ := (rpT (rpQ 2))) (X := (T3.mk (0 : Rat) 0 0)) yD rfl rfl (wH (wA (by decide)))) rfl rfl rfl ?_)))
 intro v2 q2 hq2
 obtain ⟨b2, cs2, rfl, rfl, rb2⟩ := hq2
 refine zD (zB (zC (zC (zA (mv rfl rfl (gv (vE underlying27 rfl rl) rfl (gv (wG (q := 0) rfl rfl) rfl (zD (zB ?_)))))))))
 refine zO rfl (fun hc9 => ?_) (fun hc9 => ?_)
 ·
  have hz : l.length = 0 := by omega
  refine zC (zA (wF (F := fun v_ => (rpT (rpQ 1)).Is h0 v_ (T3.mk (0 : Rat) 0 0)) (wW (ps' := []) underlying32 yD rfl rfl sizeOf30 trivial rfl (wH (wA (by decide))) wD) vW rfl ?_))
  intro v10 r10
  refine wB (A := []) (F := fun c_ => (rpT (rpQ 2)).R h0 c_ (T3.mk (0 : Rat) 0 0)) (yG sizeOf32 (Pc.here _) rfl rfl rfl rb2 (r10.le (Le.t (Le.q (l := 2) (by decide)))) rfl) ?_
  intro cs_13 rb_14
  refine zD (zB (zQ (zX (uG (gJ (t := 2) yZ (.head _) rfl rb_14) ?_))))
  intro w_15 hvw_15 rr_16
  refine xW (fun E S => yQ rfl hvw_15 E S) ?_
  exact (Rp.Is.cast (Rp.Is.le rr_16 (Le.t (Le.q (l := 32 * k + 100) (by omega)))) (by exact (if_pos hz).symm))
 have hz : ¬ l.length = 0 := by omega
 refine zL (zB (zC (zA (wF (F := fun v_ => (rpT (rpQ 1)).Is h0 v_ (T3.mk (0 : Rat) 0 0)) (wW (ps' := []) underlying32 yD rfl rfl sizeOf30 trivial rfl (wH (wA (by decide))) wD) vW rfl ?_))))
 intro v11 r11
 refine zK (yY (ρ := (rpT (rpQ 1))) (X := (T3.mk (0 : Rat) 0 0)) yD rfl rfl (wH (wA (by decide)))) rfl rfl rfl ?_
 intro v3 q3 hq3
 obtain ⟨b3, cs3, rfl, rfl, rb3⟩ := hq3
 refine wB (A := []) (F := fun c_ => (rpT (rpQ 1)).R h0 c_ (T3.mk (0 : Rat) 0 0)) (yG sizeOf32 (Pc.here _) rfl rfl rfl rb3 r11 rfl) ?_
 intro cs_17 rb_18
 refine zD (zB (zC (zC (zA (asg (v := vI (0)) rfl rfl (zD (zB (zS ?_))))))))
 refine wT (ι := Nat × Nat × List Value × Mem) (fun (i, q, cs_19, ma) => MLe h0 ma ∧ ((rpT (rpQ q)).R ma cs_19 (rM l i) ∧ i ≤ l.length ∧ q ≤ (k + 1) * i + 1)) (fun (i, q, cs_19, ma) => [(0, vl), (2, vP b2 0), (3, vP b3 0), (4, vI ↑i)]) (fun (i, q, cs_19, ma) => [.var b3 32 cs_19, .var b2 32 cs2]) (fun (i, q, cs_19, ma) => ma) (fun (i, q, cs_19, ma) => l.length - i) (0, 1, cs_17, h0) ?_ e4z rfl rfl ?_
 ·
  refine ⟨MLe.refl _, ?_⟩
  refine ⟨rb_18, ?_⟩
  exact ⟨by omega, by omega⟩
 intro x hx
 obtain ⟨i, q, cs_19, ma⟩ := x
 obtain ⟨hmma, hinv⟩ := hx
 show GC _ _ _ _ _ _ [(0, vl), (2, vP b2 0), (3, vP b3 0), (4, vI ↑i)] [.var b3 32 cs_19, .var b2 32 cs2] ma
 obtain ⟨rb_20, hinv⟩ := hinv
 obtain ⟨hi1, hq1⟩ := hinv
 have hq2 := Nat.mul_le_mul_left (k + 1) (show i ≤ 32 by omega)
 refine zC (zC (zA (mv rfl rfl (mv rfl rfl ?_))))
 replace rl := rl.mono hmma
 refine gv (vE underlying27 rfl rl) rfl (gv (zW rfl rfl) rfl (zD (zB ?_)))
 refine zO rfl (fun hc15 => ?_) (fun hc15 => ?_)
 ·
  refine zL (zB (zC (zS ?_)))
  refine yI 6 _ [] [(0, .q), (1, .q), (2, .q), (3, .q), (4, .q), (5, .c), (6, .t)] xI nX (by kernel_rfl) nX (fun r hr => hr) (yP (F := fun v_ => (rpT (rpQ q)).Is ma v_ (rM l i)) rfl (zE yZ (Pc.here _) rfl rfl rb_20 rfl) (yF (.head _)) rfl ?_)
  intro v18 r18
  refine w_q rfl (fun h' L' hh hR => zF rfl) rfl (w_q rfl (fun h' L' hh hR => zF rfl) rfl (yP (F := fun v_ => AtP (rpT (rpQ k)) ma v_ (l.getD i (T3.mk (0 : Rat) 0 0))) rfl (vN (T3.mk (0 : Rat) 0 0) i underlying27 yZ rfl rfl rl rfl (by omega) p9N) vW rfl ?_))
  intro v21 r21
  refine yP (F := fun v_ => (rpT (rpQ k)).Is ma v_ (l.getD i (T3.mk (0 : Rat) 0 0))) rfl (wP yZ rfl r21) vW rfl ?_
  intro v22 r22
  refine w_c rfl ?_
  refine zY (vs := [_, _]) call19 e2z (fun w hs => rV hs r18 r22 (by omega)) rfl ?_
  intro v23 h1 hh1 r23
  change (rpT (rpQ (q + k + 1))).Is h1 v23 (T3.mk ((rM l i).x + (l.getD i (T3.mk (0 : Rat) 0 0)).x) ((rM l i).y + (l.getD i (T3.mk (0 : Rat) 0 0)).y) ((rM l i).z + (l.getD i (T3.mk (0 : Rat) 0 0)).z)) at r23
  replace r23 := Rp.Is.le r23 (Le.t (Le.q (l := k + q + 1) (by omega)))
  replace rb_20 := rb_20.mono hh1
  have rw_21 := (Le.t (Le.q (l := k + q + 1) (by omega))).R rb_20
  refine xY (A := []) (F := fun c_ => (rpT (rpQ (k + q + 1))).R h1 c_ (T3.mk ((rM l i).x + (l.getD i (T3.mk (0 : Rat) 0 0)).x) ((rM l i).y + (l.getD i (T3.mk (0 : Rat) 0 0)).y) ((rM l i).z + (l.getD i (T3.mk (0 : Rat) 0 0)).z))) rfl (yG sizeOf32 (Pc.here _) rfl rfl rfl rw_21 r23 rfl) ?_
  intro cs_22 rb_23
  refine xA (xB (zJ (e' := [(0, _), (2, _), (3, _), (4, _)]) e4z (zB (zA (mv rfl rfl (gv (zR (q := 1) rfl rfl (by omega) (by omega)) rfl (asg rfl rfl (zD ?_))))))))
  refine yR ((i + 1), (q + (k + 1)), cs_22, h1) ?_ ?_ e4z rfl rfl
  ·
   refine ⟨(hmma.trans hh1), ?_⟩
   refine ⟨(Rp.castR (Le.R (Le.t (Le.q (l := q + (k + 1)) (by omega))) rb_23) rfl), ?_⟩
   exact ⟨by omega, by rw [Nat.mul_succ]; omega⟩
  dsimp only
  omega
 have ei : i = l.length := by omega
 have hq2 := Nat.mul_le_mul_left (k + 1) (show i ≤ 32 by omega)
 refine xM (yE (yE (xL (zB (zC (zA (mv rfl rfl (gv (vE underlying27 rfl rl) rfl ?_))))))))
 refine zM (vs := [vI (1), _]) rfl rfl rfl rfl call52 e2z (fun w hs => s3 hs (by decide) (by decide) (by omega) (by omega)) ?_
 intro v27 h1 hh1 r27
 obtain ⟨v27_0, rfl, r27_0⟩ := r27
 change (rpQ 2).Is h1 v27_0 (wR (1 : Int) (↑(l).length : Int)) at r27_0
 refine mv rfl rfl (gv (zN (vs := [_, _]) rfl rfl) rfl (gv (zN (vs := [_, _]) rfl rfl) rfl (zK (yY (ρ := (rpQ 2)) (X := (0 : Rat)) wQ rfl rfl (wA (by decide))) rfl rfl rfl ?_)))
 intro v5 q5 hq5
 obtain ⟨b5, cs5, rfl, rfl, rb5⟩ := hq5
 refine wB (A := []) (F := fun c_ => (rpQ 2).R h1 c_ (wR (1 : Int) (↑(l).length : Int))) (yG sizeOf30 (Pc.here _) rfl rfl rfl rb5 r27_0 rfl) ?_
 intro cs_24 rb_25
 refine asg rfl rfl (zD (zJ (e' := [(2, _), (3, _), (5, _)]) e3z (zB (zC (zA (wF (F := fun v_ => (rpQ 2).Is h1 v_ (wR (1 : Int) (↑(l).length : Int))) (zE xZ (Pc.here _) rfl rfl rb_25 rfl) (yF (.head _)) rfl ?_))))))
 intro v30 r30
 replace rb_20 := rb_20.mono hh1
 refine wF (F := fun v_ => (rpT (rpQ q)).Is h1 v_ (rM l i)) (zE yZ (Pc.here _) rfl rfl rb_20 rfl) (yF (.tail _ (.head _))) rfl ?_
 intro v31 r31
 refine zM (vs := [_, _]) rfl rfl rfl rfl call20 e2z (fun w hs => pP hs r30 r31 (by omega)) ?_
 intro v32 h2 hh2 r32
 change (rpT (rpQ (q + 2))).Is h2 v32 (T3.mk ((wR (1 : Int) (↑(l).length : Int)) * (rM l i).x) ((wR (1 : Int) (↑(l).length : Int)) * (rM l i).y) ((wR (1 : Int) (↑(l).length : Int)) * (rM l i).z)) at r32
 replace rb2 := rb2.mono ((hmma.trans hh1).trans hh2)
 have rw_26 := (Le.t (Le.q (l := q + 2) (by omega))).R rb2
 refine wB (A := [_, _]) (F := fun c_ => (rpT (rpQ (q + 2))).R h2 c_ (T3.mk ((wR (1 : Int) (↑(l).length : Int)) * (rM l i).x) ((wR (1 : Int) (↑(l).length : Int)) * (rM l i).y) ((wR (1 : Int) (↑(l).length : Int)) * (rM l i).z))) (yG sizeOf32 (Pc.here _) rfl rfl rfl rw_26 r32 rfl) ?_
 intro cs_27 rb_28
 refine zD (zB (zQ (uG (gJ (t := 2) yZ (.tail _ (.tail _ (.head _))) rfl rb_28) ?_)))
 intro w_29 hvw_29 rr_30
 refine xW (fun E S => yQ rfl hvw_29 E S) ?_
 exact (Rp.Is.cast (Rp.Is.le rr_30 (Le.t (Le.q (l := 32 * k + 100) (by omega)))) (by rw [ei]; exact (if_neg hz).symm))
theorem rW {w0 : World} {h0 : Mem}  (hs : MLe h0 (mem w0)) {k q n m : Nat} {vl : Value} {l : (List (T3 Rat))} (rl : (rpS (rpT (rpQ k))).Is h0 vl l) {vp : Value} {p : (T3 Rat)} (rp : (rpT (rpQ q)).Is h0 vp p) {vs : Value} {s : ((T3 Rat) × Rat)} (rs : (rpP (rpT (rpQ n)) (rpQ m)).Is h0 vs s) (hcd0 : k ≤ 5000000) (hcd1 : q ≤ 20000000) (hcd2 : n ≤ 1000000) (hcd3 : m ≤ 1000000) (hcd4 : l.length ≤ 100000)  :
    Calls Tryz.prog 26 #[vl, vp, vs] w0 (Ret w0 h0 (fun _ r => r = vB (inP s l p))) := by
 refine zP (n := 34) (e := [(0, vl), (1, vp), (2, vs)]) (vs := [vl, vp, vs]) func26 rfl rfl (bL rfl) hs e3z (zC (zA (zK (yW (ρ := (rpT (rpQ q))) rfl rp) rfl rfl rfl ?_)))
 intro v4 q4 hq4
 obtain ⟨b4, cs4, rfl, rfl, rb4⟩ := hq4
 refine zK (yW (ρ := (rpP (rpT (rpQ n)) (rpQ m))) rfl rs) rfl rfl rfl ?_
 intro v5 q5 hq5
 obtain ⟨b5, cs5, rfl, rfl, rb5⟩ := hq5
 refine asg rfl rfl (zD (zB (zC (zC (zA (mv rfl rfl (gv (vE underlying27 rfl rl) rfl (mv (v := vI (0)) rfl rfl (zD (zB (zS ?_)))))))))))
 refine wT (ι := Nat × Mem) (fun (i, ma) => MLe h0 ma ∧ (i ≤ l.length ∧ ∀ u, u < i → ¬ 0 < sdZ (upr s (gp l u) (nx l u)) p)) (fun (i, ma) => [(0, vl), (4, vP b4 0), (5, vP b5 0), (9, vI (↑(l).length : Int)), (10, vI ↑i)]) (fun (i, ma) => [.var b5 34 cs5, .var b4 32 cs4]) (fun (i, ma) => ma) (fun (i, ma) => l.length - i) (0, h0) ?_ e5 rfl rfl ?_
 ·
  refine ⟨MLe.refl _, ?_⟩
  exact ⟨by omega, fun u h => by omega⟩
 intro x hx
 obtain ⟨i, ma⟩ := x
 obtain ⟨hmma, hinv⟩ := hx
 show GC _ _ _ _ _ _ [(0, vl), (4, vP b4 0), (5, vP b5 0), (9, vI (↑(l).length : Int)), (10, vI ↑i)] [.var b5 34 cs5, .var b4 32 cs4] ma
 obtain ⟨hi1, hi2⟩ := hinv
 refine zC (zA (gv (zW rfl rfl) rfl (zD (zB (zC ?_)))))
 refine zO rfl (fun hc11 => ?_) (fun hc11 => ?_)
 ·
  refine zL (zB (zC (zS (zC (zA (mv rfl rfl (asg rfl rfl (zD (zB (zC ?_))))))))))
  refine yI 17 _ [] [(0, .q), (1, .q), (2, .q), (3, .q), (4, .q), (5, .q), (6, .q), (7, .q), (8, .q), (9, .q), (10, .q), (11, .q), (12, .q), (14, .q), (13, .c), (15, .c), (16, .q)] xI nX (gK [0, 0, 0, 6, 8, 0, 0, 64, 0, 256, 640, 1056, 2048, 4113, 0, 24576, 32768] [131071, 131071, 131071, 131065, 131063, 131071, 131071, 131007, 131071, 130815, 130431, 130015, 129023, 126958, 131071, 106495, 98303] (by kernel_rfl)) nX (fun r hr => hr) ?_
  replace rb5 := rb5.mono hmma
  refine yP (F := fun v_ => (rpP (rpT (rpQ n)) (rpQ m)).Is ma v_ s) rfl (zE jM (Pc.here _) rfl rfl rb5 rfl) (yF (.head _)) rfl ?_
  intro v13 r13
  refine w_q rfl (fun h' L' hh hR => zF rfl) rfl (w_q rfl (fun h' L' hh hR => zF rfl) rfl ?_)
  replace rl := rl.mono hmma
  refine yP (F := fun v_ => AtP (rpT (rpQ k)) ma v_ (l.getD i (T3.mk (0 : Rat) 0 0))) rfl (vN (T3.mk (0 : Rat) 0 0) i underlying27 yZ rfl rfl rl rfl (by omega) p9N) vW rfl ?_
  intro v16 r16
  refine yP (F := fun v_ => (rpT (rpQ k)).Is ma v_ (l.getD i (T3.mk (0 : Rat) 0 0))) rfl (wP yZ rfl r16) vW rfl ?_
  intro v17 r17
  refine w_q rfl (fun h' L' hh hR => zF rfl) rfl (w_q rfl (fun h' L' hh hR => zF rfl) rfl (w_q rfl (fun h' L' hh hR => zR (q := 1) rfl rfl (by omega) (by omega)) rfl (w_q rfl (fun h' L' hh hR => zF rfl) rfl (w_q rfl (fun h' L' hh hR => vE underlying27 rfl (rl.mono hh)) rfl (w_q rfl (fun h' L' hh hR => uZ rfl rfl (by omega) (by omega)) rfl (yP (F := fun v_ => AtP (rpT (rpQ k)) ma v_ (l.getD ((i + 1) % l.length) (T3.mk (0 : Rat) 0 0))) rfl (vN (T3.mk (0 : Rat) 0 0) ((i + 1) % l.length) underlying27 yZ rfl rfl rl (by first | rfl | (push_cast; rfl)) (by exact Nat.mod_lt _ (by omega)) p9N) vW rfl ?_))))))
  intro v24 r24
  refine yP (F := fun v_ => (rpT (rpQ k)).Is ma v_ (l.getD ((i + 1) % l.length) (T3.mk (0 : Rat) 0 0))) rfl (wP yZ rfl r24) vW rfl ?_
  intro v25 r25
  replace rb4 := rb4.mono hmma
  refine yP (F := fun v_ => (rpT (rpQ q)).Is ma v_ p) rfl (zE yZ (Pc.here _) rfl rfl rb4 rfl) (yF (.tail _ (.head _))) rfl ?_
  intro v27 r27
  refine w_c rfl ?_
  refine zY (vs := [_, _, _]) call39 e3z (fun w hs => w3 hs r13 r17 r25 (by omega) (by omega) (by omega)) rfl ?_
  intro v26 h1 hh1 r26
  change (rpP (rpT (rpQ (4 * k + 2 * n + 5))) (rpQ (15 * k + 6 * n + 24))).Is h1 v26 (upr s (l.getD i (T3.mk (0 : Rat) 0 0)) (l.getD ((i + 1) % l.length) (T3.mk (0 : Rat) 0 0))) at r26
  refine w_c rfl ?_
  replace r27 := r27.mono hh1
  refine zY (vs := [_, _]) call25 e2z (fun w hs => rU hs r26 r27 (by omega) (by omega) (by omega)) rfl ?_
  intro v28 h2 hh2 r28
  obtain rfl : v28 = vI (sdZ (upr s (l.getD i (T3.mk (0 : Rat) 0 0)) (l.getD ((i + 1) % l.length) (T3.mk (0 : Rat) 0 0))) p) := r28
  have hsd28 := kD (upr s (l.getD i (T3.mk (0 : Rat) 0 0)) (l.getD ((i + 1) % l.length) (T3.mk (0 : Rat) 0 0))) p
  refine w_q rfl (fun h' L' hh hR => vY (q := 0) rfl rfl) rfl (xA (zJ (e' := [(0, _), (4, _), (5, _), (9, _), (10, _), (29, _)]) e6 (zB ?_)))
  refine zO rfl (fun hc29 => ?_) (fun hc29 => ?_)
  ·
   refine zC (zA (asg rfl rfl (zD (zB (zQ (wY (zX (zX (wY (zX (yH rfl rfl ?_)))))))))))
   exact (yS (fun e => e.1 i (by omega) hc29)).symm
  refine zL (xB (zB (zA (gv (zR (q := 1) rfl rfl (by omega) (by omega)) rfl (mv rfl rfl (zD ?_))))))
  refine yR ((i + 1), h2) ?_ ?_ e5 rfl rfl
  ·
   refine ⟨((hmma.trans hh1).trans hh2), ?_⟩
   exact ⟨by omega, cX (Q := fun u => ¬ 0 < sdZ (upr s (gp l u) (nx l u)) p) hi2 hc29⟩
  dsimp only
  omega
 refine xM (yE (yE (xL (zB (zC (zA (mv rfl rfl ?_)))))))
 replace rl := rl.mono hmma
 refine gv (vE underlying27 rfl rl) rfl (gv (vY (q := 0) rfl rfl) rfl (asg rfl rfl (zD (zB (zQ (yH rfl rfl ?_))))))
 exact pC ⟨fun h => ⟨fun u hu => hi2 u (by omega), by omega⟩, fun h => by have := h.2; omega⟩
end Go.Proofs.YtghhjjmjpeehdaaGreat
namespace Go.Proofs.YtghhjjmjpeehdaaGreat
open Bk Go Tryz
set_option linter.unusedVariables false
set_option linter.unusedSimpArgs false
set_option maxRecDepth 10000
theorem o_cx_valid {w0 : World} {h0 : Mem}  (hs : MLe h0 (mem w0)) {k n m : Nat} {vl : Value} {l : (List (T3 Rat))} (rl : (rpS (rpT (rpQ k))).Is h0 vl l) {vs : Value} {s : ((T3 Rat) × Rat)} (rs : (rpP (rpT (rpQ n)) (rpQ m)).Is h0 vs s) (hcd0 : k ≤ 90000000) (hcd1 : m ≤ 90000000) (hcd2 : n ≤ 90000000) (hcd3 : l.length ≤ 100000)  :
    Calls Tryz.prog 34 #[vl, vs] w0 (Ret w0 h0 (fun _ r => r = vB (kV s l))) := by
 have hax := iQ s.1
 refine zP (n := 75) (e := [(0, vl), (1, vs)]) (vs := [vl, vs]) func34 rfl rfl (bL rfl) hs e2z (zC (zA (zK (yW (ρ := (rpP (rpT (rpQ n)) (rpQ m))) rfl rs) rfl rfl rfl ?_)))
 intro v3 q3 hq3
 obtain ⟨b3, cs3, rfl, rfl, rb3⟩ := hq3
 refine asg rfl rfl (zD (zB (zC (zC (zA (mv rfl rfl (gv (vE underlying27 rfl rl) rfl (gv (zW (q := 3) rfl rfl) rfl ?_))))))))
 refine vS (ι := Mem) 5 (fun m_ => MLe h0 m_) (fun _ => [(20, vB (((↑(l).length : Int) < (3 : Int)) ∨ (s.1 = (T3.mk (0 : Rat) 0 0)))), (0, vl), (3, vP b3 0)]) (fun _ => [.var b3 34 cs3]) (fun m_ => m_) ?_ ?_
 ·
  refine wI ((↑(l).length : Int) < (3 : Int)) (fun hg => ?_) (fun hg => ?_)
  ·
   refine xH (zF (v := .bool true) (congrArg some (xJ hg))) rfl rfl rfl (yK rfl rfl rfl rfl rfl rfl (yK rfl rfl rfl rfl rfl rfl (yK rfl rfl rfl rfl rfl rfl (gv (xC rfl rfl) rfl (zD ?_)))))
   refine yM h0 (MLe.refl _) ⟨?_, rfl, rfl, trivial⟩ rfl rfl
   exact congrArg some (qU hg)
  refine xH (zF (v := .bool false) (congrArg some (yS hg))) rfl rfl rfl (yU rfl rfl rfl (gv ((zI underlying34 rfl sizeOf32 rfl).cv (show _ = vP b3 0 from congrArg (vP b3) (by rfl))) rfl (yU rfl rfl rfl (wF (F := fun v_ => (rpT (rpQ n)).Is h0 v_ s.1) (zE yZ (Pc.fst (Pc.here _)) rfl rfl rb3 rfl) (yF (.head _)) rfl ?_))))
  intro v18 r18
  refine yU rfl rfl rfl ?_
  refine zM (vs := [_]) rfl rfl rfl rfl call63 ⟨rfl, trivial⟩ (fun w hs => o_v_zero hs r18 (by omega)) ?_
  intro v19 h1 hh1 r19
  obtain rfl : v19 = vB (s.1 = (T3.mk (0 : Rat) 0 0)) := r19
  refine gv (xN rfl rfl) rfl (zD ?_)
  refine yM h1 hh1 ⟨?_, rfl, rfl, trivial⟩ rfl rfl
  exact congrArg some (qV hg)
 intro mg1_3 hmmg1_3
 show GL _ _ _ _ _ _ _ [(20, vB (((↑(l).length : Int) < (3 : Int)) ∨ (s.1 = (T3.mk (0 : Rat) 0 0)))), (0, vl), (3, vP b3 0)] [.var b3 34 cs3] mg1_3
 refine zD (zB ?_)
 refine zO rfl (fun hc20 => ?_) (fun hc20 => ?_)
 ·
  refine zC (zA (asg rfl rfl (zD (zB (zQ (zX (yH rfl rfl ?_)))))))
  exact (yS (fun e => hc20.elim (fun h => by have := e.1.1; omega) (fun h => e.1.2 h))).symm
 have hN : ¬ s.1 = zT := fun e => hc20 (.inr e)
 have h3 : 3 ≤ l.length := by have h := hc20; omega
 refine zL (zB (zC (zC (zA (mv rfl rfl ?_)))))
 replace rl := rl.mono hmmg1_3
 refine gv (vE underlying27 rfl rl) rfl (mv (v := vI (0)) rfl rfl (zD (zB (zS ?_))))
 refine wT (ι := Nat × Mem) (fun (i, ma) => MLe mg1_3 ma ∧ (i ≤ l.length ∧ ∀ u, u < i → sdZ s (gp l u) = 0)) (fun (i, ma) => [(0, vl), (3, vP b3 0), (21, vl), (22, vI (↑(l).length : Int)), (23, vI ↑i)]) (fun (i, ma) => [.var b3 34 cs3]) (fun (i, ma) => ma) (fun (i, ma) => l.length - i) (0, mg1_3) ?_ e5 rfl rfl ?_
 ·
  refine ⟨MLe.refl _, ?_⟩
  exact ⟨by omega, fun u h => by omega⟩
 intro x hx
 obtain ⟨i, ma⟩ := x
 obtain ⟨hmma, hinv⟩ := hx
 show GC _ _ _ _ _ _ [(0, vl), (3, vP b3 0), (21, vl), (22, vI (↑(l).length : Int)), (23, vI ↑i)] [.var b3 34 cs3] ma
 obtain ⟨hi1, hi2⟩ := hinv
 refine zC (zA (gv (zW rfl rfl) rfl (zD (zB (zC ?_)))))
 refine zO rfl (fun hc24 => ?_) (fun hc24 => ?_)
 ·
  refine zL (zB (zC (zS (zC (zA ?_)))))
  replace rl := rl.mono hmma
  refine wF (F := fun v_ => AtP (rpT (rpQ k)) ma v_ (l.getD i (T3.mk (0 : Rat) 0 0))) (vN (T3.mk (0 : Rat) 0 0) i underlying27 yZ rfl rfl rl rfl (by omega) p9N) vW rfl ?_
  intro v25 r25
  refine wF (F := fun v_ => (rpT (rpQ k)).Is ma v_ (l.getD i (T3.mk (0 : Rat) 0 0))) (wP yZ rfl r25) vW rfl ?_
  intro v26 r26
  refine zK (yY (ρ := (rpT (rpQ (k + 1)))) (X := (T3.mk (0 : Rat) 0 0)) yD rfl rfl (wH (wA (by omega)))) rfl rfl rfl ?_
  intro v6 q6 hq6
  obtain ⟨b6, cs6, rfl, rfl, rb6⟩ := hq6
  refine wB (A := []) (F := fun c_ => (rpT (rpQ (k + 1))).R ma c_ (l.getD i (T3.mk (0 : Rat) 0 0))) (yG sizeOf32 (Pc.here _) rfl rfl rfl rb6 (r26.le (Le.t (Le.q (l := k + 1) (by omega)))) rfl) ?_
  intro cs_1 rb_2
  refine zD (zB (zC (zA ?_)))
  replace rb3 := rb3.mono (hmmg1_3.trans hmma)
  refine wF (F := fun v_ => (rpP (rpT (rpQ n)) (rpQ m)).Is ma v_ s) (zE jM (Pc.here _) rfl rfl rb3 rfl) (yF (.tail _ (.head _))) rfl ?_
  intro v27 r27
  refine wF (F := fun v_ => (rpT (rpQ (k + 1))).Is ma v_ (l.getD i (T3.mk (0 : Rat) 0 0))) (zE yZ (Pc.here _) rfl rfl rb_2 rfl) (yF (.head _)) rfl ?_
  intro v28 r28
  refine zM (vs := [_, _]) rfl rfl rfl rfl call64 e2z (fun w hs => dS hs r27 r28 (by omega) (by omega) (by omega)) ?_
  intro v29 h1 hh1 r29
  obtain rfl : v29 = vI (sdZ s (l.getD i (T3.mk (0 : Rat) 0 0))) := r29
  have hsd29 := kD s (l.getD i (T3.mk (0 : Rat) 0 0))
  refine gv (tV (q := 0) rfl rfl) rfl (zD (zB ?_))
  refine zO rfl (fun hc30 => ?_) (fun hc30 => ?_)
  ·
   refine wM (e' := []) trivial (zC (zA (asg rfl rfl (zD (zB (zQ (wY (zX (zX (wY (zX (yH rfl rfl ?_))))))))))))
   exact (yS (fun e => hc30 (e.2.1 i (by omega)))).symm
  refine zL (xB (zB (zA (gv (zR (q := 1) rfl rfl (by omega) (by omega)) rfl (mv rfl rfl (zD (xF (A := []) ?_)))))))
  refine yR ((i + 1), h1) ?_ ?_ e5 rfl rfl
  ·
   refine ⟨(hmma.trans hh1), ?_⟩
   exact ⟨by omega, cX (Q := fun u => sdZ s (gp l u) = 0) hi2 (Classical.not_not.1 hc30)⟩
  dsimp only
  omega
 have hS : ∀ u, u < l.length → sdZ s (gp l u) = 0 := fun u hu => hi2 u (by omega)
 refine xM (yE (yE (xL (zB (zC (zA (gv ((zI underlying34 rfl sizeOf32 rfl).cv (show _ = vP b3 0 from congrArg (vP b3) (by rfl))) rfl ?_)))))))
 replace rb3 := rb3.mono (hmmg1_3.trans hmma)
 refine wF (F := fun v_ => (rpT (rpQ n)).Is ma v_ s.1) (zE yZ (Pc.fst (Pc.here _)) rfl rfl rb3 rfl) (yF (.head _)) rfl ?_
 intro v34 r34
 refine zM (vs := [_]) rfl rfl rfl rfl call65 ⟨rfl, trivial⟩ (fun w hs => o_pl_axes hs r34 (by omega)) ?_
 intro v35 h1 hh1 r35
 obtain rfl := r35
 refine mv rfl rfl (gv (zN (vs := [_, _]) rfl rfl) rfl (gv (zN (vs := [_, _]) rfl rfl) rfl (asg rfl rfl (asg rfl rfl (zD (zJ (e' := [(0, _), (7, _), (8, _)]) e3z (zB (zC (zC (zA (mv rfl rfl ?_)))))))))))
 replace rl := rl.mono (hmma.trans hh1)
 refine gv (vE underlying27 rfl rl) rfl (mv (v := vI (0)) rfl rfl (zD (zB (zS ?_))))
 refine wT (ι := Nat × Mem) (fun (i, mb) => MLe h1 mb ∧ (i ≤ l.length ∧ ∀ u, u < i → ∀ k', 2 ≤ k' → k' < l.length → 0 < orZ (pt2 s (gp l u)) (pt2 s (nx l u)) (pt2 s (gp l ((u + k') % l.length))))) (fun (i, mb) => [(0, vl), (7, vI (↑(axI s.1) : Int)), (8, vI (↑(axJ s.1) : Int)), (38, vl), (39, vI (↑(l).length : Int)), (40, vI ↑i)]) (fun (i, mb) => [.var b3 34 cs3]) (fun (i, mb) => mb) (fun (i, mb) => l.length - i) (0, h1) ?_ e6 rfl rfl ?_
 ·
  refine ⟨MLe.refl _, ?_⟩
  exact ⟨by omega, fun u h => by omega⟩
 intro x hx
 obtain ⟨i, mb⟩ := x
 obtain ⟨hmmb, hinv⟩ := hx
 show GC _ _ _ _ _ _ [(0, vl), (7, vI (↑(axI s.1) : Int)), (8, vI (↑(axJ s.1) : Int)), (38, vl), (39, vI (↑(l).length : Int)), (40, vI ↑i)] [.var b3 34 cs3] mb
 obtain ⟨hj1, hj2⟩ := hinv
 refine zC (zA (gv (zW rfl rfl) rfl (zD (zB (zC ?_)))))
 refine zO rfl (fun hc41 => ?_) (fun hc41 => ?_)
 ·
  refine zL (zB (zC (zS (zC (zA (mv rfl rfl ?_))))))
  replace rl := rl.mono hmmb
  refine wF (F := fun v_ => AtP (rpT (rpQ k)) mb v_ (l.getD i (T3.mk (0 : Rat) 0 0))) (vN (T3.mk (0 : Rat) 0 0) i underlying27 yZ rfl rfl rl rfl (by omega) p9N) vW rfl ?_
  intro v43 r43
  refine wF (F := fun v_ => (rpT (rpQ k)).Is mb v_ (l.getD i (T3.mk (0 : Rat) 0 0))) (wP yZ rfl r43) vW rfl ?_
  intro v44 r44
  refine zK (yY (ρ := (rpT (rpQ (k + 1)))) (X := (T3.mk (0 : Rat) 0 0)) yD rfl rfl (wH (wA (by omega)))) rfl rfl rfl ?_
  intro v10 q10 hq10
  obtain ⟨b10, cs10, rfl, rfl, rb10⟩ := hq10
  refine asg rfl rfl (wB (A := []) (F := fun c_ => (rpT (rpQ (k + 1))).R mb c_ (l.getD i (T3.mk (0 : Rat) 0 0))) (yG sizeOf32 (Pc.here _) rfl rfl rfl rb10 (r44.le (Le.t (Le.q (l := k + 1) (by omega)))) rfl) ?_)
  intro cs_3 rb_4
  refine zD (zB (zC (zA (mv rfl rfl (mv rfl rfl (gv (zR (q := 1) rfl rfl (by omega) (by omega)) rfl (mv rfl rfl (gv (vE underlying27 rfl rl) rfl (gv (uZ rfl rfl (by omega) (by omega)) rfl (wF (F := fun v_ => AtP (rpT (rpQ k)) mb v_ (l.getD ((i + 1) % l.length) (T3.mk (0 : Rat) 0 0))) (vN (T3.mk (0 : Rat) 0 0) ((i + 1) % l.length) underlying27 yZ rfl rfl rl (by first | rfl | (push_cast; rfl)) (by exact Nat.mod_lt _ (by omega)) p9N) vW rfl ?_))))))))))
  intro v51 r51
  refine wF (F := fun v_ => (rpT (rpQ k)).Is mb v_ (l.getD ((i + 1) % l.length) (T3.mk (0 : Rat) 0 0))) (wP yZ rfl r51) vW rfl ?_
  intro v52 r52
  refine zK (yY (ρ := (rpT (rpQ (k + 1)))) (X := (T3.mk (0 : Rat) 0 0)) yD rfl rfl (wH (wA (by omega)))) rfl rfl rfl ?_
  intro v11 q11 hq11
  obtain ⟨b11, cs11, rfl, rfl, rb11⟩ := hq11
  refine wB (A := []) (F := fun c_ => (rpT (rpQ (k + 1))).R mb c_ (l.getD ((i + 1) % l.length) (T3.mk (0 : Rat) 0 0))) (yG sizeOf32 (Pc.here _) rfl rfl rfl rb11 (r52.le (Le.t (Le.q (l := k + 1) (by omega)))) rfl) ?_
  intro cs_5 rb_6
  refine zD (zJ (e' := [(0, _), (7, _), (8, _), (38, _), (39, _), (40, _), (10, _), (9, _), (11, _)]) e9 (zB (zC (zA (asg (v := vI (2)) rfl rfl (zD (zB (zS ?_))))))))
  refine wT (ι := Nat × Mem) (fun (q, mq) => MLe mb mq ∧ ((2 ≤ q ∧ q ≤ l.length) ∧ ∀ k', 2 ≤ k' → k' < q → 0 < orZ (pt2 s (gp l i)) (pt2 s (nx l i)) (pt2 s (gp l ((i + k') % l.length))))) (fun (q, mq) => [(0, vl), (7, vI (↑(axI s.1) : Int)), (8, vI (↑(axJ s.1) : Int)), (9, vI ↑i), (10, vP b10 0), (11, vP b11 0), (12, vI ↑q), (38, vl), (39, vI (↑(l).length : Int)), (40, vI ↑i)]) (fun (q, mq) => [.var b11 32 cs_5, .var b10 32 cs_3, .var b3 34 cs3]) (fun (q, mq) => mq) (fun (q, mq) => l.length - q) (2, mb) ?_ ⟨rfl, rfl, rfl, rfl, rfl, rfl, rfl, rfl, rfl, rfl, trivial⟩ rfl rfl ?_
  ·
   refine ⟨MLe.refl _, ?_⟩
   exact ⟨⟨by omega, by omega⟩, fun k' h1' h2' => by omega⟩
  intro x hx
  obtain ⟨q, mq⟩ := x
  obtain ⟨hmmq, hinv⟩ := hx
  show GC _ _ _ _ _ _ [(0, vl), (7, vI (↑(axI s.1) : Int)), (8, vI (↑(axJ s.1) : Int)), (9, vI ↑i), (10, vP b10 0), (11, vP b11 0), (12, vI ↑q), (38, vl), (39, vI (↑(l).length : Int)), (40, vI ↑i)] [.var b11 32 cs_5, .var b10 32 cs_3, .var b3 34 cs3] mq
  obtain ⟨⟨hk0, hk1⟩, hk2⟩ := hinv
  refine zC (zC (zA (mv rfl rfl (mv rfl rfl ?_))))
  replace rl := rl.mono hmmq
  refine gv (vE underlying27 rfl rl) rfl (gv (zW rfl rfl) rfl (zD (zB ?_)))
  refine zO rfl (fun hc56 => ?_) (fun hc56 => ?_)
  ·
   refine zL (zB (zC (zS (zC ?_))))
   refine yI 15 _ [] [(0, .q), (1, .q), (2, .q), (3, .q), (4, .q), (5, .q), (6, .q), (7, .q), (8, .q), (9, .q), (10, .q), (11, .q), (12, .q), (13, .c), (14, .q)] xI nX (gK [0, 0, 0, 0, 0, 24, 0, 64, 160, 260, 512, 0, 0, 7171, 8192] [32767, 32767, 32767, 32767, 32767, 32743, 32767, 32703, 32607, 32507, 32255, 32767, 32767, 25596, 24575] (by kernel_rfl)) nX (fun r hr => hr) ?_
   replace rb_4 := rb_4.mono hmmq
   refine yP (F := fun v_ => (rpT (rpQ (k + 1))).Is mq v_ (l.getD i (T3.mk (0 : Rat) 0 0))) rfl (zE yZ (Pc.here _) rfl rfl rb_4 rfl) (yF (.tail _ (.head _))) rfl ?_
   intro v59 r59
   replace rb_6 := rb_6.mono hmmq
   refine yP (F := fun v_ => (rpT (rpQ (k + 1))).Is mq v_ (l.getD ((i + 1) % l.length) (T3.mk (0 : Rat) 0 0))) rfl (zE yZ (Pc.here _) rfl rfl rb_6 rfl) (yF (.head _)) rfl ?_
   intro v60 r60
   refine w_q rfl (fun h' L' hh hR => zF rfl) rfl (w_q rfl (fun h' L' hh hR => zF rfl) rfl (w_q rfl (fun h' L' hh hR => zF rfl) rfl (w_q rfl (fun h' L' hh hR => zR rfl rfl (by omega) (by omega)) rfl (w_q rfl (fun h' L' hh hR => zF rfl) rfl (w_q rfl (fun h' L' hh hR => vE underlying27 rfl (rl.mono hh)) rfl (w_q rfl (fun h' L' hh hR => uZ rfl rfl (by omega) (by omega)) rfl (yP (F := fun v_ => AtP (rpT (rpQ k)) mq v_ (l.getD ((i + q) % l.length) (T3.mk (0 : Rat) 0 0))) rfl (vN (T3.mk (0 : Rat) 0 0) ((i + q) % l.length) underlying27 yZ rfl rfl rl (by first | rfl | (push_cast; rfl)) (by exact Nat.mod_lt _ (by omega)) p9N) vW rfl ?_)))))))
   intro v68 r68
   refine yP (F := fun v_ => (rpT (rpQ k)).Is mq v_ (l.getD ((i + q) % l.length) (T3.mk (0 : Rat) 0 0))) rfl (wP yZ rfl r68) vW rfl ?_
   intro v69 r69
   refine w_q rfl (fun h' L' hh hR => zF rfl) rfl (w_q rfl (fun h' L' hh hR => zF rfl) rfl ?_)
   refine w_c rfl ?_
   refine zY (vs := [_, _, _, _, _]) call66 e5 (fun w hs => s7 (i := (axI s.1)) (j := (axJ s.1)) hs r59 r60 (r69.le (Le.t (Le.q (l := k + 1) (by omega)))) (by omega) (by omega) (by omega)) rfl ?_
   intro v72 h2 hh2 r72
   obtain rfl : v72 = vI (orZ (pr (l.getD i (T3.mk (0 : Rat) 0 0)) (axI s.1) (axJ s.1)) (pr (l.getD ((i + 1) % l.length) (T3.mk (0 : Rat) 0 0)) (axI s.1) (axJ s.1)) (pr (l.getD ((i + q) % l.length) (T3.mk (0 : Rat) 0 0)) (axI s.1) (axJ s.1))) := r72
   have hor72 := or_range (pr (l.getD i (T3.mk (0 : Rat) 0 0)) (axI s.1) (axJ s.1)) (pr (l.getD ((i + 1) % l.length) (T3.mk (0 : Rat) 0 0)) (axI s.1) (axJ s.1)) (pr (l.getD ((i + q) % l.length) (T3.mk (0 : Rat) 0 0)) (axI s.1) (axJ s.1))
   refine w_q rfl (fun h' L' hh hR => tJ (q := 0) rfl rfl) rfl (xA (zJ (e' := [(0, _), (7, _), (8, _), (9, _), (10, _), (11, _), (12, _), (38, _), (39, _), (40, _), (73, _)]) e11 (zB ?_)))
   refine zO rfl (fun hc73 => ?_) (fun hc73 => ?_)
   ·
    have hed : ¬ 0 < orZ (pt2 s (gp l i)) (pt2 s (nx l i)) (pt2 s (gp l ((i + q) % l.length))) := fun e => Int.not_le.2 e hc73
    refine wM (e' := []) trivial (zC (zA (asg rfl rfl (zD (zB (zQ (wY (zX (zX (wY (wY (zX (zX ?_)))))))))))))
    refine wY (zX (yH rfl rfl ?_))
    exact (yS (fun e => hed (e.2.2 i q (by omega) (by omega) (by omega)))).symm
   have hed : 0 < orZ (pt2 s (gp l i)) (pt2 s (nx l i)) (pt2 s (gp l ((i + q) % l.length))) := Int.not_le.1 hc73
   refine zL (xB (zB (zA (mv rfl rfl (gv (zR (q := 1) rfl rfl (by omega) (by omega)) rfl (asg rfl rfl (zD ?_)))))))
   refine yR ((q + 1), h2) ?_ ?_ ⟨rfl, rfl, rfl, rfl, rfl, rfl, rfl, rfl, rfl, rfl, trivial⟩ rfl rfl
   ·
    refine ⟨(hmmq.trans hh2), ?_⟩
    exact ⟨⟨by omega, by omega⟩, fun k' h1' h2' => by rcases Nat.lt_succ_iff_lt_or_eq.1 h2' with e | e; exact hk2 k' h1' e; subst e; exact hed⟩
   dsimp only
   omega
  refine xM (yE (yE (xL (xB (zB (zA (gv (zR (q := 1) rfl rfl (by omega) (by omega)) rfl (mv rfl rfl (zD (xF (A := []) (xF (A := []) ?_)))))))))))
  refine yR ((i + 1), mq) ?_ ?_ e6 rfl rfl
  ·
   refine ⟨(hmmb.trans hmmq), ?_⟩
   exact ⟨by omega, cX (Q := fun u => ∀ k', 2 ≤ k' → k' < l.length → 0 < orZ (pt2 s (gp l u)) (pt2 s (nx l u)) (pt2 s (gp l ((u + k') % l.length)))) hj2 (fun k' h1' h2' => hk2 k' h1' (by omega))⟩
  dsimp only
  omega
 have hE : ∀ u k', u < l.length → 2 ≤ k' → k' < l.length → 0 < orZ (pt2 s (gp l u)) (pt2 s (nx l u)) (pt2 s (gp l ((u + k') % l.length))) := fun u k' hu h1' h2' => hj2 u (by omega) k' h1' h2'
 refine xM (yE (yE (xL (zB (zC (zA (asg rfl rfl (zD (zB (zQ (yH rfl rfl ?_)))))))))))
 exact (xJ ⟨⟨h3, hN⟩, hS, hE⟩).symm
theorem eT {w0 : World} {h0 : Mem}  (hs : MLe h0 (mem w0)) {k n m : Nat} {vl : Value} {l : (List (T3 Rat))} (rl : (rpS (rpT (rpQ k))).Is h0 vl l) {vs : Value} {s : ((T3 Rat) × Rat)} (rs : (rpP (rpT (rpQ n)) (rpQ m)).Is h0 vs s) (hcd0 : k ≤ 10000000) (hcd1 : m ≤ 10000000) (hcd2 : n ≤ 1000000) (hcd3 : l.length ≤ 100000)  :
    Calls Tryz.prog 17 #[vl, vs] w0 (Ret w0 h0 (fun _ r => r = vB (kV s l))) := by
 have hax := iQ s.1
 refine zP (n := 73) (e := [(0, vl), (1, vs)]) (vs := [vl, vs]) func17 rfl rfl (bL rfl) hs e2z (zC (zA (zK (yW (ρ := (rpP (rpT (rpQ n)) (rpQ m))) rfl rs) rfl rfl rfl ?_)))
 intro v3 q3 hq3
 obtain ⟨b3, cs3, rfl, rfl, rb3⟩ := hq3
 refine asg rfl rfl (zD (zB (zC (zA (mv rfl rfl (gv (vE underlying27 rfl rl) rfl (asg rfl rfl (zD (zB (zC (zC (zA (mv rfl rfl ?_)))))))))))))
 refine gv (zW (q := 3) rfl rfl) rfl ?_
 refine vS (ι := Mem) 5 (fun m_ => MLe h0 m_) (fun _ => [(20, vB (((↑(l).length : Int) < (3 : Int)) ∨ (s.1 = (T3.mk (0 : Rat) 0 0)))), (0, vl), (3, vP b3 0), (5, vI (↑(l).length : Int))]) (fun _ => [.var b3 34 cs3]) (fun m_ => m_) ?_ ?_
 ·
  refine wI ((↑(l).length : Int) < (3 : Int)) (fun hg => ?_) (fun hg => ?_)
  ·
   refine xH (zF (v := .bool true) (congrArg some (xJ hg))) rfl rfl rfl (yK rfl rfl rfl rfl rfl rfl (yK rfl rfl rfl rfl rfl rfl (yK rfl rfl rfl rfl rfl rfl (gv (xC rfl rfl) rfl (zD ?_)))))
   refine yM h0 (MLe.refl _) ⟨?_, rfl, rfl, rfl, trivial⟩ rfl rfl
   exact congrArg some (qU hg)
  refine xH (zF (v := .bool false) (congrArg some (yS hg))) rfl rfl rfl (yU rfl rfl rfl (gv ((zI underlying34 rfl sizeOf32 rfl).cv (show _ = vP b3 0 from congrArg (vP b3) (by rfl))) rfl (yU rfl rfl rfl (wF (F := fun v_ => (rpT (rpQ n)).Is h0 v_ s.1) (zE yZ (Pc.fst (Pc.here _)) rfl rfl rb3 rfl) (yF (.head _)) rfl ?_))))
  intro v18 r18
  refine yU rfl rfl rfl ?_
  refine zM (vs := [_]) rfl rfl rfl rfl call41 ⟨rfl, trivial⟩ (fun w hs => mD hs r18 (by omega)) ?_
  intro v19 h1 hh1 r19
  obtain rfl : v19 = vB (s.1 = (T3.mk (0 : Rat) 0 0)) := r19
  refine gv (xN rfl rfl) rfl (zD ?_)
  refine yM h1 hh1 ⟨?_, rfl, rfl, rfl, trivial⟩ rfl rfl
  exact congrArg some (qV hg)
 intro mg2_2 hmmg2_2
 show GL _ _ _ _ _ _ _ [(20, vB (((↑(l).length : Int) < (3 : Int)) ∨ (s.1 = (T3.mk (0 : Rat) 0 0)))), (0, vl), (3, vP b3 0), (5, vI (↑(l).length : Int))] [.var b3 34 cs3] mg2_2
 refine zD (zB ?_)
 refine zO rfl (fun hc20 => ?_) (fun hc20 => ?_)
 ·
  refine zC (zA (asg rfl rfl (zD (zB (zQ (zX (yH rfl rfl ?_)))))))
  exact (yS (fun e => hc20.elim (fun h => by have := e.1.1; omega) (fun h => e.1.2 h))).symm
 have hN : ¬ s.1 = zT := fun e => hc20 (.inr e)
 have h3 : 3 ≤ l.length := by have h := hc20; omega
 refine zL (zB (zC (zC (zA (asg (v := vI (0)) rfl rfl (zD (zB (zS ?_))))))))
 refine wT (ι := Nat × Mem) (fun (i, ma) => MLe mg2_2 ma ∧ (i ≤ l.length ∧ ∀ u, u < i → sdZ s (gp l u) = 0)) (fun (i, ma) => [(0, vl), (3, vP b3 0), (5, vI (↑(l).length : Int)), (6, vI ↑i)]) (fun (i, ma) => [.var b3 34 cs3]) (fun (i, ma) => ma) (fun (i, ma) => l.length - i) (0, mg2_2) ?_ e4z rfl rfl ?_
 ·
  refine ⟨MLe.refl _, ?_⟩
  exact ⟨by omega, fun u h => by omega⟩
 intro x hx
 obtain ⟨i, ma⟩ := x
 obtain ⟨hmma, hinv⟩ := hx
 show GC _ _ _ _ _ _ [(0, vl), (3, vP b3 0), (5, vI (↑(l).length : Int)), (6, vI ↑i)] [.var b3 34 cs3] ma
 obtain ⟨hi1, hi2⟩ := hinv
 refine zC (zC (zA (mv rfl rfl (mv rfl rfl (gv (zW rfl rfl) rfl (zD (zB ?_)))))))
 refine zO rfl (fun hc23 => ?_) (fun hc23 => ?_)
 ·
  refine zL (zB (zC (zS (zC ?_))))
  refine yI 7 _ [] [(0, .q), (1, .q), (2, .q), (3, .q), (4, .q), (5, .c), (6, .q)] xI nX (by kernel_rfl) nX (fun r hr => hr) ?_
  replace rb3 := rb3.mono (hmmg2_2.trans hmma)
  refine yP (F := fun v_ => (rpP (rpT (rpQ n)) (rpQ m)).Is ma v_ s) rfl (zE jM (Pc.here _) rfl rfl rb3 rfl) (yF (.head _)) rfl ?_
  intro v26 r26
  refine w_q rfl (fun h' L' hh hR => zF rfl) rfl (w_q rfl (fun h' L' hh hR => zF rfl) rfl ?_)
  replace rl := rl.mono (hmmg2_2.trans hmma)
  refine yP (F := fun v_ => AtP (rpT (rpQ k)) ma v_ (l.getD i (T3.mk (0 : Rat) 0 0))) rfl (vN (T3.mk (0 : Rat) 0 0) i underlying27 yZ rfl rfl rl rfl (by omega) p9N) vW rfl ?_
  intro v29 r29
  refine yP (F := fun v_ => (rpT (rpQ k)).Is ma v_ (l.getD i (T3.mk (0 : Rat) 0 0))) rfl (wP yZ rfl r29) vW rfl ?_
  intro v30 r30
  refine w_c rfl ?_
  refine zY (vs := [_, _]) call25 e2z (fun w hs => rU hs r26 r30 (by omega) (by omega) (by omega)) rfl ?_
  intro v31 h1 hh1 r31
  obtain rfl : v31 = vI (sdZ s (l.getD i (T3.mk (0 : Rat) 0 0))) := r31
  have hsd31 := kD s (l.getD i (T3.mk (0 : Rat) 0 0))
  refine w_q rfl (fun h' L' hh hR => tV (q := 0) rfl rfl) rfl (xA (zB ?_))
  refine zO rfl (fun hc32 => ?_) (fun hc32 => ?_)
  ·
   refine wM (e' := []) trivial (zC (zA (asg rfl rfl (zD (zB (zQ (wY (zX (zX (wY (zX (yH rfl rfl ?_))))))))))))
   exact (yS (fun e => hc32 (e.2.1 i (by omega)))).symm
  refine wM (e' := [(0, _), (3, _), (5, _), (6, _)]) e4z (zL (xB (zB (zA (mv rfl rfl (gv (zR (q := 1) rfl rfl (by omega) (by omega)) rfl (asg rfl rfl (zD ?_))))))))
  refine yR ((i + 1), h1) ?_ ?_ e4z rfl rfl
  ·
   refine ⟨(hmma.trans hh1), ?_⟩
   exact ⟨by omega, cX (Q := fun u => sdZ s (gp l u) = 0) hi2 (Classical.not_not.1 hc32)⟩
  dsimp only
  omega
 have hS : ∀ u, u < l.length → sdZ s (gp l u) = 0 := fun u hu => hi2 u (by omega)
 refine xM (yE (yE (xL (zB (zC (zC (zA (asg (v := vI (0)) rfl rfl (zD (zB (zS ?_)))))))))))
 refine wT (ι := Nat × Mem) (fun (i, mb) => MLe ma mb ∧ (i ≤ l.length ∧ ∀ u, u < i → ∀ k', 2 ≤ k' → k' < l.length → 0 < orZ (pt2 s (gp l u)) (pt2 s (nx l u)) (pt2 s (gp l ((u + k') % l.length))))) (fun (i, mb) => [(0, vl), (3, vP b3 0), (5, vI (↑(l).length : Int)), (7, vI ↑i)]) (fun (i, mb) => [.var b3 34 cs3]) (fun (i, mb) => mb) (fun (i, mb) => l.length - i) (0, ma) ?_ e4z rfl rfl ?_
 ·
  refine ⟨MLe.refl _, ?_⟩
  exact ⟨by omega, fun u h => by omega⟩
 intro x hx
 obtain ⟨i, mb⟩ := x
 obtain ⟨hmmb, hinv⟩ := hx
 show GC _ _ _ _ _ _ [(0, vl), (3, vP b3 0), (5, vI (↑(l).length : Int)), (7, vI ↑i)] [.var b3 34 cs3] mb
 obtain ⟨hj1, hj2⟩ := hinv
 refine zC (zC (zA (mv rfl rfl (mv rfl rfl (gv (zW rfl rfl) rfl (zD (zB ?_)))))))
 refine zO rfl (fun hc35 => ?_) (fun hc35 => ?_)
 ·
  refine zL (zB (zC (zS (zC ?_))))
  refine yI 15 _ [(11, (8, 32, [.bool false, .slice none 0 0, .slice none 0 0, .bool false, .slice none 0 0, .slice none 0 0, .bool false, .slice none 0 0, .slice none 0 0])), (12, (9, 32, [.bool false, .slice none 0 0, .slice none 0 0, .bool false, .slice none 0 0, .slice none 0 0, .bool false, .slice none 0 0, .slice none 0 0]))] [(0, .q), (1, .q), (2, .q), (3, .q), (4, .q), (5, .q), (6, .q), (7, .q), (8, .q), (9, .q), (10, .q), (11, .a), (12, .a), (13, .c), (14, .c)] xI (jC.cons rfl (uU yD rfl rfl) (jC.cons rfl (uU yD rfl rfl) jC.nil)) (gK [0, 0, 3, 4, 0, 0, 32, 0, 192, 272, 512, 0, 0, 6159, 16383] [32767, 32767, 32764, 32763, 32767, 32767, 32735, 32767, 32575, 32495, 32255, 32767, 32767, 30711, 27647] (by kernel_rfl)) (uV rfl rfl (uV rfl rfl jY)) (fun r hr => hr) (w_q rfl (fun h' L' hh hR => zF rfl) rfl (w_q rfl (fun h' L' hh hR => zF rfl) rfl ?_))
  replace rl := rl.mono ((hmmg2_2.trans hmma).trans hmmb)
  refine yP (F := fun v_ => AtP (rpT (rpQ k)) mb v_ (l.getD i (T3.mk (0 : Rat) 0 0))) rfl (vN (T3.mk (0 : Rat) 0 0) i underlying27 yZ rfl rfl rl rfl (by omega) p9N) vW rfl ?_
  intro v40 r40
  refine yP (F := fun v_ => (rpT (rpQ k)).Is mb v_ (l.getD i (T3.mk (0 : Rat) 0 0))) rfl (wP yZ rfl r40) vW rfl ?_
  intro v41 r41
  refine w_q rfl (fun h' L' hh hR => zF rfl) rfl (w_q rfl (fun h' L' hh hR => zF rfl) rfl (w_q rfl (fun h' L' hh hR => zR (q := 1) rfl rfl (by omega) (by omega)) rfl (w_q rfl (fun h' L' hh hR => zF rfl) rfl (w_q rfl (fun h' L' hh hR => uZ rfl rfl (by omega) (by omega)) rfl (yP (F := fun v_ => AtP (rpT (rpQ k)) mb v_ (l.getD ((i + 1) % l.length) (T3.mk (0 : Rat) 0 0))) rfl (vN (T3.mk (0 : Rat) 0 0) ((i + 1) % l.length) underlying27 yZ rfl rfl rl (by first | rfl | (push_cast; rfl)) (by exact Nat.mod_lt _ (by omega)) p9N) vW rfl ?_)))))
  intro v47 r47
  refine yP (F := fun v_ => (rpT (rpQ k)).Is mb v_ (l.getD ((i + 1) % l.length) (T3.mk (0 : Rat) 0 0))) rfl (wP yZ rfl r47) vW rfl ?_
  intro v48 r48
  refine w_a rfl (fun b8 => ?_)
  have rb8 : (rpT (rpQ (k + 1))).R mb [.bool false, .slice none 0 0, .slice none 0 0, .bool false, .slice none 0 0, .slice none 0 0, .bool false, .slice none 0 0, .slice none 0 0] (T3.mk (0 : Rat) 0 0) := (wH (wA (by omega)))
  refine w_a rfl (fun b9 => ?_)
  have rb9 : (rpT (rpQ (k + 1))).R mb [.bool false, .slice none 0 0, .slice none 0 0, .bool false, .slice none 0 0, .slice none 0 0, .bool false, .slice none 0 0, .slice none 0 0] (T3.mk (0 : Rat) 0 0) := (wH (wA (by omega)))
  refine w_c rfl (fH (A := [_]) (F := fun c_ => (rpT (rpQ (k + 1))).R mb c_ (l.getD i (T3.mk (0 : Rat) 0 0))) (yG sizeOf32 (Pc.here _) rfl rfl rfl rb8 (r41.le (Le.t (Le.q (l := k + 1) (by omega)))) rfl) (xE (by first | (simp; done) | grind)) ?_)
  intro cs_7 rb_8
  refine w_c rfl (fH (A := []) (F := fun c_ => (rpT (rpQ (k + 1))).R mb c_ (l.getD ((i + 1) % l.length) (T3.mk (0 : Rat) 0 0))) (yG sizeOf32 (Pc.here _) rfl rfl rfl rb9 (r48.le (Le.t (Le.q (l := k + 1) (by omega)))) rfl) (xE (by first | (simp; done) | grind)) ?_)
  intro cs_9 rb_10
  refine xA (zJ (e' := [(0, _), (3, _), (5, _), (7, _), (8, _), (9, _)]) e6 (zB (zC (zA (asg (v := vI (2)) rfl rfl (zD (zB (zS ?_))))))))
  refine wT (ι := Nat × Mem) (fun (q, mq) => MLe mb mq ∧ ((2 ≤ q ∧ q ≤ l.length) ∧ ∀ k', 2 ≤ k' → k' < q → 0 < orZ (pt2 s (gp l i)) (pt2 s (nx l i)) (pt2 s (gp l ((i + k') % l.length))))) (fun (q, mq) => [(0, vl), (3, vP b3 0), (5, vI (↑(l).length : Int)), (7, vI ↑i), (8, vP b8 0), (9, vP b9 0), (10, vI ↑q)]) (fun (q, mq) => [.var b9 32 cs_9, .var b8 32 cs_7, .var b3 34 cs3]) (fun (q, mq) => mq) (fun (q, mq) => l.length - q) (2, mb) ?_ e7 rfl rfl ?_
  ·
   refine ⟨MLe.refl _, ?_⟩
   exact ⟨⟨by omega, by omega⟩, fun k' h1' h2' => by omega⟩
  intro x hx
  obtain ⟨q, mq⟩ := x
  obtain ⟨hmmq, hinv⟩ := hx
  show GC _ _ _ _ _ _ [(0, vl), (3, vP b3 0), (5, vI (↑(l).length : Int)), (7, vI ↑i), (8, vP b8 0), (9, vP b9 0), (10, vI ↑q)] [.var b9 32 cs_9, .var b8 32 cs_7, .var b3 34 cs3] mq
  obtain ⟨⟨hk0, hk1⟩, hk2⟩ := hinv
  refine zC (zC (zA (mv rfl rfl (mv rfl rfl (gv (zW rfl rfl) rfl (zD (zB ?_)))))))
  refine zO rfl (fun hc51 => ?_) (fun hc51 => ?_)
  ·
   refine zL (zB (zC (zS (zC (zA (mv rfl rfl (mv rfl rfl (mv rfl rfl (gv (zR rfl rfl (by omega) (by omega)) rfl (mv rfl rfl (gv (uZ rfl rfl (by omega) (by omega)) rfl ?_)))))))))))
   replace rl := rl.mono hmmq
   refine wF (F := fun v_ => AtP (rpT (rpQ k)) mq v_ (l.getD ((i + q) % l.length) (T3.mk (0 : Rat) 0 0))) (vN (T3.mk (0 : Rat) 0 0) ((i + q) % l.length) underlying27 yZ rfl rfl rl (by first | rfl | (push_cast; rfl)) (by exact Nat.mod_lt _ (by omega)) p9N) vW rfl ?_
   intro v60 r60
   refine wF (F := fun v_ => (rpT (rpQ k)).Is mq v_ (l.getD ((i + q) % l.length) (T3.mk (0 : Rat) 0 0))) (wP yZ rfl r60) vW rfl ?_
   intro v61 r61
   refine zK (yY (ρ := (rpT (rpQ (k + 1)))) (X := (T3.mk (0 : Rat) 0 0)) yD rfl rfl (wH (wA (by omega)))) rfl rfl rfl ?_
   intro v11 q11 hq11
   obtain ⟨b11, cs11, rfl, rfl, rb11⟩ := hq11
   refine wB (A := []) (F := fun c_ => (rpT (rpQ (k + 1))).R mq c_ (l.getD ((i + q) % l.length) (T3.mk (0 : Rat) 0 0))) (yG sizeOf32 (Pc.here _) rfl rfl rfl rb11 (r61.le (Le.t (Le.q (l := k + 1) (by omega)))) rfl) ?_
   intro cs_11 rb_12
   refine zD (zJ (e' := [(0, _), (3, _), (5, _), (7, _), (8, _), (9, _), (10, _), (11, _)]) e8 (zB (zC ?_)))
   refine yI 11 _ [] [(0, .q), (1, .q), (3, .q), (4, .q), (6, .q), (7, .q), (2, .c), (5, .c), (8, .c), (9, .c), (10, .q)] xI nX (by kernel_rfl) nX (fun r hr => hr) ?_
   replace rb_10 := rb_10.mono hmmq
   refine yP (F := fun v_ => (rpT (rpQ (k + 1))).Is mq v_ (l.getD ((i + 1) % l.length) (T3.mk (0 : Rat) 0 0))) rfl (zE yZ (Pc.here _) rfl rfl rb_10 rfl) (yF (.tail _ (.head _))) rfl ?_
   intro v62 r62
   replace rb_8 := rb_8.mono hmmq
   refine yP (F := fun v_ => (rpT (rpQ (k + 1))).Is mq v_ (l.getD i (T3.mk (0 : Rat) 0 0))) rfl (zE yZ (Pc.here _) rfl rfl rb_8 rfl) (yF (.tail _ (.tail _ (.head _)))) rfl ?_
   intro v63 r63
   refine yP (F := fun v_ => (rpT (rpQ (k + 1))).Is mq v_ (l.getD ((i + q) % l.length) (T3.mk (0 : Rat) 0 0))) rfl (zE yZ (Pc.here _) rfl rfl rb_12 rfl) (yF (.head _)) rfl ?_
   intro v65 r65
   refine yP (F := fun v_ => (rpT (rpQ (k + 1))).Is mq v_ (l.getD i (T3.mk (0 : Rat) 0 0))) rfl (zE yZ (Pc.here _) rfl rfl rb_8 rfl) (yF (.tail _ (.tail _ (.head _)))) rfl ?_
   intro v66 r66
   refine w_q rfl (fun h' L' hh hR => (zI underlying34 rfl sizeOf32 rfl).cv (show _ = vP b3 0 from congrArg (vP b3) (by rfl))) rfl ?_
   replace rb3 := rb3.mono (((hmmg2_2.trans hmma).trans hmmb).trans hmmq)
   refine yP (F := fun v_ => (rpT (rpQ n)).Is mq v_ s.1) rfl (zE yZ (Pc.fst (Pc.here _)) rfl rfl rb3 rfl) (yF (.tail _ (.tail _ (.tail _ (.head _))))) rfl ?_
   intro v69 r69
   refine w_c rfl ?_
   refine zY (vs := [_, _]) call23 e2z (fun w hs => tW hs r62 r63 (by omega)) rfl ?_
   intro v64 h1 hh1 r64
   change (rpT (rpQ ((k + 1) + (k + 1) + 1))).Is h1 v64 (T3.mk ((l.getD ((i + 1) % l.length) (T3.mk (0 : Rat) 0 0)).x - (l.getD i (T3.mk (0 : Rat) 0 0)).x) ((l.getD ((i + 1) % l.length) (T3.mk (0 : Rat) 0 0)).y - (l.getD i (T3.mk (0 : Rat) 0 0)).y) ((l.getD ((i + 1) % l.length) (T3.mk (0 : Rat) 0 0)).z - (l.getD i (T3.mk (0 : Rat) 0 0)).z)) at r64
   replace r64 := Rp.Is.le r64 (Le.t (Le.q (l := 2 * k + 3) (by omega)))
   refine w_c rfl ?_
   replace r65 := r65.mono hh1
   replace r66 := r66.mono hh1
   refine zY (vs := [_, _]) call23 e2z (fun w hs => tW hs r65 r66 (by omega)) rfl ?_
   intro v67 h2 hh2 r67
   change (rpT (rpQ ((k + 1) + (k + 1) + 1))).Is h2 v67 (T3.mk ((l.getD ((i + q) % l.length) (T3.mk (0 : Rat) 0 0)).x - (l.getD i (T3.mk (0 : Rat) 0 0)).x) ((l.getD ((i + q) % l.length) (T3.mk (0 : Rat) 0 0)).y - (l.getD i (T3.mk (0 : Rat) 0 0)).y) ((l.getD ((i + q) % l.length) (T3.mk (0 : Rat) 0 0)).z - (l.getD i (T3.mk (0 : Rat) 0 0)).z)) at r67
   replace r67 := Rp.Is.le r67 (Le.t (Le.q (l := 2 * k + 3) (by omega)))
   refine w_c rfl ?_
   replace r69 := r69.mono (hh1.trans hh2)
   replace r64 := r64.mono hh2
   refine zY (vs := [_, _, _]) call51 e3z (fun w hs => o_s4_det hs r64 r67 r69 (by omega) (by omega) (by omega)) rfl ?_
   intro v70 h3 hh3 r70
   change (rpQ (3 * (2 * k + 3) + 6 * (2 * k + 3) + 6 * n + 18)).Is h3 v70 (detT (T3.mk ((l.getD ((i + 1) % l.length) (T3.mk (0 : Rat) 0 0)).x - (l.getD i (T3.mk (0 : Rat) 0 0)).x) ((l.getD ((i + 1) % l.length) (T3.mk (0 : Rat) 0 0)).y - (l.getD i (T3.mk (0 : Rat) 0 0)).y) ((l.getD ((i + 1) % l.length) (T3.mk (0 : Rat) 0 0)).z - (l.getD i (T3.mk (0 : Rat) 0 0)).z)) (T3.mk ((l.getD ((i + q) % l.length) (T3.mk (0 : Rat) 0 0)).x - (l.getD i (T3.mk (0 : Rat) 0 0)).x) ((l.getD ((i + q) % l.length) (T3.mk (0 : Rat) 0 0)).y - (l.getD i (T3.mk (0 : Rat) 0 0)).y) ((l.getD ((i + q) % l.length) (T3.mk (0 : Rat) 0 0)).z - (l.getD i (T3.mk (0 : Rat) 0 0)).z)) s.1) at r70
   replace r70 := Rp.Is.le r70 (Le.q (l := 18 * k + 6 * n + 45) (by omega))
   refine w_c rfl ?_
   refine zY (vs := [_]) call50 ⟨rfl, trivial⟩ (fun w hs => gQ hs r70 (by omega)) rfl ?_
   intro v71 h4 hh4 r71
   obtain rfl : v71 = vI (uY (detT (T3.mk ((l.getD ((i + 1) % l.length) (T3.mk (0 : Rat) 0 0)).x - (l.getD i (T3.mk (0 : Rat) 0 0)).x) ((l.getD ((i + 1) % l.length) (T3.mk (0 : Rat) 0 0)).y - (l.getD i (T3.mk (0 : Rat) 0 0)).y) ((l.getD ((i + 1) % l.length) (T3.mk (0 : Rat) 0 0)).z - (l.getD i (T3.mk (0 : Rat) 0 0)).z)) (T3.mk ((l.getD ((i + q) % l.length) (T3.mk (0 : Rat) 0 0)).x - (l.getD i (T3.mk (0 : Rat) 0 0)).x) ((l.getD ((i + q) % l.length) (T3.mk (0 : Rat) 0 0)).y - (l.getD i (T3.mk (0 : Rat) 0 0)).y) ((l.getD ((i + q) % l.length) (T3.mk (0 : Rat) 0 0)).z - (l.getD i (T3.mk (0 : Rat) 0 0)).z)) s.1)) := r71
   have hsr71 := uC (detT (T3.mk ((l.getD ((i + 1) % l.length) (T3.mk (0 : Rat) 0 0)).x - (l.getD i (T3.mk (0 : Rat) 0 0)).x) ((l.getD ((i + 1) % l.length) (T3.mk (0 : Rat) 0 0)).y - (l.getD i (T3.mk (0 : Rat) 0 0)).y) ((l.getD ((i + 1) % l.length) (T3.mk (0 : Rat) 0 0)).z - (l.getD i (T3.mk (0 : Rat) 0 0)).z)) (T3.mk ((l.getD ((i + q) % l.length) (T3.mk (0 : Rat) 0 0)).x - (l.getD i (T3.mk (0 : Rat) 0 0)).x) ((l.getD ((i + q) % l.length) (T3.mk (0 : Rat) 0 0)).y - (l.getD i (T3.mk (0 : Rat) 0 0)).y) ((l.getD ((i + q) % l.length) (T3.mk (0 : Rat) 0 0)).z - (l.getD i (T3.mk (0 : Rat) 0 0)).z)) s.1)
   refine w_q rfl (fun h' L' hh hR => tJ (q := 0) rfl rfl) rfl (xA (zJ (e' := [(0, _), (3, _), (5, _), (7, _), (8, _), (9, _), (10, _), (72, _)]) e8 (zB ?_)))
   refine zO rfl (fun hc72 => ?_) (fun hc72 => ?_)
   ·
    have hed : ¬ 0 < orZ (pt2 s (gp l i)) (pt2 s (nx l i)) (pt2 s (gp l ((i + q) % l.length))) := (det_le hN (hS i (by omega)) (hS ((i + 1) % l.length) (Nat.mod_lt _ (by omega))) (hS ((i + q) % l.length) (Nat.mod_lt _ (by omega)))).1 hc72
    refine zC (zA (asg rfl rfl (zD (zB (zQ (wY (zX (zX (wY (wY (zX (zX (wY ?_)))))))))))))
    refine zX (yH rfl rfl ?_)
    exact (yS (fun e => hed (e.2.2 i q (by omega) (by omega) (by omega)))).symm
   have hed : 0 < orZ (pt2 s (gp l i)) (pt2 s (nx l i)) (pt2 s (gp l ((i + q) % l.length))) := Classical.not_not.1 (fun e => hc72 ((det_le hN (hS i (by omega)) (hS ((i + 1) % l.length) (Nat.mod_lt _ (by omega))) (hS ((i + q) % l.length) (Nat.mod_lt _ (by omega)))).2 e))
   refine zL (xB (zB (zA (mv rfl rfl (gv (zR (q := 1) rfl rfl (by omega) (by omega)) rfl (asg rfl rfl (zD (xF (A := []) ?_))))))))
   refine yR ((q + 1), h4) ?_ ?_ e7 rfl rfl
   ·
    refine ⟨((((hmmq.trans hh1).trans hh2).trans hh3).trans hh4), ?_⟩
    exact ⟨⟨by omega, by omega⟩, fun k' h1' h2' => by rcases Nat.lt_succ_iff_lt_or_eq.1 h2' with e | e; exact hk2 k' h1' e; subst e; exact hed⟩
   dsimp only
   omega
  refine xM (yE (yE (xL (xB (zB (zA (mv rfl rfl (gv (zR (q := 1) rfl rfl (by omega) (by omega)) rfl (asg rfl rfl (zD (xF (A := []) (xF (A := []) ?_))))))))))))
  refine yR ((i + 1), mq) ?_ ?_ e4z rfl rfl
  ·
   refine ⟨(hmmb.trans hmmq), ?_⟩
   exact ⟨by omega, cX (Q := fun u => ∀ k', 2 ≤ k' → k' < l.length → 0 < orZ (pt2 s (gp l u)) (pt2 s (nx l u)) (pt2 s (gp l ((u + k') % l.length)))) hj2 (fun k' h1' h2' => hk2 k' h1' (by omega))⟩
  dsimp only
  omega
 have hE : ∀ u k', u < l.length → 2 ≤ k' → k' < l.length → 0 < orZ (pt2 s (gp l u)) (pt2 s (nx l u)) (pt2 s (gp l ((u + k') % l.length))) := fun u k' hu h1' h2' => hj2 u (by omega) k' h1' h2'
 refine xM (yE (yE (xL (zB (zC (zA (asg rfl rfl (zD (zB (zQ (yH rfl rfl ?_)))))))))))
 exact (xJ ⟨⟨h3, hN⟩, hS, hE⟩).symm
end Go.Proofs.YtghhjjmjpeehdaaGreat
