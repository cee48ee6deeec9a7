/- Texts that the proof needs, part 6. -/
import Derived.Test.YtghhjjmjpeehdaaGreatK5
namespace Go.Proofs.YtghhjjmjpeehdaaGreat
open Bk Go
set_option linter.unusedVariables false
set_option linter.unusedSimpArgs false
set_option maxRecDepth 10000
set_option maxHeartbeats 1000000 in
theorem o_r6_cut {w0 : World} {h0 : Mem}  (hs : MLe h0 (mem w0)) {k n m : Nat} {vl : Value} {l : (List (T3 Rat))} (rl : (rpS (rpT (rpQ k))).Is h0 vl l) {vs : Value} {s : ((T3 Rat) × Rat)} (rs : (rpP (rpT (rpQ n)) (rpQ m)).Is h0 vs s) (hcd0 : k ≤ 50000000) (hcd1 : m ≤ 1000000) (hcd2 : n ≤ 1000000) (hcd3 : l.length ≤ 100000)  :
    Calls Tryz.prog 15 #[vl, vs] w0 (Ret w0 h0 (fun h r => ∃ u0 u1, r = .tuple #[u0, u1] ∧ (rpS (rpT (rpQ (12 * k + 3 * m + 9 * n + 62)))).Is h u0 (tO s l) ∧ (rpS (rpT (rpQ (12 * k + 3 * m + 9 * n + 62)))).Is h u1 (sM s l))) := by
 refine zP (n := 97) (e := [(0, vl), (1, vs)]) (vs := [vl, vs]) Tryz.func15 rfl rfl (Nat.le_of_ble_eq_true rfl) hs ⟨rfl, rfl, trivial⟩ (zC (zA (zK (yY (ρ := (rpP (rpT (rpQ n)) (rpQ m))) rfl rs) rfl rfl rfl ?_)))
 intro v3 q3 hq3
 obtain ⟨b3, cs3, rfl, rfl, rb3⟩ := hq3
 refine asg rfl rfl (asg rfl rfl (zD (zB (zC (zA (asg rfl rfl (asg rfl rfl (zD (zB (zC (zA (asg rfl rfl (asg rfl rfl ?_)))))))))))))
 refine zD (zB (zC (zC (zA (asg (v := vI (0)) rfl rfl (zD (zB (zS (bB 32 9 ?_)))))))))
 have rl_1 : RL (rpT (rpQ (12 * k + 3 * m + 9 * n + 62))) h0 [] ([] : List (T3 Rat)) := RL.nil
 refine bB 32 9 ?_
 have rl_2 : RL (rpT (rpQ (12 * k + 3 * m + 9 * n + 62))) h0 [] ([] : List (T3 Rat)) := RL.nil
 refine wR (ι := Nat × List (T3 Rat) × List (T3 Rat) × Value × List Value × Value × List Value × Mem) (fun (i, B, F, s6_3, cs_4, s7_6, cs_7, mb) => MLe h0 mb ∧ (RL (rpT (rpQ (12 * k + 3 * m + 9 * n + 62))) mb cs_4 B ∧ RL (rpT (rpQ (12 * k + 3 * m + 9 * n + 62))) mb cs_7 F ∧ (i ≤ l.length ∧ B = cR s l i) ∧ F = bE s l i)) (fun (i, B, F, s6_3, cs_4, s7_6, cs_7, mb) => [(0, vl), (3, vP b3 0), (6, s6_3), (7, s7_6), (8, vB (qQ s l i)), (9, vB (qJ s l i)), (10, vI ↑i)]) (fun (i, B, F, s6_3, cs_4, s7_6, cs_7, mb) => [.gs 32 9 s7_6 F.length cs_7, .gs 32 9 s6_3 B.length cs_4, .var b3 34 cs3]) (fun (i, B, F, s6_3, cs_4, s7_6, cs_7, mb) => mb) (fun (i, B, F, s6_3, cs_4, s7_6, cs_7, mb) => l.length - i) (0, [], [], (.slice none 0 0), [], (.slice none 0 0), [], h0) ?_ ⟨?_, ?_, ?_, ?_, ?_, ?_, ?_, trivial⟩ rfl rfl ?_
 ·
  refine ⟨MLe.refl _, ?_⟩
  refine ⟨rl_1, rl_2, ?_⟩
  exact ⟨⟨by omega, rfl⟩, rfl⟩
 · exact rfl
 · exact rfl
 · exact rfl
 · exact rfl
 · exact congrArg some (yX id).symm
 · exact congrArg some (yX id).symm
 · exact rfl
 intro x hx
 obtain ⟨i, B, F, s6_3, cs_4, s7_6, cs_7, mb⟩ := x
 obtain ⟨hmmb, hinv⟩ := hx
 show GC _ _ _ _ _ _ [(0, vl), (3, vP b3 0), (6, s6_3), (7, s7_6), (8, vB (qQ s l i)), (9, vB (qJ s l i)), (10, vI ↑i)] [.gs 32 9 s7_6 F.length cs_7, .gs 32 9 s6_3 B.length cs_4, .var b3 34 cs3] mb
 obtain ⟨rl_5, rl_8, hinv⟩ := hinv
 obtain ⟨⟨hi1, hB⟩, hF⟩ := hinv
 have hbl := dU s l i
 have hfl := dR s l i
 have hBl : B.length ≤ 2 * i := by rw [hB]; exact hbl
 have hFl : F.length ≤ 2 * i := by rw [hF]; exact hfl
 refine zC (zC (zA (mv rfl rfl (mv rfl rfl ?_))))
 replace rl := rl.mono hmmb
 refine gv (vT Tryz.underlying27 rfl rl) rfl (gv (zW rfl rfl) rfl (zD (zB ?_)))
 refine zO rfl (fun hc19 => ?_) (fun hc19 => ?_)
 ·
  refine zL (zB (zC (zS (zC ?_))))
  refine yI 16 _ [(12, (11, 32, [.bool false, .slice none 0 0, .slice none 0 0, .bool false, .slice none 0 0, .slice none 0 0, .bool false, .slice none 0 0, .slice none 0 0])), (13, (12, 32, [.bool false, .slice none 0 0, .slice none 0 0, .bool false, .slice none 0 0, .slice none 0 0, .bool false, .slice none 0 0, .slice none 0 0]))] [(0, .q), (1, .q), (2, .q), (3, .q), (4, .q), (5, .q), (6, .q), (7, .q), (8, .q), (9, .q), (10, .q), (11, .q), (12, .a), (13, .a), (14, .c), (15, .c)] xI (jG.cons rfl (uT yB rfl rfl) (jG.cons rfl (uT yB rfl rfl) jG.nil)) (gD [0, 0, 3, 4, 0, 0, 32, 0, 128, 320, 528, 1024, 0, 0, 12303, 32767] [65535, 65535, 65532, 65531, 65535, 65535, 65503, 65535, 65407, 65215, 65007, 64511, 65535, 65535, 61431, 55295] (by kernel_rfl)) (uV rfl rfl (uV rfl rfl jY)) (fun r hr => hr) (w_q rfl (fun h' L' hh hR => zG rfl) rfl (w_q rfl (fun h' L' hh hR => zG rfl) rfl (yR (F := fun v_ => AtP (rpT (rpQ k)) mb v_ (l.getD i (T3.mk (0 : Rat) 0 0))) rfl (uR (T3.mk (0 : Rat) 0 0) i Tryz.underlying27 xG rfl rfl rl rfl (by omega) (show 0 < 9 from by decide)) uH rfl ?_)))
  intro v24 r24
  refine yR (F := fun v_ => (rpT (rpQ k)).Is mb v_ (l.getD i (T3.mk (0 : Rat) 0 0))) rfl (vM xG rfl r24) uH rfl ?_
  intro v25 r25
  refine w_q rfl (fun h' L' hh hR => zG rfl) rfl (w_q rfl (fun h' L' hh hR => zG rfl) rfl (w_q rfl (fun h' L' hh hR => zQ (q := 1) rfl rfl (by omega) (by omega)) rfl (w_q rfl (fun h' L' hh hR => zG rfl) rfl (w_q rfl (fun h' L' hh hR => vT Tryz.underlying27 rfl (rl.mono hh)) rfl (w_q rfl (fun h' L' hh hR => qC rfl rfl (by omega) (by omega)) rfl (yR (F := fun v_ => AtP (rpT (rpQ k)) mb v_ (l.getD ((i + 1) % l.length) (T3.mk (0 : Rat) 0 0))) rfl (uR (T3.mk (0 : Rat) 0 0) ((i + 1) % l.length) Tryz.underlying27 xG rfl rfl rl (by first | rfl | (push_cast; rfl)) (by exact Nat.mod_lt _ (by omega)) (show 0 < 9 from by decide)) uH rfl ?_))))))
  intro v32 r32
  refine yR (F := fun v_ => (rpT (rpQ k)).Is mb v_ (l.getD ((i + 1) % l.length) (T3.mk (0 : Rat) 0 0))) rfl (vM xG rfl r32) uH rfl ?_
  intro v33 r33
  refine w_a rfl (fun b11 => ?_)
  have rb11 : (rpT (rpQ (k + 1))).R mb [.bool false, .slice none 0 0, .slice none 0 0, .bool false, .slice none 0 0, .slice none 0 0, .bool false, .slice none 0 0, .slice none 0 0] (T3.mk (0 : Rat) 0 0) := (wI (wD (by omega)))
  refine w_a rfl (fun b12 => ?_)
  have rb12 : (rpT (rpQ (k + 1))).R mb [.bool false, .slice none 0 0, .slice none 0 0, .bool false, .slice none 0 0, .slice none 0 0, .bool false, .slice none 0 0, .slice none 0 0] (T3.mk (0 : Rat) 0 0) := (wI (wD (by omega)))
  refine w_c rfl (tB (A := [_]) (F := fun c_ => (rpT (rpQ (k + 1))).R mb c_ (l.getD i (T3.mk (0 : Rat) 0 0))) (yG Tryz.sizeOf32 (Pc.here _) rfl rfl rfl rb11 (r25.le (Le.t (Le.q (l := k + 1) (by omega)))) rfl) (xF (by first | (simp; done) | grind)) ?_)
  intro cs_9 rb_10
  refine w_c rfl (tB (A := []) (F := fun c_ => (rpT (rpQ (k + 1))).R mb c_ (l.getD ((i + 1) % l.length) (T3.mk (0 : Rat) 0 0))) (yG Tryz.sizeOf32 (Pc.here _) rfl rfl rfl rb12 (r33.le (Le.t (Le.q (l := k + 1) (by omega)))) rfl) (xF (by first | (simp; done) | grind)) ?_)
  intro cs_11 rb_12
  refine xB (zJ (e' := [(0, _), (3, _), (6, _), (7, _), (8, _), (9, _), (10, _), (11, _), (12, _)]) ⟨rfl, rfl, rfl, rfl, rfl, rfl, rfl, rfl, rfl, trivial⟩ (zB (zC ?_)))
  refine yI 8 _ [] [(0, .q), (1, .q), (3, .q), (4, .q), (2, .c), (5, .c), (6, .q), (7, .q)] xI (fun x hx => by cases hx) (by kernel_rfl) (fun x hx => by cases hx) (fun r hr => hr) ?_
  replace rb3 := rb3.mono hmmb
  refine yR (F := fun v_ => (rpP (rpT (rpQ n)) (rpQ m)).Is mb v_ s) rfl (zE kE (Pc.here _) rfl rfl rb3 rfl) (yF (.tail _ (.tail _ (.tail _ (.tail _ (.head _)))))) rfl ?_
  intro v34 r34
  refine yR (F := fun v_ => (rpT (rpQ (k + 1))).Is mb v_ (l.getD i (T3.mk (0 : Rat) 0 0))) rfl (zE xG (Pc.here _) rfl rfl rb_10 rfl) (yF (.tail _ (.head _))) rfl ?_
  intro v35 r35
  refine yR (F := fun v_ => (rpP (rpT (rpQ n)) (rpQ m)).Is mb v_ s) rfl (zE kE (Pc.here _) rfl rfl rb3 rfl) (yF (.tail _ (.tail _ (.tail _ (.tail _ (.head _)))))) rfl ?_
  intro v37 r37
  refine yR (F := fun v_ => (rpT (rpQ (k + 1))).Is mb v_ (l.getD ((i + 1) % l.length) (T3.mk (0 : Rat) 0 0))) rfl (zE xG (Pc.here _) rfl rfl rb_12 rfl) (yF (.head _)) rfl ?_
  intro v38 r38
  refine w_c rfl ?_
  refine yD (vs := [_, _]) Tryz.call25 ⟨rfl, rfl, trivial⟩ (fun w hs => lT hs r34 r35 (by omega) (by omega) (by omega)) rfl ?_
  intro v36 h1 hh1 r36
  obtain rfl : v36 = vI (sdZ s (l.getD i (T3.mk (0 : Rat) 0 0))) := r36
  have hsd36 := kY s (l.getD i (T3.mk (0 : Rat) 0 0))
  refine w_c rfl ?_
  replace r37 := r37.mono hh1
  replace r38 := r38.mono hh1
  refine yD (vs := [_, _]) Tryz.call25 ⟨rfl, rfl, trivial⟩ (fun w hs => lT hs r37 r38 (by omega) (by omega) (by omega)) rfl ?_
  intro v39 h2 hh2 r39
  obtain rfl : v39 = vI (sdZ s (l.getD ((i + 1) % l.length) (T3.mk (0 : Rat) 0 0))) := r39
  have hsd39 := kY s (l.getD ((i + 1) % l.length) (T3.mk (0 : Rat) 0 0))
  refine w_q rfl (fun h' L' hh hR => zY rfl) rfl (w_q rfl (fun h' L' hh hR => zY rfl) rfl (xB (zB (zC (zC (zA (mv rfl rfl (gv (sI (q := 0) rfl rfl) rfl (zD (zB ?_))))))))))
  refine zO rfl (fun hc41 => ?_) (fun hc41 => ?_)
  ·
   have hp1 : sdZ s (gp l i) ≤ 0 := hc41
   refine zA (mv rfl rfl ?_)
   replace rb_10 := rb_10.mono (hh1.trans hh2)
   refine wG (F := fun v_ => (rpT (rpQ (k + 1))).Is h2 v_ (l.getD i (T3.mk (0 : Rat) 0 0))) (zE xG (Pc.here _) rfl rfl rb_10 rfl) (yF (.tail _ (.head _))) rfl ?_
   intro v43 r43
   refine zK (yW (ρ := (rpT (rpQ (k + 1)))) (m := 1) (xs := [(l.getD i (T3.mk (0 : Rat) 0 0))]) (ps' := [(0, _)]) Tryz.underlying27 yB rfl rfl rfl (wI (wD (by omega))) ⟨rfl, rfl, trivial⟩ (yU rfl (Pc.arr (Pc.here _) (T3.mk (0 : Rat) 0 0) 0 (by decide)) r43 xY) (show 1 * 9 ≤ 16777216 from by decide) (show 0 < 9 from by decide)) rfl rfl rfl ?_
   intro v44 q44 hq44
   obtain ⟨cs44, rfl, rl44⟩ := hq44
   refine kD (A := []) (ρ := (rpT (rpQ (k + 1)))) rl44 ?_
   intro h3 hh3 rs_13
   replace rl_5 := rl_5.mono ((hh1.trans hh2).trans hh3)
   refine qN (A := [_, _, _]) (yM (ρ := (rpT (rpQ (12 * k + 3 * m + 9 * n + 62)))) (bytes := 168) Tryz.underlying27 yB rfl rfl rfl rfl (show 0 < 9 from by decide) rfl rfl rl_5 (rs_13.le (Le.s (Le.t (Le.q (l := 12 * k + 3 * m + 9 * n + 62) (by omega))))) (by first | omega | (simp only [List.length_append, List.length_cons, List.length_nil, List.length_replicate, List.length_set]; omega)) (by first | omega | (simp only [List.length_append, List.length_cons, List.length_nil, List.length_replicate, List.length_set]; omega))) rfl rfl rfl ?_
   intro v45 q45 hq45
   obtain ⟨cs45, rfl, rl45⟩ := hq45
   refine asg rfl rfl (zD (zJ (e' := [(0, _), (3, _), (7, _), (8, _), (9, _), (10, _), (11, _), (12, _), (13, _), (14, _), (6, _)]) ⟨rfl, rfl, rfl, rfl, rfl, rfl, rfl, rfl, rfl, rfl, rfl, trivial⟩ (zB (zC (zC (zA (mv rfl rfl (gv (qL (q := 0) rfl rfl) rfl (zD (zB ?_))))))))))
   refine zO rfl (fun hc47 => ?_) (fun hc47 => ?_)
   ·
    have hp2 : 0 ≤ sdZ s (gp l i) := hc47
    refine zA (mv rfl rfl ?_)
    replace rb_10 := rb_10.mono hh3
    refine wG (F := fun v_ => (rpT (rpQ (k + 1))).Is h3 v_ (l.getD i (T3.mk (0 : Rat) 0 0))) (zE xG (Pc.here _) rfl rfl rb_10 rfl) (yF (.tail _ (.head _))) rfl ?_
    intro v49 r49
    refine zK (yW (ρ := (rpT (rpQ (k + 1)))) (m := 1) (xs := [(l.getD i (T3.mk (0 : Rat) 0 0))]) (ps' := [(0, _)]) Tryz.underlying27 yB rfl rfl rfl (wI (wD (by omega))) ⟨rfl, rfl, trivial⟩ (yU rfl (Pc.arr (Pc.here _) (T3.mk (0 : Rat) 0 0) 0 (by decide)) r49 xY) (show 1 * 9 ≤ 16777216 from by decide) (show 0 < 9 from by decide)) rfl rfl rfl ?_
    intro v50 q50 hq50
    obtain ⟨cs50, rfl, rl50⟩ := hq50
    refine kD (A := []) (ρ := (rpT (rpQ (k + 1)))) rl50 ?_
    intro h4 hh4 rs_14
    replace rl_8 := rl_8.mono (((hh1.trans hh2).trans hh3).trans hh4)
    refine qN (A := [_, _]) (yM (ρ := (rpT (rpQ (12 * k + 3 * m + 9 * n + 62)))) (bytes := 168) Tryz.underlying27 yB rfl rfl rfl rfl (show 0 < 9 from by decide) rfl rfl rl_8 (rs_14.le (Le.s (Le.t (Le.q (l := 12 * k + 3 * m + 9 * n + 62) (by omega))))) (by first | omega | (simp only [List.length_append, List.length_cons, List.length_nil, List.length_replicate, List.length_set]; omega)) (by first | omega | (simp only [List.length_append, List.length_cons, List.length_nil, List.length_replicate, List.length_set]; omega))) rfl rfl rfl ?_
    intro v51 q51 hq51
    obtain ⟨cs51, rfl, rl51⟩ := hq51
    refine asg rfl rfl (zD (zB (zC (zA (mv rfl rfl ?_)))))
    refine vO (ι := Unit) 4 (fun _ => True) (fun _ => [(56, vB ((qQ s l i) ∨ ((sdZ s (l.getD i (T3.mk (0 : Rat) 0 0))) < (0 : Int)))), (0, vl), (3, vP b3 0), (9, vB (qJ s l i)), (10, vI ↑i), (11, vP b11 0), (12, vP b12 0), (13, vI (sdZ s (l.getD i (T3.mk (0 : Rat) 0 0)))), (14, vI (sdZ s (l.getD ((i + 1) % l.length) (T3.mk (0 : Rat) 0 0)))), (6, v45), (7, v51)]) (fun _ => [.var b12 32 cs_11, .var b11 32 cs_9, .gs 32 9 v51 (F ++ [(l.getD i (T3.mk (0 : Rat) 0 0))]).length cs51, .gs 32 9 v45 (B ++ [(l.getD i (T3.mk (0 : Rat) 0 0))]).length cs45, .var b3 34 cs3]) (fun _ => h4) ?_ ?_
    ·
     refine wM (qQ s l i) (fun hg => ?_) (fun hg => ?_)
     ·
      refine xH (zG (v := .bool true) (congrArg some (xS hg))) rfl rfl rfl (yL rfl rfl rfl rfl rfl rfl (yL rfl rfl rfl rfl rfl rfl (gv (xK rfl rfl) rfl (zD ?_))))
      refine yN () trivial ⟨?_, rfl, rfl, rfl, rfl, rfl, rfl, rfl, rfl, rfl, rfl, trivial⟩ rfl rfl
      exact congrArg some (qR hg)
     refine xH (zG (v := .bool false) (congrArg some (yX hg))) rfl rfl rfl (xA rfl rfl rfl (mv rfl rfl (xA rfl rfl rfl (gv (zW (q := 0) rfl rfl) rfl (gv (wB rfl rfl) rfl (zD ?_))))))
     refine yN () trivial ⟨?_, rfl, rfl, rfl, rfl, rfl, rfl, rfl, rfl, rfl, rfl, trivial⟩ rfl rfl
     exact congrArg some (qS hg)
    intro _ _
    show GL _ _ _ _ _ _ _ [(56, vB ((qQ s l i) ∨ ((sdZ s (l.getD i (T3.mk (0 : Rat) 0 0))) < (0 : Int)))), (0, vl), (3, vP b3 0), (9, vB (qJ s l i)), (10, vI ↑i), (11, vP b11 0), (12, vP b12 0), (13, vI (sdZ s (l.getD i (T3.mk (0 : Rat) 0 0)))), (14, vI (sdZ s (l.getD ((i + 1) % l.length) (T3.mk (0 : Rat) 0 0)))), (6, v45), (7, v51)] [.var b12 32 cs_11, .var b11 32 cs_9, .gs 32 9 v51 (F ++ [(l.getD i (T3.mk (0 : Rat) 0 0))]).length cs51, .gs 32 9 v45 (B ++ [(l.getD i (T3.mk (0 : Rat) 0 0))]).length cs45, .var b3 34 cs3] h4
    refine mv rfl rfl ?_
    refine vO (ι := Unit) 4 (fun _ => True) (fun _ => [(61, vB ((qJ s l i) ∨ ((0 : Int) < (sdZ s (l.getD i (T3.mk (0 : Rat) 0 0)))))), (0, vl), (3, vP b3 0), (10, vI ↑i), (11, vP b11 0), (12, vP b12 0), (13, vI (sdZ s (l.getD i (T3.mk (0 : Rat) 0 0)))), (14, vI (sdZ s (l.getD ((i + 1) % l.length) (T3.mk (0 : Rat) 0 0)))), (6, v45), (7, v51), (56, vB ((qQ s l i) ∨ ((sdZ s (l.getD i (T3.mk (0 : Rat) 0 0))) < (0 : Int))))]) (fun _ => [.var b12 32 cs_11, .var b11 32 cs_9, .gs 32 9 v51 (F ++ [(l.getD i (T3.mk (0 : Rat) 0 0))]).length cs51, .gs 32 9 v45 (B ++ [(l.getD i (T3.mk (0 : Rat) 0 0))]).length cs45, .var b3 34 cs3]) (fun _ => h4) ?_ ?_
    ·
     refine wM (qJ s l i) (fun hg => ?_) (fun hg => ?_)
     ·
      refine xH (zG (v := .bool true) (congrArg some (xS hg))) rfl rfl rfl (yL rfl rfl rfl rfl rfl rfl (yL rfl rfl rfl rfl rfl rfl (gv (xK rfl rfl) rfl (zD ?_))))
      refine yN () trivial ⟨?_, rfl, rfl, rfl, rfl, rfl, rfl, rfl, rfl, rfl, rfl, trivial⟩ rfl rfl
      exact congrArg some (qR hg)
     refine xH (zG (v := .bool false) (congrArg some (yX hg))) rfl rfl rfl (xA rfl rfl rfl (mv rfl rfl (xA rfl rfl rfl (gv (uS (q := 0) rfl rfl) rfl (gv (wB rfl rfl) rfl (zD ?_))))))
     refine yN () trivial ⟨?_, rfl, rfl, rfl, rfl, rfl, rfl, rfl, rfl, rfl, rfl, trivial⟩ rfl rfl
     exact congrArg some (qS hg)
    intro _ _
    show GL _ _ _ _ _ _ _ [(61, vB ((qJ s l i) ∨ ((0 : Int) < (sdZ s (l.getD i (T3.mk (0 : Rat) 0 0)))))), (0, vl), (3, vP b3 0), (10, vI ↑i), (11, vP b11 0), (12, vP b12 0), (13, vI (sdZ s (l.getD i (T3.mk (0 : Rat) 0 0)))), (14, vI (sdZ s (l.getD ((i + 1) % l.length) (T3.mk (0 : Rat) 0 0)))), (6, v45), (7, v51), (56, vB ((qQ s l i) ∨ ((sdZ s (l.getD i (T3.mk (0 : Rat) 0 0))) < (0 : Int))))] [.var b12 32 cs_11, .var b11 32 cs_9, .gs 32 9 v51 (F ++ [(l.getD i (T3.mk (0 : Rat) 0 0))]).length cs51, .gs 32 9 v45 (B ++ [(l.getD i (T3.mk (0 : Rat) 0 0))]).length cs45, .var b3 34 cs3] h4
    refine asg rfl rfl (asg rfl rfl (zD (zB (zC (zA (mv rfl rfl (mv rfl rfl (gv (jQ rfl rfl (by have := qI hsd36 hsd39; omega) (by have := qI hsd36 hsd39; omega)) rfl (gv (zW (q := 0) rfl rfl) rfl (zD (zB ?_)))))))))))
    refine zO rfl (fun hc65 => ?_) (fun hc65 => ?_)
    ·
     have hx1 : xP s l i := hc65
     refine zC (zA ?_)
     replace rb_10 := rb_10.mono hh4
     refine wG (F := fun v_ => (rpT (rpQ (k + 1))).Is h4 v_ (l.getD i (T3.mk (0 : Rat) 0 0))) (zE xG (Pc.here _) rfl rfl rb_10 rfl) (yF (.tail _ (.head _))) rfl ?_
     intro v66 r66
     replace rb_12 := rb_12.mono (((hh1.trans hh2).trans hh3).trans hh4)
     refine wG (F := fun v_ => (rpT (rpQ (k + 1))).Is h4 v_ (l.getD ((i + 1) % l.length) (T3.mk (0 : Rat) 0 0))) (zE xG (Pc.here _) rfl rfl rb_12 rfl) (yF (.head _)) rfl ?_
     intro v67 r67
     replace rb3 := rb3.mono (((hh1.trans hh2).trans hh3).trans hh4)
     refine wG (F := fun v_ => (rpP (rpT (rpQ n)) (rpQ m)).Is h4 v_ s) (zE kE (Pc.here _) rfl rfl rb3 rfl) (yF (.tail _ (.tail _ (.tail _ (.tail _ (.head _)))))) rfl ?_
     intro v68 r68
     refine zM (vs := [_, _, _]) rfl rfl rfl rfl Tryz.call49 ⟨rfl, rfl, rfl, trivial⟩ (fun w hs => tT hs r66 r67 r68 (by omega) (by omega) (by omega)) ?_
     intro v69 h5 hh5 r69
     change (rpT (rpQ (12 * (k + 1) + 3 * m + 9 * n + 50))).Is h5 v69 (btw s (l.getD i (T3.mk (0 : Rat) 0 0)) (l.getD ((i + 1) % l.length) (T3.mk (0 : Rat) 0 0))) at r69
     replace r69 := Rp.Is.le r69 (Le.t (Le.q (l := 12 * k + 3 * m + 9 * n + 62) (by omega)))
     refine zK (yZ (ρ := (rpT (rpQ 1))) (X := (T3.mk (0 : Rat) 0 0)) yB rfl rfl (wI (wD (by decide)))) rfl rfl rfl ?_
     intro v15 q15 hq15
     obtain ⟨b15, cs15, rfl, rfl, rb15⟩ := hq15
     have rw_15 := (Le.t (Le.q (l := 12 * k + 3 * m + 9 * n + 62) (by omega))).R rb15
     refine wE (A := []) (F := fun c_ => (rpT (rpQ (12 * k + 3 * m + 9 * n + 62))).R h5 c_ (btw s (l.getD i (T3.mk (0 : Rat) 0 0)) (l.getD ((i + 1) % l.length) (T3.mk (0 : Rat) 0 0)))) (yG Tryz.sizeOf32 (Pc.here _) rfl rfl rfl rw_15 r69 rfl) ?_
     intro cs_16 rb_17
     refine zD (zJ (e' := [(0, _), (3, _), (10, _), (6, _), (7, _), (8, _), (9, _), (15, _)]) ⟨rfl, rfl, rfl, rfl, rfl, rfl, rfl, rfl, trivial⟩ (zB ?_))
     refine yI 10 [.var b15 32 cs_16, .var b12 32 cs_11, .var b11 32 cs_9, .var b3 34 cs3] [] [(0, .q), (1, .q), (4, .q), (5, .q), (2, .d 3 6), (7, .c), (8, .q), (9, .q)] xI (fun x hx => by cases hx) (by kernel_rfl) (fun x hx => by cases hx) (by intro r hr; simp only [List.mem_cons, List.mem_append, List.not_mem_nil, or_false] at hr ⊢ <;> grind) (w_q rfl (fun h' L' hh hR => zG rfl) rfl (yR (F := fun v_ => (rpT (rpQ (12 * k + 3 * m + 9 * n + 62))).Is h5 v_ (btw s (l.getD i (T3.mk (0 : Rat) 0 0)) (l.getD ((i + 1) % l.length) (T3.mk (0 : Rat) 0 0)))) rfl (zE xG (Pc.here _) rfl rfl rb_17 rfl) (yF (.head _)) rfl ?_))
     intro v71 r71
     refine w_q rfl (fun h' L' hh hR => zG rfl) rfl (yR (F := fun v_ => (rpT (rpQ (12 * k + 3 * m + 9 * n + 62))).Is h5 v_ (btw s (l.getD i (T3.mk (0 : Rat) 0 0)) (l.getD ((i + 1) % l.length) (T3.mk (0 : Rat) 0 0)))) rfl (zE xG (Pc.here _) rfl rfl rb_17 rfl) (yF (.head _)) rfl ?_)
     intro v75 r75
     refine w_d rfl rfl rfl ?_ ?_
     ·
      refine uU (fun X => yW (ρ := (rpT (rpQ (12 * k + 3 * m + 9 * n + 62)))) (m := 1) (xs := [btw s (l.getD i (T3.mk (0 : Rat) 0 0)) (l.getD ((i + 1) % l.length) (T3.mk (0 : Rat) 0 0))]) (ps' := [(0, _)]) Tryz.underlying27 yB rfl rfl rfl (wI (wD (by omega))) ⟨rfl, rfl, trivial⟩ (yU rfl (Pc.arr (Pc.here _) (T3.mk (0 : Rat) 0 0) 0 (by decide)) r71 xY) (show 1 * 9 ≤ 16777216 from by decide) (show 0 < 9 from by decide)) rfl ?_
      intro v72 q72 hq72
      obtain ⟨cs72, rfl, rl72⟩ := hq72
      refine ⟨?_, ?_⟩
      ·
       refine xL (A := []) (ρ := (rpT (rpQ (12 * k + 3 * m + 9 * n + 62)))) rl72 (xM (by first | (simp; done) | grind)) ?_
       intro h6 hh6 rs_18
       replace rl45 := rl45.mono ((hh4.trans hh5).trans hh6)
       refine uC (A := [_, _, _, _]) (fun X => yM (ρ := (rpT (rpQ (12 * k + 3 * m + 9 * n + 62)))) (bytes := 168) Tryz.underlying27 yB rfl rfl rfl rfl (show 0 < 9 from by decide) rfl rfl rl45 rs_18 (by first | omega | (simp only [List.length_append, List.length_cons, List.length_nil, List.length_replicate, List.length_set]; omega)) (by first | omega | (simp only [List.length_append, List.length_cons, List.length_nil, List.length_replicate, List.length_set]; omega))) rfl (xF (by first | (simp; done) | grind)) ?_
       intro v73 q73 hq73
       obtain ⟨cs73, rfl, rl73⟩ := hq73
       replace r75 := r75.mono hh6
       refine uU (fun X => yW (ρ := (rpT (rpQ (12 * k + 3 * m + 9 * n + 62)))) (m := 1) (xs := [btw s (l.getD i (T3.mk (0 : Rat) 0 0)) (l.getD ((i + 1) % l.length) (T3.mk (0 : Rat) 0 0))]) (ps' := [(0, _)]) Tryz.underlying27 yB rfl rfl rfl (wI (wD (by omega))) ⟨rfl, rfl, trivial⟩ (yU rfl (Pc.arr (Pc.here _) (T3.mk (0 : Rat) 0 0) 0 (by decide)) r75 xY) (show 1 * 9 ≤ 16777216 from by decide) (show 0 < 9 from by decide)) rfl ?_
       intro v76 q76 hq76
       obtain ⟨cs76, rfl, rl76⟩ := hq76
       refine w_c rfl (xL (A := []) (ρ := (rpT (rpQ (12 * k + 3 * m + 9 * n + 62)))) rl76 (xM (by first | (simp; done) | grind)) ?_)
       intro h7 hh7 rs_19
       replace rl51 := rl51.mono ((hh5.trans hh6).trans hh7)
       refine uC (A := [_, _, _]) (fun X => yM (ρ := (rpT (rpQ (12 * k + 3 * m + 9 * n + 62)))) (bytes := 168) Tryz.underlying27 yB rfl rfl rfl rfl (show 0 < 9 from by decide) rfl rfl rl51 rs_19 (by first | omega | (simp only [List.length_append, List.length_cons, List.length_nil, List.length_replicate, List.length_set]; omega)) (by first | omega | (simp only [List.length_append, List.length_cons, List.length_nil, List.length_replicate, List.length_set]; omega))) rfl (xF (by first | (simp; done) | grind)) ?_
       intro v77 q77 hq77
       obtain ⟨cs77, rfl, rl77⟩ := hq77
       refine w_q rfl (fun h' L' hh hR => zY rfl) rfl (w_q rfl (fun h' L' hh hR => zY rfl) rfl (xB (yV (zB (zA (mv rfl rfl (gv (zQ (q := 1) rfl rfl (by omega) (by omega)) rfl (asg rfl rfl (zD (xC (A := []) (xC (A := []) (xC (A := []) ?_))))))))))))
       refine yQ ((i + 1), ((B ++ [(l.getD i (T3.mk (0 : Rat) 0 0))]) ++ [btw s (l.getD i (T3.mk (0 : Rat) 0 0)) (l.getD ((i + 1) % l.length) (T3.mk (0 : Rat) 0 0))]), ((F ++ [(l.getD i (T3.mk (0 : Rat) 0 0))]) ++ [btw s (l.getD i (T3.mk (0 : Rat) 0 0)) (l.getD ((i + 1) % l.length) (T3.mk (0 : Rat) 0 0))]), v73, cs73, v77, cs77, h7) ?_ ?_ ⟨rfl, rfl, rfl, rfl, rfl, rfl, rfl, trivial⟩ rfl rfl
       ·
        refine ⟨(((((((hmmb.trans hh1).trans hh2).trans hh3).trans hh4).trans hh5).trans hh6).trans hh7), ?_⟩
        replace rl73 := rl73.mono hh7
        refine ⟨rl73, rl77, ?_⟩
        exact ⟨⟨by omega, (by first | exact jF hB hp1 hx1 | exact gY hB hp1 hx1 | exact fF hB hp1 hx1 | exact fG hB hp1 hx1)⟩, (by first | exact jE hF hp2 hx1 | exact gX hF hp2 hx1 | exact fD hF hp2 hx1 | exact fE hF hp2 hx1)⟩
       dsimp only
       omega
      refine uU (fun X => yW (ρ := (rpT (rpQ (12 * k + 3 * m + 9 * n + 62)))) (m := 1) (xs := [btw s (l.getD i (T3.mk (0 : Rat) 0 0)) (l.getD ((i + 1) % l.length) (T3.mk (0 : Rat) 0 0))]) (ps' := [(0, _)]) Tryz.underlying27 yB rfl rfl rfl (wI (wD (by omega))) ⟨rfl, rfl, trivial⟩ (yU rfl (Pc.arr (Pc.here _) (T3.mk (0 : Rat) 0 0) 0 (by decide)) r75 xY) (show 1 * 9 ≤ 16777216 from by decide) (show 0 < 9 from by decide)) rfl ?_
      intro v76 q76 hq76
      obtain ⟨cs76, rfl, rl76⟩ := hq76
      refine xL (A := [_]) (ρ := (rpT (rpQ (12 * k + 3 * m + 9 * n + 62)))) rl72 (xM (by first | (simp; done) | grind)) ?_
      intro h6 hh6 rs_20
      replace rl45 := rl45.mono ((hh4.trans hh5).trans hh6)
      refine uC (A := [_, _, _, _, _]) (fun X => yM (ρ := (rpT (rpQ (12 * k + 3 * m + 9 * n + 62)))) (bytes := 168) Tryz.underlying27 yB rfl rfl rfl rfl (show 0 < 9 from by decide) rfl rfl rl45 rs_20 (by first | omega | (simp only [List.length_append, List.length_cons, List.length_nil, List.length_replicate, List.length_set]; omega)) (by first | omega | (simp only [List.length_append, List.length_cons, List.length_nil, List.length_replicate, List.length_set]; omega))) rfl (xF (by first | (simp; done) | grind)) ?_
      intro v73 q73 hq73
      obtain ⟨cs73, rfl, rl73⟩ := hq73
      refine w_c rfl ?_
      replace rl76 := rl76.mono hh6
      refine xL (A := []) (ρ := (rpT (rpQ (12 * k + 3 * m + 9 * n + 62)))) rl76 (xM (by first | (simp; done) | grind)) ?_
      intro h7 hh7 rs_21
      replace rl51 := rl51.mono ((hh5.trans hh6).trans hh7)
      refine uC (A := [_, _, _]) (fun X => yM (ρ := (rpT (rpQ (12 * k + 3 * m + 9 * n + 62)))) (bytes := 168) Tryz.underlying27 yB rfl rfl rfl rfl (show 0 < 9 from by decide) rfl rfl rl51 rs_21 (by first | omega | (simp only [List.length_append, List.length_cons, List.length_nil, List.length_replicate, List.length_set]; omega)) (by first | omega | (simp only [List.length_append, List.length_cons, List.length_nil, List.length_replicate, List.length_set]; omega))) rfl (xF (by first | (simp; done) | grind)) ?_
      intro v77 q77 hq77
      obtain ⟨cs77, rfl, rl77⟩ := hq77
      refine w_q rfl (fun h' L' hh hR => zY rfl) rfl (w_q rfl (fun h' L' hh hR => zY rfl) rfl (xB (yV (zB (zA (mv rfl rfl (gv (zQ (q := 1) rfl rfl (by omega) (by omega)) rfl (asg rfl rfl (zD (xC (A := []) (xC (A := []) (xC (A := []) ?_))))))))))))
      refine yQ ((i + 1), ((B ++ [(l.getD i (T3.mk (0 : Rat) 0 0))]) ++ [btw s (l.getD i (T3.mk (0 : Rat) 0 0)) (l.getD ((i + 1) % l.length) (T3.mk (0 : Rat) 0 0))]), ((F ++ [(l.getD i (T3.mk (0 : Rat) 0 0))]) ++ [btw s (l.getD i (T3.mk (0 : Rat) 0 0)) (l.getD ((i + 1) % l.length) (T3.mk (0 : Rat) 0 0))]), v73, cs73, v77, cs77, h7) ?_ ?_ ⟨rfl, rfl, rfl, rfl, rfl, rfl, rfl, trivial⟩ rfl rfl
      ·
       refine ⟨(((((((hmmb.trans hh1).trans hh2).trans hh3).trans hh4).trans hh5).trans hh6).trans hh7), ?_⟩
       replace rl73 := rl73.mono hh7
       refine ⟨rl73, rl77, ?_⟩
       exact ⟨⟨by omega, (by first | exact jF hB hp1 hx1 | exact gY hB hp1 hx1 | exact fF hB hp1 hx1 | exact fG hB hp1 hx1)⟩, (by first | exact jE hF hp2 hx1 | exact gX hF hp2 hx1 | exact fD hF hp2 hx1 | exact fE hF hp2 hx1)⟩
      dsimp only
      omega
     refine uU (fun X => yW (ρ := (rpT (rpQ (12 * k + 3 * m + 9 * n + 62)))) (m := 1) (xs := [btw s (l.getD i (T3.mk (0 : Rat) 0 0)) (l.getD ((i + 1) % l.length) (T3.mk (0 : Rat) 0 0))]) (ps' := [(0, _)]) Tryz.underlying27 yB rfl rfl rfl (wI (wD (by omega))) ⟨rfl, rfl, trivial⟩ (yU rfl (Pc.arr (Pc.here _) (T3.mk (0 : Rat) 0 0) 0 (by decide)) r75 xY) (show 1 * 9 ≤ 16777216 from by decide) (show 0 < 9 from by decide)) rfl ?_
     intro v76 q76 hq76
     obtain ⟨cs76, rfl, rl76⟩ := hq76
     refine uU (fun X => yW (ρ := (rpT (rpQ (12 * k + 3 * m + 9 * n + 62)))) (m := 1) (xs := [btw s (l.getD i (T3.mk (0 : Rat) 0 0)) (l.getD ((i + 1) % l.length) (T3.mk (0 : Rat) 0 0))]) (ps' := [(0, _)]) Tryz.underlying27 yB rfl rfl rfl (wI (wD (by omega))) ⟨rfl, rfl, trivial⟩ (yU rfl (Pc.arr (Pc.here _) (T3.mk (0 : Rat) 0 0) 0 (by decide)) r71 xY) (show 1 * 9 ≤ 16777216 from by decide) (show 0 < 9 from by decide)) rfl ?_
     intro v72 q72 hq72
     obtain ⟨cs72, rfl, rl72⟩ := hq72
     refine xL (A := []) (ρ := (rpT (rpQ (12 * k + 3 * m + 9 * n + 62)))) rl72 (xM (by first | (simp; done) | grind)) ?_
     intro h6 hh6 rs_22
     replace rl45 := rl45.mono ((hh4.trans hh5).trans hh6)
     refine uC (A := [_, _, _, _, _]) (fun X => yM (ρ := (rpT (rpQ (12 * k + 3 * m + 9 * n + 62)))) (bytes := 168) Tryz.underlying27 yB rfl rfl rfl rfl (show 0 < 9 from by decide) rfl rfl rl45 rs_22 (by first | omega | (simp only [List.length_append, List.length_cons, List.length_nil, List.length_replicate, List.length_set]; omega)) (by first | omega | (simp only [List.length_append, List.length_cons, List.length_nil, List.length_replicate, List.length_set]; omega))) rfl (xF (by first | (simp; done) | grind)) ?_
     intro v73 q73 hq73
     obtain ⟨cs73, rfl, rl73⟩ := hq73
     refine w_c rfl ?_
     replace rl76 := rl76.mono hh6
     refine xL (A := []) (ρ := (rpT (rpQ (12 * k + 3 * m + 9 * n + 62)))) rl76 (xM (by first | (simp; done) | grind)) ?_
     intro h7 hh7 rs_23
     replace rl51 := rl51.mono ((hh5.trans hh6).trans hh7)
     refine uC (A := [_, _, _]) (fun X => yM (ρ := (rpT (rpQ (12 * k + 3 * m + 9 * n + 62)))) (bytes := 168) Tryz.underlying27 yB rfl rfl rfl rfl (show 0 < 9 from by decide) rfl rfl rl51 rs_23 (by first | omega | (simp only [List.length_append, List.length_cons, List.length_nil, List.length_replicate, List.length_set]; omega)) (by first | omega | (simp only [List.length_append, List.length_cons, List.length_nil, List.length_replicate, List.length_set]; omega))) rfl (xF (by first | (simp; done) | grind)) ?_
     intro v77 q77 hq77
     obtain ⟨cs77, rfl, rl77⟩ := hq77
     refine w_q rfl (fun h' L' hh hR => zY rfl) rfl (w_q rfl (fun h' L' hh hR => zY rfl) rfl (xB (yV (zB (zA (mv rfl rfl (gv (zQ (q := 1) rfl rfl (by omega) (by omega)) rfl (asg rfl rfl (zD (xC (A := []) (xC (A := []) (xC (A := []) ?_))))))))))))
     refine yQ ((i + 1), ((B ++ [(l.getD i (T3.mk (0 : Rat) 0 0))]) ++ [btw s (l.getD i (T3.mk (0 : Rat) 0 0)) (l.getD ((i + 1) % l.length) (T3.mk (0 : Rat) 0 0))]), ((F ++ [(l.getD i (T3.mk (0 : Rat) 0 0))]) ++ [btw s (l.getD i (T3.mk (0 : Rat) 0 0)) (l.getD ((i + 1) % l.length) (T3.mk (0 : Rat) 0 0))]), v73, cs73, v77, cs77, h7) ?_ ?_ ⟨rfl, rfl, rfl, rfl, rfl, rfl, rfl, trivial⟩ rfl rfl
     ·
      refine ⟨(((((((hmmb.trans hh1).trans hh2).trans hh3).trans hh4).trans hh5).trans hh6).trans hh7), ?_⟩
      replace rl73 := rl73.mono hh7
      refine ⟨rl73, rl77, ?_⟩
      exact ⟨⟨by omega, (by first | exact jF hB hp1 hx1 | exact gY hB hp1 hx1 | exact fF hB hp1 hx1 | exact fG hB hp1 hx1)⟩, (by first | exact jE hF hp2 hx1 | exact gX hF hp2 hx1 | exact fD hF hp2 hx1 | exact fE hF hp2 hx1)⟩
     dsimp only
     omega
    have hx1 : ¬ xP s l i := hc65
    refine wH (e' := [(0, _), (3, _), (10, _), (6, _), (7, _), (8, _), (9, _)]) ⟨rfl, rfl, rfl, rfl, rfl, rfl, rfl, trivial⟩ (zL (yV (zB (zA (mv rfl rfl (gv (zQ (q := 1) rfl rfl (by omega) (by omega)) rfl (asg rfl rfl (zD (xC (A := []) (xC (A := []) ?_))))))))))
    refine yQ ((i + 1), (B ++ [(l.getD i (T3.mk (0 : Rat) 0 0))]), (F ++ [(l.getD i (T3.mk (0 : Rat) 0 0))]), v45, cs45, v51, cs51, h4) ?_ ?_ ⟨rfl, rfl, rfl, rfl, rfl, rfl, rfl, trivial⟩ rfl rfl
    ·
     refine ⟨((((hmmb.trans hh1).trans hh2).trans hh3).trans hh4), ?_⟩
     replace rl45 := rl45.mono hh4
     refine ⟨rl45, rl51, ?_⟩
     exact ⟨⟨by omega, (by first | exact jF hB hp1 hx1 | exact gY hB hp1 hx1 | exact fF hB hp1 hx1 | exact fG hB hp1 hx1)⟩, (by first | exact jE hF hp2 hx1 | exact gX hF hp2 hx1 | exact fD hF hp2 hx1 | exact fE hF hp2 hx1)⟩
    dsimp only
    omega
   have hp2 : ¬ 0 ≤ sdZ s (gp l i) := hc47
   refine zL (zB (zC (zA (mv rfl rfl ?_))))
   refine vO (ι := Unit) 4 (fun _ => True) (fun _ => [(56, vB ((qQ s l i) ∨ ((sdZ s (l.getD i (T3.mk (0 : Rat) 0 0))) < (0 : Int)))), (0, vl), (3, vP b3 0), (7, s7_6), (9, vB (qJ s l i)), (10, vI ↑i), (11, vP b11 0), (12, vP b12 0), (13, vI (sdZ s (l.getD i (T3.mk (0 : Rat) 0 0)))), (14, vI (sdZ s (l.getD ((i + 1) % l.length) (T3.mk (0 : Rat) 0 0)))), (6, v45)]) (fun _ => [.var b12 32 cs_11, .var b11 32 cs_9, .gs 32 9 s7_6 F.length cs_7, .gs 32 9 v45 (B ++ [(l.getD i (T3.mk (0 : Rat) 0 0))]).length cs45, .var b3 34 cs3]) (fun _ => h3) ?_ ?_
   ·
    refine wM (qQ s l i) (fun hg => ?_) (fun hg => ?_)
    ·
     refine xH (zG (v := .bool true) (congrArg some (xS hg))) rfl rfl rfl (yL rfl rfl rfl rfl rfl rfl (yL rfl rfl rfl rfl rfl rfl (gv (xK rfl rfl) rfl (zD ?_))))
     refine yN () trivial ⟨?_, rfl, rfl, rfl, rfl, rfl, rfl, rfl, rfl, rfl, rfl, trivial⟩ rfl rfl
     exact congrArg some (qR hg)
    refine xH (zG (v := .bool false) (congrArg some (yX hg))) rfl rfl rfl (xA rfl rfl rfl (mv rfl rfl (xA rfl rfl rfl (gv (zW (q := 0) rfl rfl) rfl (gv (wB rfl rfl) rfl (zD ?_))))))
    refine yN () trivial ⟨?_, rfl, rfl, rfl, rfl, rfl, rfl, rfl, rfl, rfl, rfl, trivial⟩ rfl rfl
    exact congrArg some (qS hg)
   intro _ _
   show GL _ _ _ _ _ _ _ [(56, vB ((qQ s l i) ∨ ((sdZ s (l.getD i (T3.mk (0 : Rat) 0 0))) < (0 : Int)))), (0, vl), (3, vP b3 0), (7, s7_6), (9, vB (qJ s l i)), (10, vI ↑i), (11, vP b11 0), (12, vP b12 0), (13, vI (sdZ s (l.getD i (T3.mk (0 : Rat) 0 0)))), (14, vI (sdZ s (l.getD ((i + 1) % l.length) (T3.mk (0 : Rat) 0 0)))), (6, v45)] [.var b12 32 cs_11, .var b11 32 cs_9, .gs 32 9 s7_6 F.length cs_7, .gs 32 9 v45 (B ++ [(l.getD i (T3.mk (0 : Rat) 0 0))]).length cs45, .var b3 34 cs3] h3
   refine mv rfl rfl ?_
   refine vO (ι := Unit) 4 (fun _ => True) (fun _ => [(61, vB ((qJ s l i) ∨ ((0 : Int) < (sdZ s (l.getD i (T3.mk (0 : Rat) 0 0)))))), (0, vl), (3, vP b3 0), (7, s7_6), (10, vI ↑i), (11, vP b11 0), (12, vP b12 0), (13, vI (sdZ s (l.getD i (T3.mk (0 : Rat) 0 0)))), (14, vI (sdZ s (l.getD ((i + 1) % l.length) (T3.mk (0 : Rat) 0 0)))), (6, v45), (56, vB ((qQ s l i) ∨ ((sdZ s (l.getD i (T3.mk (0 : Rat) 0 0))) < (0 : Int))))]) (fun _ => [.var b12 32 cs_11, .var b11 32 cs_9, .gs 32 9 s7_6 F.length cs_7, .gs 32 9 v45 (B ++ [(l.getD i (T3.mk (0 : Rat) 0 0))]).length cs45, .var b3 34 cs3]) (fun _ => h3) ?_ ?_
   ·
    refine wM (qJ s l i) (fun hg => ?_) (fun hg => ?_)
    ·
     refine xH (zG (v := .bool true) (congrArg some (xS hg))) rfl rfl rfl (yL rfl rfl rfl rfl rfl rfl (yL rfl rfl rfl rfl rfl rfl (gv (xK rfl rfl) rfl (zD ?_))))
     refine yN () trivial ⟨?_, rfl, rfl, rfl, rfl, rfl, rfl, rfl, rfl, rfl, rfl, trivial⟩ rfl rfl
     exact congrArg some (qR hg)
    refine xH (zG (v := .bool false) (congrArg some (yX hg))) rfl rfl rfl (xA rfl rfl rfl (mv rfl rfl (xA rfl rfl rfl (gv (uS (q := 0) rfl rfl) rfl (gv (wB rfl rfl) rfl (zD ?_))))))
    refine yN () trivial ⟨?_, rfl, rfl, rfl, rfl, rfl, rfl, rfl, rfl, rfl, rfl, trivial⟩ rfl rfl
    exact congrArg some (qS hg)
   intro _ _
   show GL _ _ _ _ _ _ _ [(61, vB ((qJ s l i) ∨ ((0 : Int) < (sdZ s (l.getD i (T3.mk (0 : Rat) 0 0)))))), (0, vl), (3, vP b3 0), (7, s7_6), (10, vI ↑i), (11, vP b11 0), (12, vP b12 0), (13, vI (sdZ s (l.getD i (T3.mk (0 : Rat) 0 0)))), (14, vI (sdZ s (l.getD ((i + 1) % l.length) (T3.mk (0 : Rat) 0 0)))), (6, v45), (56, vB ((qQ s l i) ∨ ((sdZ s (l.getD i (T3.mk (0 : Rat) 0 0))) < (0 : Int))))] [.var b12 32 cs_11, .var b11 32 cs_9, .gs 32 9 s7_6 F.length cs_7, .gs 32 9 v45 (B ++ [(l.getD i (T3.mk (0 : Rat) 0 0))]).length cs45, .var b3 34 cs3] h3
   refine asg rfl rfl (asg rfl rfl (zD (zB (zC (zA (mv rfl rfl (mv rfl rfl (gv (jQ rfl rfl (by have := qI hsd36 hsd39; omega) (by have := qI hsd36 hsd39; omega)) rfl (gv (zW (q := 0) rfl rfl) rfl (zD (zB ?_)))))))))))
   refine zO rfl (fun hc65 => ?_) (fun hc65 => ?_)
   ·
    have hx1 : xP s l i := hc65
    refine zC (zA ?_)
    replace rb_10 := rb_10.mono hh3
    refine wG (F := fun v_ => (rpT (rpQ (k + 1))).Is h3 v_ (l.getD i (T3.mk (0 : Rat) 0 0))) (zE xG (Pc.here _) rfl rfl rb_10 rfl) (yF (.tail _ (.head _))) rfl ?_
    intro v66 r66
    replace rb_12 := rb_12.mono ((hh1.trans hh2).trans hh3)
    refine wG (F := fun v_ => (rpT (rpQ (k + 1))).Is h3 v_ (l.getD ((i + 1) % l.length) (T3.mk (0 : Rat) 0 0))) (zE xG (Pc.here _) rfl rfl rb_12 rfl) (yF (.head _)) rfl ?_
    intro v67 r67
    replace rb3 := rb3.mono ((hh1.trans hh2).trans hh3)
    refine wG (F := fun v_ => (rpP (rpT (rpQ n)) (rpQ m)).Is h3 v_ s) (zE kE (Pc.here _) rfl rfl rb3 rfl) (yF (.tail _ (.tail _ (.tail _ (.tail _ (.head _)))))) rfl ?_
    intro v68 r68
    refine zM (vs := [_, _, _]) rfl rfl rfl rfl Tryz.call49 ⟨rfl, rfl, rfl, trivial⟩ (fun w hs => tT hs r66 r67 r68 (by omega) (by omega) (by omega)) ?_
    intro v69 h4 hh4 r69
    change (rpT (rpQ (12 * (k + 1) + 3 * m + 9 * n + 50))).Is h4 v69 (btw s (l.getD i (T3.mk (0 : Rat) 0 0)) (l.getD ((i + 1) % l.length) (T3.mk (0 : Rat) 0 0))) at r69
    replace r69 := Rp.Is.le r69 (Le.t (Le.q (l := 12 * k + 3 * m + 9 * n + 62) (by omega)))
    refine zK (yZ (ρ := (rpT (rpQ 1))) (X := (T3.mk (0 : Rat) 0 0)) yB rfl rfl (wI (wD (by decide)))) rfl rfl rfl ?_
    intro v15 q15 hq15
    obtain ⟨b15, cs15, rfl, rfl, rb15⟩ := hq15
    have rw_24 := (Le.t (Le.q (l := 12 * k + 3 * m + 9 * n + 62) (by omega))).R rb15
    refine wE (A := []) (F := fun c_ => (rpT (rpQ (12 * k + 3 * m + 9 * n + 62))).R h4 c_ (btw s (l.getD i (T3.mk (0 : Rat) 0 0)) (l.getD ((i + 1) % l.length) (T3.mk (0 : Rat) 0 0)))) (yG Tryz.sizeOf32 (Pc.here _) rfl rfl rfl rw_24 r69 rfl) ?_
    intro cs_25 rb_26
    refine zD (zJ (e' := [(0, _), (3, _), (7, _), (10, _), (6, _), (8, _), (9, _), (15, _)]) ⟨rfl, rfl, rfl, rfl, rfl, rfl, rfl, rfl, trivial⟩ (zB ?_))
    refine yI 10 [.var b15 32 cs_25, .var b12 32 cs_11, .var b11 32 cs_9, .var b3 34 cs3] [] [(0, .q), (1, .q), (4, .q), (5, .q), (2, .d 3 6), (7, .c), (8, .q), (9, .q)] xI (fun x hx => by cases hx) (by kernel_rfl) (fun x hx => by cases hx) (by intro r hr; simp only [List.mem_cons, List.mem_append, List.not_mem_nil, or_false] at hr ⊢ <;> grind) (w_q rfl (fun h' L' hh hR => zG rfl) rfl (yR (F := fun v_ => (rpT (rpQ (12 * k + 3 * m + 9 * n + 62))).Is h4 v_ (btw s (l.getD i (T3.mk (0 : Rat) 0 0)) (l.getD ((i + 1) % l.length) (T3.mk (0 : Rat) 0 0)))) rfl (zE xG (Pc.here _) rfl rfl rb_26 rfl) (yF (.head _)) rfl ?_))
    intro v71 r71
    refine w_q rfl (fun h' L' hh hR => zG rfl) rfl (yR (F := fun v_ => (rpT (rpQ (12 * k + 3 * m + 9 * n + 62))).Is h4 v_ (btw s (l.getD i (T3.mk (0 : Rat) 0 0)) (l.getD ((i + 1) % l.length) (T3.mk (0 : Rat) 0 0)))) rfl (zE xG (Pc.here _) rfl rfl rb_26 rfl) (yF (.head _)) rfl ?_)
    intro v75 r75
    refine w_d rfl rfl rfl ?_ ?_
    ·
     refine uU (fun X => yW (ρ := (rpT (rpQ (12 * k + 3 * m + 9 * n + 62)))) (m := 1) (xs := [btw s (l.getD i (T3.mk (0 : Rat) 0 0)) (l.getD ((i + 1) % l.length) (T3.mk (0 : Rat) 0 0))]) (ps' := [(0, _)]) Tryz.underlying27 yB rfl rfl rfl (wI (wD (by omega))) ⟨rfl, rfl, trivial⟩ (yU rfl (Pc.arr (Pc.here _) (T3.mk (0 : Rat) 0 0) 0 (by decide)) r71 xY) (show 1 * 9 ≤ 16777216 from by decide) (show 0 < 9 from by decide)) rfl ?_
     intro v72 q72 hq72
     obtain ⟨cs72, rfl, rl72⟩ := hq72
     refine ⟨?_, ?_⟩
     ·
      refine xL (A := []) (ρ := (rpT (rpQ (12 * k + 3 * m + 9 * n + 62)))) rl72 (xM (by first | (simp; done) | grind)) ?_
      intro h5 hh5 rs_27
      replace rl45 := rl45.mono (hh4.trans hh5)
      refine uC (A := [_, _, _, _]) (fun X => yM (ρ := (rpT (rpQ (12 * k + 3 * m + 9 * n + 62)))) (bytes := 168) Tryz.underlying27 yB rfl rfl rfl rfl (show 0 < 9 from by decide) rfl rfl rl45 rs_27 (by first | omega | (simp only [List.length_append, List.length_cons, List.length_nil, List.length_replicate, List.length_set]; omega)) (by first | omega | (simp only [List.length_append, List.length_cons, List.length_nil, List.length_replicate, List.length_set]; omega))) rfl (xF (by first | (simp; done) | grind)) ?_
      intro v73 q73 hq73
      obtain ⟨cs73, rfl, rl73⟩ := hq73
      replace r75 := r75.mono hh5
      refine uU (fun X => yW (ρ := (rpT (rpQ (12 * k + 3 * m + 9 * n + 62)))) (m := 1) (xs := [btw s (l.getD i (T3.mk (0 : Rat) 0 0)) (l.getD ((i + 1) % l.length) (T3.mk (0 : Rat) 0 0))]) (ps' := [(0, _)]) Tryz.underlying27 yB rfl rfl rfl (wI (wD (by omega))) ⟨rfl, rfl, trivial⟩ (yU rfl (Pc.arr (Pc.here _) (T3.mk (0 : Rat) 0 0) 0 (by decide)) r75 xY) (show 1 * 9 ≤ 16777216 from by decide) (show 0 < 9 from by decide)) rfl ?_
      intro v76 q76 hq76
      obtain ⟨cs76, rfl, rl76⟩ := hq76
      refine w_c rfl (xL (A := []) (ρ := (rpT (rpQ (12 * k + 3 * m + 9 * n + 62)))) rl76 (xM (by first | (simp; done) | grind)) ?_)
      intro h6 hh6 rs_28
      replace rl_8 := rl_8.mono (((((hh1.trans hh2).trans hh3).trans hh4).trans hh5).trans hh6)
      refine uC (A := [_, _, _]) (fun X => yM (ρ := (rpT (rpQ (12 * k + 3 * m + 9 * n + 62)))) (bytes := 168) Tryz.underlying27 yB rfl rfl rfl rfl (show 0 < 9 from by decide) rfl rfl rl_8 rs_28 (by first | omega | (simp only [List.length_append, List.length_cons, List.length_nil, List.length_replicate, List.length_set]; omega)) (by first | omega | (simp only [List.length_append, List.length_cons, List.length_nil, List.length_replicate, List.length_set]; omega))) rfl (xF (by first | (simp; done) | grind)) ?_
      intro v77 q77 hq77
      obtain ⟨cs77, rfl, rl77⟩ := hq77
      refine w_q rfl (fun h' L' hh hR => zY rfl) rfl (w_q rfl (fun h' L' hh hR => zY rfl) rfl (xB (yV (zB (zA (mv rfl rfl (gv (zQ (q := 1) rfl rfl (by omega) (by omega)) rfl (asg rfl rfl (zD (xC (A := []) (xC (A := []) (xC (A := []) ?_))))))))))))
      refine yQ ((i + 1), ((B ++ [(l.getD i (T3.mk (0 : Rat) 0 0))]) ++ [btw s (l.getD i (T3.mk (0 : Rat) 0 0)) (l.getD ((i + 1) % l.length) (T3.mk (0 : Rat) 0 0))]), (F ++ [btw s (l.getD i (T3.mk (0 : Rat) 0 0)) (l.getD ((i + 1) % l.length) (T3.mk (0 : Rat) 0 0))]), v73, cs73, v77, cs77, h6) ?_ ?_ ⟨rfl, rfl, rfl, rfl, rfl, rfl, rfl, trivial⟩ rfl rfl
      ·
       refine ⟨((((((hmmb.trans hh1).trans hh2).trans hh3).trans hh4).trans hh5).trans hh6), ?_⟩
       replace rl73 := rl73.mono hh6
       refine ⟨rl73, rl77, ?_⟩
       exact ⟨⟨by omega, (by first | exact jF hB hp1 hx1 | exact gY hB hp1 hx1 | exact fF hB hp1 hx1 | exact fG hB hp1 hx1)⟩, (by first | exact jE hF hp2 hx1 | exact gX hF hp2 hx1 | exact fD hF hp2 hx1 | exact fE hF hp2 hx1)⟩
      dsimp only
      omega
     refine uU (fun X => yW (ρ := (rpT (rpQ (12 * k + 3 * m + 9 * n + 62)))) (m := 1) (xs := [btw s (l.getD i (T3.mk (0 : Rat) 0 0)) (l.getD ((i + 1) % l.length) (T3.mk (0 : Rat) 0 0))]) (ps' := [(0, _)]) Tryz.underlying27 yB rfl rfl rfl (wI (wD (by omega))) ⟨rfl, rfl, trivial⟩ (yU rfl (Pc.arr (Pc.here _) (T3.mk (0 : Rat) 0 0) 0 (by decide)) r75 xY) (show 1 * 9 ≤ 16777216 from by decide) (show 0 < 9 from by decide)) rfl ?_
     intro v76 q76 hq76
     obtain ⟨cs76, rfl, rl76⟩ := hq76
     refine xL (A := [_]) (ρ := (rpT (rpQ (12 * k + 3 * m + 9 * n + 62)))) rl72 (xM (by first | (simp; done) | grind)) ?_
     intro h5 hh5 rs_29
     replace rl45 := rl45.mono (hh4.trans hh5)
     refine uC (A := [_, _, _, _, _]) (fun X => yM (ρ := (rpT (rpQ (12 * k + 3 * m + 9 * n + 62)))) (bytes := 168) Tryz.underlying27 yB rfl rfl rfl rfl (show 0 < 9 from by decide) rfl rfl rl45 rs_29 (by first | omega | (simp only [List.length_append, List.length_cons, List.length_nil, List.length_replicate, List.length_set]; omega)) (by first | omega | (simp only [List.length_append, List.length_cons, List.length_nil, List.length_replicate, List.length_set]; omega))) rfl (xF (by first | (simp; done) | grind)) ?_
     intro v73 q73 hq73
     obtain ⟨cs73, rfl, rl73⟩ := hq73
     refine w_c rfl ?_
     replace rl76 := rl76.mono hh5
     refine xL (A := []) (ρ := (rpT (rpQ (12 * k + 3 * m + 9 * n + 62)))) rl76 (xM (by first | (simp; done) | grind)) ?_
     intro h6 hh6 rs_30
     replace rl_8 := rl_8.mono (((((hh1.trans hh2).trans hh3).trans hh4).trans hh5).trans hh6)
     refine uC (A := [_, _, _]) (fun X => yM (ρ := (rpT (rpQ (12 * k + 3 * m + 9 * n + 62)))) (bytes := 168) Tryz.underlying27 yB rfl rfl rfl rfl (show 0 < 9 from by decide) rfl rfl rl_8 rs_30 (by first | omega | (simp only [List.length_append, List.length_cons, List.length_nil, List.length_replicate, List.length_set]; omega)) (by first | omega | (simp only [List.length_append, List.length_cons, List.length_nil, List.length_replicate, List.length_set]; omega))) rfl (xF (by first | (simp; done) | grind)) ?_
     intro v77 q77 hq77
     obtain ⟨cs77, rfl, rl77⟩ := hq77
     refine w_q rfl (fun h' L' hh hR => zY rfl) rfl (w_q rfl (fun h' L' hh hR => zY rfl) rfl (xB (yV (zB (zA (mv rfl rfl (gv (zQ (q := 1) rfl rfl (by omega) (by omega)) rfl (asg rfl rfl (zD (xC (A := []) (xC (A := []) (xC (A := []) ?_))))))))))))
     refine yQ ((i + 1), ((B ++ [(l.getD i (T3.mk (0 : Rat) 0 0))]) ++ [btw s (l.getD i (T3.mk (0 : Rat) 0 0)) (l.getD ((i + 1) % l.length) (T3.mk (0 : Rat) 0 0))]), (F ++ [btw s (l.getD i (T3.mk (0 : Rat) 0 0)) (l.getD ((i + 1) % l.length) (T3.mk (0 : Rat) 0 0))]), v73, cs73, v77, cs77, h6) ?_ ?_ ⟨rfl, rfl, rfl, rfl, rfl, rfl, rfl, trivial⟩ rfl rfl
     ·
      refine ⟨((((((hmmb.trans hh1).trans hh2).trans hh3).trans hh4).trans hh5).trans hh6), ?_⟩
      replace rl73 := rl73.mono hh6
      refine ⟨rl73, rl77, ?_⟩
      exact ⟨⟨by omega, (by first | exact jF hB hp1 hx1 | exact gY hB hp1 hx1 | exact fF hB hp1 hx1 | exact fG hB hp1 hx1)⟩, (by first | exact jE hF hp2 hx1 | exact gX hF hp2 hx1 | exact fD hF hp2 hx1 | exact fE hF hp2 hx1)⟩
     dsimp only
     omega
    refine uU (fun X => yW (ρ := (rpT (rpQ (12 * k + 3 * m + 9 * n + 62)))) (m := 1) (xs := [btw s (l.getD i (T3.mk (0 : Rat) 0 0)) (l.getD ((i + 1) % l.length) (T3.mk (0 : Rat) 0 0))]) (ps' := [(0, _)]) Tryz.underlying27 yB rfl rfl rfl (wI (wD (by omega))) ⟨rfl, rfl, trivial⟩ (yU rfl (Pc.arr (Pc.here _) (T3.mk (0 : Rat) 0 0) 0 (by decide)) r75 xY) (show 1 * 9 ≤ 16777216 from by decide) (show 0 < 9 from by decide)) rfl ?_
    intro v76 q76 hq76
    obtain ⟨cs76, rfl, rl76⟩ := hq76
    refine uU (fun X => yW (ρ := (rpT (rpQ (12 * k + 3 * m + 9 * n + 62)))) (m := 1) (xs := [btw s (l.getD i (T3.mk (0 : Rat) 0 0)) (l.getD ((i + 1) % l.length) (T3.mk (0 : Rat) 0 0))]) (ps' := [(0, _)]) Tryz.underlying27 yB rfl rfl rfl (wI (wD (by omega))) ⟨rfl, rfl, trivial⟩ (yU rfl (Pc.arr (Pc.here _) (T3.mk (0 : Rat) 0 0) 0 (by decide)) r71 xY) (show 1 * 9 ≤ 16777216 from by decide) (show 0 < 9 from by decide)) rfl ?_
    intro v72 q72 hq72
    obtain ⟨cs72, rfl, rl72⟩ := hq72
    refine xL (A := []) (ρ := (rpT (rpQ (12 * k + 3 * m + 9 * n + 62)))) rl72 (xM (by first | (simp; done) | grind)) ?_
    intro h5 hh5 rs_31
    replace rl45 := rl45.mono (hh4.trans hh5)
    refine uC (A := [_, _, _, _, _]) (fun X => yM (ρ := (rpT (rpQ (12 * k + 3 * m + 9 * n + 62)))) (bytes := 168) Tryz.underlying27 yB rfl rfl rfl rfl (show 0 < 9 from by decide) rfl rfl rl45 rs_31 (by first | omega | (simp only [List.length_append, List.length_cons, List.length_nil, List.length_replicate, List.length_set]; omega)) (by first | omega | (simp only [List.length_append, List.length_cons, List.length_nil, List.length_replicate, List.length_set]; omega))) rfl (xF (by first | (simp; done) | grind)) ?_
    intro v73 q73 hq73
    obtain ⟨cs73, rfl, rl73⟩ := hq73
    refine w_c rfl ?_
    replace rl76 := rl76.mono hh5
    refine xL (A := []) (ρ := (rpT (rpQ (12 * k + 3 * m + 9 * n + 62)))) rl76 (xM (by first | (simp; done) | grind)) ?_
    intro h6 hh6 rs_32
    replace rl_8 := rl_8.mono (((((hh1.trans hh2).trans hh3).trans hh4).trans hh5).trans hh6)
    refine uC (A := [_, _, _]) (fun X => yM (ρ := (rpT (rpQ (12 * k + 3 * m + 9 * n + 62)))) (bytes := 168) Tryz.underlying27 yB rfl rfl rfl rfl (show 0 < 9 from by decide) rfl rfl rl_8 rs_32 (by first | omega | (simp only [List.length_append, List.length_cons, List.length_nil, List.length_replicate, List.length_set]; omega)) (by first | omega | (simp only [List.length_append, List.length_cons, List.length_nil, List.length_replicate, List.length_set]; omega))) rfl (xF (by first | (simp; done) | grind)) ?_
    intro v77 q77 hq77
    obtain ⟨cs77, rfl, rl77⟩ := hq77
    refine w_q rfl (fun h' L' hh hR => zY rfl) rfl (w_q rfl (fun h' L' hh hR => zY rfl) rfl (xB (yV (zB (zA (mv rfl rfl (gv (zQ (q := 1) rfl rfl (by omega) (by omega)) rfl (asg rfl rfl (zD (xC (A := []) (xC (A := []) (xC (A := []) ?_))))))))))))
    refine yQ ((i + 1), ((B ++ [(l.getD i (T3.mk (0 : Rat) 0 0))]) ++ [btw s (l.getD i (T3.mk (0 : Rat) 0 0)) (l.getD ((i + 1) % l.length) (T3.mk (0 : Rat) 0 0))]), (F ++ [btw s (l.getD i (T3.mk (0 : Rat) 0 0)) (l.getD ((i + 1) % l.length) (T3.mk (0 : Rat) 0 0))]), v73, cs73, v77, cs77, h6) ?_ ?_ ⟨rfl, rfl, rfl, rfl, rfl, rfl, rfl, trivial⟩ rfl rfl
    ·
     refine ⟨((((((hmmb.trans hh1).trans hh2).trans hh3).trans hh4).trans hh5).trans hh6), ?_⟩
     replace rl73 := rl73.mono hh6
     refine ⟨rl73, rl77, ?_⟩
     exact ⟨⟨by omega, (by first | exact jF hB hp1 hx1 | exact gY hB hp1 hx1 | exact fF hB hp1 hx1 | exact fG hB hp1 hx1)⟩, (by first | exact jE hF hp2 hx1 | exact gX hF hp2 hx1 | exact fD hF hp2 hx1 | exact fE hF hp2 hx1)⟩
    dsimp only
    omega
   have hx1 : ¬ xP s l i := hc65
   refine wH (e' := [(0, _), (3, _), (7, _), (10, _), (6, _), (8, _), (9, _)]) ⟨rfl, rfl, rfl, rfl, rfl, rfl, rfl, trivial⟩ (zL (yV (zB (zA (mv rfl rfl (gv (zQ (q := 1) rfl rfl (by omega) (by omega)) rfl (asg rfl rfl (zD (xC (A := []) (xC (A := []) ?_))))))))))
   refine yQ ((i + 1), (B ++ [(l.getD i (T3.mk (0 : Rat) 0 0))]), F, v45, cs45, s7_6, cs_7, h3) ?_ ?_ ⟨rfl, rfl, rfl, rfl, rfl, rfl, rfl, trivial⟩ rfl rfl
   ·
    refine ⟨(((hmmb.trans hh1).trans hh2).trans hh3), ?_⟩
    replace rl_8 := rl_8.mono ((hh1.trans hh2).trans hh3)
    refine ⟨rl45, rl_8, ?_⟩
    exact ⟨⟨by omega, (by first | exact jF hB hp1 hx1 | exact gY hB hp1 hx1 | exact fF hB hp1 hx1 | exact fG hB hp1 hx1)⟩, (by first | exact jE hF hp2 hx1 | exact gX hF hp2 hx1 | exact fD hF hp2 hx1 | exact fE hF hp2 hx1)⟩
   dsimp only
   omega
  have hp1 : ¬ sdZ s (gp l i) ≤ 0 := hc41
  refine zL (zB (zC (zC (zA (mv rfl rfl (gv (qL (q := 0) rfl rfl) rfl (zD (zB ?_))))))))
  refine zO rfl (fun hc47 => ?_) (fun hc47 => ?_)
  ·
   have hp2 : 0 ≤ sdZ s (gp l i) := hc47
   refine wH (e' := [(0, _), (3, _), (6, _), (7, _), (8, _), (9, _), (10, _), (11, _), (12, _), (13, _), (14, _)]) ⟨rfl, rfl, rfl, rfl, rfl, rfl, rfl, rfl, rfl, rfl, rfl, trivial⟩ (zA (mv rfl rfl ?_))
   replace rb_10 := rb_10.mono (hh1.trans hh2)
   refine wG (F := fun v_ => (rpT (rpQ (k + 1))).Is h2 v_ (l.getD i (T3.mk (0 : Rat) 0 0))) (zE xG (Pc.here _) rfl rfl rb_10 rfl) (yF (.tail _ (.head _))) rfl ?_
   intro v49 r49
   refine zK (yW (ρ := (rpT (rpQ (k + 1)))) (m := 1) (xs := [(l.getD i (T3.mk (0 : Rat) 0 0))]) (ps' := [(0, _)]) Tryz.underlying27 yB rfl rfl rfl (wI (wD (by omega))) ⟨rfl, rfl, trivial⟩ (yU rfl (Pc.arr (Pc.here _) (T3.mk (0 : Rat) 0 0) 0 (by decide)) r49 xY) (show 1 * 9 ≤ 16777216 from by decide) (show 0 < 9 from by decide)) rfl rfl rfl ?_
   intro v50 q50 hq50
   obtain ⟨cs50, rfl, rl50⟩ := hq50
   refine kD (A := []) (ρ := (rpT (rpQ (k + 1)))) rl50 ?_
   intro h3 hh3 rs_33
   replace rl_8 := rl_8.mono ((hh1.trans hh2).trans hh3)
   refine qN (A := [_, _]) (yM (ρ := (rpT (rpQ (12 * k + 3 * m + 9 * n + 62)))) (bytes := 168) Tryz.underlying27 yB rfl rfl rfl rfl (show 0 < 9 from by decide) rfl rfl rl_8 (rs_33.le (Le.s (Le.t (Le.q (l := 12 * k + 3 * m + 9 * n + 62) (by omega))))) (by first | omega | (simp only [List.length_append, List.length_cons, List.length_nil, List.length_replicate, List.length_set]; omega)) (by first | omega | (simp only [List.length_append, List.length_cons, List.length_nil, List.length_replicate, List.length_set]; omega))) rfl rfl rfl ?_
   intro v51 q51 hq51
   obtain ⟨cs51, rfl, rl51⟩ := hq51
   refine asg rfl rfl (zD (zB (zC (zA (mv rfl rfl ?_)))))
   refine vO (ι := Unit) 4 (fun _ => True) (fun _ => [(56, vB ((qQ s l i) ∨ ((sdZ s (l.getD i (T3.mk (0 : Rat) 0 0))) < (0 : Int)))), (0, vl), (3, vP b3 0), (6, s6_3), (9, vB (qJ s l i)), (10, vI ↑i), (11, vP b11 0), (12, vP b12 0), (13, vI (sdZ s (l.getD i (T3.mk (0 : Rat) 0 0)))), (14, vI (sdZ s (l.getD ((i + 1) % l.length) (T3.mk (0 : Rat) 0 0)))), (7, v51)]) (fun _ => [.var b12 32 cs_11, .var b11 32 cs_9, .gs 32 9 v51 (F ++ [(l.getD i (T3.mk (0 : Rat) 0 0))]).length cs51, .gs 32 9 s6_3 B.length cs_4, .var b3 34 cs3]) (fun _ => h3) ?_ ?_
   ·
    refine wM (qQ s l i) (fun hg => ?_) (fun hg => ?_)
    ·
     refine xH (zG (v := .bool true) (congrArg some (xS hg))) rfl rfl rfl (yL rfl rfl rfl rfl rfl rfl (yL rfl rfl rfl rfl rfl rfl (gv (xK rfl rfl) rfl (zD ?_))))
     refine yN () trivial ⟨?_, rfl, rfl, rfl, rfl, rfl, rfl, rfl, rfl, rfl, rfl, trivial⟩ rfl rfl
     exact congrArg some (qR hg)
    refine xH (zG (v := .bool false) (congrArg some (yX hg))) rfl rfl rfl (xA rfl rfl rfl (mv rfl rfl (xA rfl rfl rfl (gv (zW (q := 0) rfl rfl) rfl (gv (wB rfl rfl) rfl (zD ?_))))))
    refine yN () trivial ⟨?_, rfl, rfl, rfl, rfl, rfl, rfl, rfl, rfl, rfl, rfl, trivial⟩ rfl rfl
    exact congrArg some (qS hg)
   intro _ _
   show GL _ _ _ _ _ _ _ [(56, vB ((qQ s l i) ∨ ((sdZ s (l.getD i (T3.mk (0 : Rat) 0 0))) < (0 : Int)))), (0, vl), (3, vP b3 0), (6, s6_3), (9, vB (qJ s l i)), (10, vI ↑i), (11, vP b11 0), (12, vP b12 0), (13, vI (sdZ s (l.getD i (T3.mk (0 : Rat) 0 0)))), (14, vI (sdZ s (l.getD ((i + 1) % l.length) (T3.mk (0 : Rat) 0 0)))), (7, v51)] [.var b12 32 cs_11, .var b11 32 cs_9, .gs 32 9 v51 (F ++ [(l.getD i (T3.mk (0 : Rat) 0 0))]).length cs51, .gs 32 9 s6_3 B.length cs_4, .var b3 34 cs3] h3
   refine mv rfl rfl ?_
   refine vO (ι := Unit) 4 (fun _ => True) (fun _ => [(61, vB ((qJ s l i) ∨ ((0 : Int) < (sdZ s (l.getD i (T3.mk (0 : Rat) 0 0)))))), (0, vl), (3, vP b3 0), (6, s6_3), (10, vI ↑i), (11, vP b11 0), (12, vP b12 0), (13, vI (sdZ s (l.getD i (T3.mk (0 : Rat) 0 0)))), (14, vI (sdZ s (l.getD ((i + 1) % l.length) (T3.mk (0 : Rat) 0 0)))), (7, v51), (56, vB ((qQ s l i) ∨ ((sdZ s (l.getD i (T3.mk (0 : Rat) 0 0))) < (0 : Int))))]) (fun _ => [.var b12 32 cs_11, .var b11 32 cs_9, .gs 32 9 v51 (F ++ [(l.getD i (T3.mk (0 : Rat) 0 0))]).length cs51, .gs 32 9 s6_3 B.length cs_4, .var b3 34 cs3]) (fun _ => h3) ?_ ?_
   ·
    refine wM (qJ s l i) (fun hg => ?_) (fun hg => ?_)
    ·
     refine xH (zG (v := .bool true) (congrArg some (xS hg))) rfl rfl rfl (yL rfl rfl rfl rfl rfl rfl (yL rfl rfl rfl rfl rfl rfl (gv (xK rfl rfl) rfl (zD ?_))))
     refine yN () trivial ⟨?_, rfl, rfl, rfl, rfl, rfl, rfl, rfl, rfl, rfl, rfl, trivial⟩ rfl rfl
     exact congrArg some (qR hg)
    refine xH (zG (v := .bool false) (congrArg some (yX hg))) rfl rfl rfl (xA rfl rfl rfl (mv rfl rfl (xA rfl rfl rfl (gv (uS (q := 0) rfl rfl) rfl (gv (wB rfl rfl) rfl (zD ?_))))))
    refine yN () trivial ⟨?_, rfl, rfl, rfl, rfl, rfl, rfl, rfl, rfl, rfl, rfl, trivial⟩ rfl rfl
    exact congrArg some (qS hg)
   intro _ _
   show GL _ _ _ _ _ _ _ [(61, vB ((qJ s l i) ∨ ((0 : Int) < (sdZ s (l.getD i (T3.mk (0 : Rat) 0 0)))))), (0, vl), (3, vP b3 0), (6, s6_3), (10, vI ↑i), (11, vP b11 0), (12, vP b12 0), (13, vI (sdZ s (l.getD i (T3.mk (0 : Rat) 0 0)))), (14, vI (sdZ s (l.getD ((i + 1) % l.length) (T3.mk (0 : Rat) 0 0)))), (7, v51), (56, vB ((qQ s l i) ∨ ((sdZ s (l.getD i (T3.mk (0 : Rat) 0 0))) < (0 : Int))))] [.var b12 32 cs_11, .var b11 32 cs_9, .gs 32 9 v51 (F ++ [(l.getD i (T3.mk (0 : Rat) 0 0))]).length cs51, .gs 32 9 s6_3 B.length cs_4, .var b3 34 cs3] h3
   refine asg rfl rfl (asg rfl rfl (zD (zB (zC (zA (mv rfl rfl (mv rfl rfl (gv (jQ rfl rfl (by have := qI hsd36 hsd39; omega) (by have := qI hsd36 hsd39; omega)) rfl (gv (zW (q := 0) rfl rfl) rfl (zD (zB ?_)))))))))))
   refine zO rfl (fun hc65 => ?_) (fun hc65 => ?_)
   ·
    have hx1 : xP s l i := hc65
    refine zC (zA ?_)
    replace rb_10 := rb_10.mono hh3
    refine wG (F := fun v_ => (rpT (rpQ (k + 1))).Is h3 v_ (l.getD i (T3.mk (0 : Rat) 0 0))) (zE xG (Pc.here _) rfl rfl rb_10 rfl) (yF (.tail _ (.head _))) rfl ?_
    intro v66 r66
    replace rb_12 := rb_12.mono ((hh1.trans hh2).trans hh3)
    refine wG (F := fun v_ => (rpT (rpQ (k + 1))).Is h3 v_ (l.getD ((i + 1) % l.length) (T3.mk (0 : Rat) 0 0))) (zE xG (Pc.here _) rfl rfl rb_12 rfl) (yF (.head _)) rfl ?_
    intro v67 r67
    replace rb3 := rb3.mono ((hh1.trans hh2).trans hh3)
    refine wG (F := fun v_ => (rpP (rpT (rpQ n)) (rpQ m)).Is h3 v_ s) (zE kE (Pc.here _) rfl rfl rb3 rfl) (yF (.tail _ (.tail _ (.tail _ (.tail _ (.head _)))))) rfl ?_
    intro v68 r68
    refine zM (vs := [_, _, _]) rfl rfl rfl rfl Tryz.call49 ⟨rfl, rfl, rfl, trivial⟩ (fun w hs => tT hs r66 r67 r68 (by omega) (by omega) (by omega)) ?_
    intro v69 h4 hh4 r69
    change (rpT (rpQ (12 * (k + 1) + 3 * m + 9 * n + 50))).Is h4 v69 (btw s (l.getD i (T3.mk (0 : Rat) 0 0)) (l.getD ((i + 1) % l.length) (T3.mk (0 : Rat) 0 0))) at r69
    replace r69 := Rp.Is.le r69 (Le.t (Le.q (l := 12 * k + 3 * m + 9 * n + 62) (by omega)))
    refine zK (yZ (ρ := (rpT (rpQ 1))) (X := (T3.mk (0 : Rat) 0 0)) yB rfl rfl (wI (wD (by decide)))) rfl rfl rfl ?_
    intro v15 q15 hq15
    obtain ⟨b15, cs15, rfl, rfl, rb15⟩ := hq15
    have rw_34 := (Le.t (Le.q (l := 12 * k + 3 * m + 9 * n + 62) (by omega))).R rb15
    refine wE (A := []) (F := fun c_ => (rpT (rpQ (12 * k + 3 * m + 9 * n + 62))).R h4 c_ (btw s (l.getD i (T3.mk (0 : Rat) 0 0)) (l.getD ((i + 1) % l.length) (T3.mk (0 : Rat) 0 0)))) (yG Tryz.sizeOf32 (Pc.here _) rfl rfl rfl rw_34 r69 rfl) ?_
    intro cs_35 rb_36
    refine zD (zJ (e' := [(0, _), (3, _), (6, _), (10, _), (7, _), (8, _), (9, _), (15, _)]) ⟨rfl, rfl, rfl, rfl, rfl, rfl, rfl, rfl, trivial⟩ (zB ?_))
    refine yI 10 [.var b15 32 cs_35, .var b12 32 cs_11, .var b11 32 cs_9, .var b3 34 cs3] [] [(0, .q), (1, .q), (4, .q), (5, .q), (2, .d 3 6), (7, .c), (8, .q), (9, .q)] xI (fun x hx => by cases hx) (by kernel_rfl) (fun x hx => by cases hx) (by intro r hr; simp only [List.mem_cons, List.mem_append, List.not_mem_nil, or_false] at hr ⊢ <;> grind) (w_q rfl (fun h' L' hh hR => zG rfl) rfl (yR (F := fun v_ => (rpT (rpQ (12 * k + 3 * m + 9 * n + 62))).Is h4 v_ (btw s (l.getD i (T3.mk (0 : Rat) 0 0)) (l.getD ((i + 1) % l.length) (T3.mk (0 : Rat) 0 0)))) rfl (zE xG (Pc.here _) rfl rfl rb_36 rfl) (yF (.head _)) rfl ?_))
    intro v71 r71
    refine w_q rfl (fun h' L' hh hR => zG rfl) rfl (yR (F := fun v_ => (rpT (rpQ (12 * k + 3 * m + 9 * n + 62))).Is h4 v_ (btw s (l.getD i (T3.mk (0 : Rat) 0 0)) (l.getD ((i + 1) % l.length) (T3.mk (0 : Rat) 0 0)))) rfl (zE xG (Pc.here _) rfl rfl rb_36 rfl) (yF (.head _)) rfl ?_)
    intro v75 r75
    refine w_d rfl rfl rfl ?_ ?_
    ·
     refine uU (fun X => yW (ρ := (rpT (rpQ (12 * k + 3 * m + 9 * n + 62)))) (m := 1) (xs := [btw s (l.getD i (T3.mk (0 : Rat) 0 0)) (l.getD ((i + 1) % l.length) (T3.mk (0 : Rat) 0 0))]) (ps' := [(0, _)]) Tryz.underlying27 yB rfl rfl rfl (wI (wD (by omega))) ⟨rfl, rfl, trivial⟩ (yU rfl (Pc.arr (Pc.here _) (T3.mk (0 : Rat) 0 0) 0 (by decide)) r71 xY) (show 1 * 9 ≤ 16777216 from by decide) (show 0 < 9 from by decide)) rfl ?_
     intro v72 q72 hq72
     obtain ⟨cs72, rfl, rl72⟩ := hq72
     refine ⟨?_, ?_⟩
     ·
      refine xL (A := []) (ρ := (rpT (rpQ (12 * k + 3 * m + 9 * n + 62)))) rl72 (xM (by first | (simp; done) | grind)) ?_
      intro h5 hh5 rs_37
      replace rl_5 := rl_5.mono ((((hh1.trans hh2).trans hh3).trans hh4).trans hh5)
      refine uC (A := [_, _, _, _]) (fun X => yM (ρ := (rpT (rpQ (12 * k + 3 * m + 9 * n + 62)))) (bytes := 168) Tryz.underlying27 yB rfl rfl rfl rfl (show 0 < 9 from by decide) rfl rfl rl_5 rs_37 (by first | omega | (simp only [List.length_append, List.length_cons, List.length_nil, List.length_replicate, List.length_set]; omega)) (by first | omega | (simp only [List.length_append, List.length_cons, List.length_nil, List.length_replicate, List.length_set]; omega))) rfl (xF (by first | (simp; done) | grind)) ?_
      intro v73 q73 hq73
      obtain ⟨cs73, rfl, rl73⟩ := hq73
      replace r75 := r75.mono hh5
      refine uU (fun X => yW (ρ := (rpT (rpQ (12 * k + 3 * m + 9 * n + 62)))) (m := 1) (xs := [btw s (l.getD i (T3.mk (0 : Rat) 0 0)) (l.getD ((i + 1) % l.length) (T3.mk (0 : Rat) 0 0))]) (ps' := [(0, _)]) Tryz.underlying27 yB rfl rfl rfl (wI (wD (by omega))) ⟨rfl, rfl, trivial⟩ (yU rfl (Pc.arr (Pc.here _) (T3.mk (0 : Rat) 0 0) 0 (by decide)) r75 xY) (show 1 * 9 ≤ 16777216 from by decide) (show 0 < 9 from by decide)) rfl ?_
      intro v76 q76 hq76
      obtain ⟨cs76, rfl, rl76⟩ := hq76
      refine w_c rfl (xL (A := []) (ρ := (rpT (rpQ (12 * k + 3 * m + 9 * n + 62)))) rl76 (xM (by first | (simp; done) | grind)) ?_)
      intro h6 hh6 rs_38
      replace rl51 := rl51.mono ((hh4.trans hh5).trans hh6)
      refine uC (A := [_, _, _]) (fun X => yM (ρ := (rpT (rpQ (12 * k + 3 * m + 9 * n + 62)))) (bytes := 168) Tryz.underlying27 yB rfl rfl rfl rfl (show 0 < 9 from by decide) rfl rfl rl51 rs_38 (by first | omega | (simp only [List.length_append, List.length_cons, List.length_nil, List.length_replicate, List.length_set]; omega)) (by first | omega | (simp only [List.length_append, List.length_cons, List.length_nil, List.length_replicate, List.length_set]; omega))) rfl (xF (by first | (simp; done) | grind)) ?_
      intro v77 q77 hq77
      obtain ⟨cs77, rfl, rl77⟩ := hq77
      refine w_q rfl (fun h' L' hh hR => zY rfl) rfl (w_q rfl (fun h' L' hh hR => zY rfl) rfl (xB (yV (zB (zA (mv rfl rfl (gv (zQ (q := 1) rfl rfl (by omega) (by omega)) rfl (asg rfl rfl (zD (xC (A := []) (xC (A := []) (xC (A := []) ?_))))))))))))
      refine yQ ((i + 1), (B ++ [btw s (l.getD i (T3.mk (0 : Rat) 0 0)) (l.getD ((i + 1) % l.length) (T3.mk (0 : Rat) 0 0))]), ((F ++ [(l.getD i (T3.mk (0 : Rat) 0 0))]) ++ [btw s (l.getD i (T3.mk (0 : Rat) 0 0)) (l.getD ((i + 1) % l.length) (T3.mk (0 : Rat) 0 0))]), v73, cs73, v77, cs77, h6) ?_ ?_ ⟨rfl, rfl, rfl, rfl, rfl, rfl, rfl, trivial⟩ rfl rfl
      ·
       refine ⟨((((((hmmb.trans hh1).trans hh2).trans hh3).trans hh4).trans hh5).trans hh6), ?_⟩
       replace rl73 := rl73.mono hh6
       refine ⟨rl73, rl77, ?_⟩
       exact ⟨⟨by omega, (by first | exact jF hB hp1 hx1 | exact gY hB hp1 hx1 | exact fF hB hp1 hx1 | exact fG hB hp1 hx1)⟩, (by first | exact jE hF hp2 hx1 | exact gX hF hp2 hx1 | exact fD hF hp2 hx1 | exact fE hF hp2 hx1)⟩
      dsimp only
      omega
     refine uU (fun X => yW (ρ := (rpT (rpQ (12 * k + 3 * m + 9 * n + 62)))) (m := 1) (xs := [btw s (l.getD i (T3.mk (0 : Rat) 0 0)) (l.getD ((i + 1) % l.length) (T3.mk (0 : Rat) 0 0))]) (ps' := [(0, _)]) Tryz.underlying27 yB rfl rfl rfl (wI (wD (by omega))) ⟨rfl, rfl, trivial⟩ (yU rfl (Pc.arr (Pc.here _) (T3.mk (0 : Rat) 0 0) 0 (by decide)) r75 xY) (show 1 * 9 ≤ 16777216 from by decide) (show 0 < 9 from by decide)) rfl ?_
     intro v76 q76 hq76
     obtain ⟨cs76, rfl, rl76⟩ := hq76
     refine xL (A := [_]) (ρ := (rpT (rpQ (12 * k + 3 * m + 9 * n + 62)))) rl72 (xM (by first | (simp; done) | grind)) ?_
     intro h5 hh5 rs_39
     replace rl_5 := rl_5.mono ((((hh1.trans hh2).trans hh3).trans hh4).trans hh5)
     refine uC (A := [_, _, _, _, _]) (fun X => yM (ρ := (rpT (rpQ (12 * k + 3 * m + 9 * n + 62)))) (bytes := 168) Tryz.underlying27 yB rfl rfl rfl rfl (show 0 < 9 from by decide) rfl rfl rl_5 rs_39 (by first | omega | (simp only [List.length_append, List.length_cons, List.length_nil, List.length_replicate, List.length_set]; omega)) (by first | omega | (simp only [List.length_append, List.length_cons, List.length_nil, List.length_replicate, List.length_set]; omega))) rfl (xF (by first | (simp; done) | grind)) ?_
     intro v73 q73 hq73
     obtain ⟨cs73, rfl, rl73⟩ := hq73
     refine w_c rfl ?_
     replace rl76 := rl76.mono hh5
     refine xL (A := []) (ρ := (rpT (rpQ (12 * k + 3 * m + 9 * n + 62)))) rl76 (xM (by first | (simp; done) | grind)) ?_
     intro h6 hh6 rs_40
     replace rl51 := rl51.mono ((hh4.trans hh5).trans hh6)
     refine uC (A := [_, _, _]) (fun X => yM (ρ := (rpT (rpQ (12 * k + 3 * m + 9 * n + 62)))) (bytes := 168) Tryz.underlying27 yB rfl rfl rfl rfl (show 0 < 9 from by decide) rfl rfl rl51 rs_40 (by first | omega | (simp only [List.length_append, List.length_cons, List.length_nil, List.length_replicate, List.length_set]; omega)) (by first | omega | (simp only [List.length_append, List.length_cons, List.length_nil, List.length_replicate, List.length_set]; omega))) rfl (xF (by first | (simp; done) | grind)) ?_
     intro v77 q77 hq77
     obtain ⟨cs77, rfl, rl77⟩ := hq77
     refine w_q rfl (fun h' L' hh hR => zY rfl) rfl (w_q rfl (fun h' L' hh hR => zY rfl) rfl (xB (yV (zB (zA (mv rfl rfl (gv (zQ (q := 1) rfl rfl (by omega) (by omega)) rfl (asg rfl rfl (zD (xC (A := []) (xC (A := []) (xC (A := []) ?_))))))))))))
     refine yQ ((i + 1), (B ++ [btw s (l.getD i (T3.mk (0 : Rat) 0 0)) (l.getD ((i + 1) % l.length) (T3.mk (0 : Rat) 0 0))]), ((F ++ [(l.getD i (T3.mk (0 : Rat) 0 0))]) ++ [btw s (l.getD i (T3.mk (0 : Rat) 0 0)) (l.getD ((i + 1) % l.length) (T3.mk (0 : Rat) 0 0))]), v73, cs73, v77, cs77, h6) ?_ ?_ ⟨rfl, rfl, rfl, rfl, rfl, rfl, rfl, trivial⟩ rfl rfl
     ·
      refine ⟨((((((hmmb.trans hh1).trans hh2).trans hh3).trans hh4).trans hh5).trans hh6), ?_⟩
      replace rl73 := rl73.mono hh6
      refine ⟨rl73, rl77, ?_⟩
      exact ⟨⟨by omega, (by first | exact jF hB hp1 hx1 | exact gY hB hp1 hx1 | exact fF hB hp1 hx1 | exact fG hB hp1 hx1)⟩, (by first | exact jE hF hp2 hx1 | exact gX hF hp2 hx1 | exact fD hF hp2 hx1 | exact fE hF hp2 hx1)⟩
     dsimp only
     omega
    refine uU (fun X => yW (ρ := (rpT (rpQ (12 * k + 3 * m + 9 * n + 62)))) (m := 1) (xs := [btw s (l.getD i (T3.mk (0 : Rat) 0 0)) (l.getD ((i + 1) % l.length) (T3.mk (0 : Rat) 0 0))]) (ps' := [(0, _)]) Tryz.underlying27 yB rfl rfl rfl (wI (wD (by omega))) ⟨rfl, rfl, trivial⟩ (yU rfl (Pc.arr (Pc.here _) (T3.mk (0 : Rat) 0 0) 0 (by decide)) r75 xY) (show 1 * 9 ≤ 16777216 from by decide) (show 0 < 9 from by decide)) rfl ?_
    intro v76 q76 hq76
    obtain ⟨cs76, rfl, rl76⟩ := hq76
    refine uU (fun X => yW (ρ := (rpT (rpQ (12 * k + 3 * m + 9 * n + 62)))) (m := 1) (xs := [btw s (l.getD i (T3.mk (0 : Rat) 0 0)) (l.getD ((i + 1) % l.length) (T3.mk (0 : Rat) 0 0))]) (ps' := [(0, _)]) Tryz.underlying27 yB rfl rfl rfl (wI (wD (by omega))) ⟨rfl, rfl, trivial⟩ (yU rfl (Pc.arr (Pc.here _) (T3.mk (0 : Rat) 0 0) 0 (by decide)) r71 xY) (show 1 * 9 ≤ 16777216 from by decide) (show 0 < 9 from by decide)) rfl ?_
    intro v72 q72 hq72
    obtain ⟨cs72, rfl, rl72⟩ := hq72
    refine xL (A := []) (ρ := (rpT (rpQ (12 * k + 3 * m + 9 * n + 62)))) rl72 (xM (by first | (simp; done) | grind)) ?_
    intro h5 hh5 rs_41
    replace rl_5 := rl_5.mono ((((hh1.trans hh2).trans hh3).trans hh4).trans hh5)
    refine uC (A := [_, _, _, _, _]) (fun X => yM (ρ := (rpT (rpQ (12 * k + 3 * m + 9 * n + 62)))) (bytes := 168) Tryz.underlying27 yB rfl rfl rfl rfl (show 0 < 9 from by decide) rfl rfl rl_5 rs_41 (by first | omega | (simp only [List.length_append, List.length_cons, List.length_nil, List.length_replicate, List.length_set]; omega)) (by first | omega | (simp only [List.length_append, List.length_cons, List.length_nil, List.length_replicate, List.length_set]; omega))) rfl (xF (by first | (simp; done) | grind)) ?_
    intro v73 q73 hq73
    obtain ⟨cs73, rfl, rl73⟩ := hq73
    refine w_c rfl ?_
    replace rl76 := rl76.mono hh5
    refine xL (A := []) (ρ := (rpT (rpQ (12 * k + 3 * m + 9 * n + 62)))) rl76 (xM (by first | (simp; done) | grind)) ?_
    intro h6 hh6 rs_42
    replace rl51 := rl51.mono ((hh4.trans hh5).trans hh6)
    refine uC (A := [_, _, _]) (fun X => yM (ρ := (rpT (rpQ (12 * k + 3 * m + 9 * n + 62)))) (bytes := 168) Tryz.underlying27 yB rfl rfl rfl rfl (show 0 < 9 from by decide) rfl rfl rl51 rs_42 (by first | omega | (simp only [List.length_append, List.length_cons, List.length_nil, List.length_replicate, List.length_set]; omega)) (by first | omega | (simp only [List.length_append, List.length_cons, List.length_nil, List.length_replicate, List.length_set]; omega))) rfl (xF (by first | (simp; done) | grind)) ?_
    intro v77 q77 hq77
    obtain ⟨cs77, rfl, rl77⟩ := hq77
    refine w_q rfl (fun h' L' hh hR => zY rfl) rfl (w_q rfl (fun h' L' hh hR => zY rfl) rfl (xB (yV (zB (zA (mv rfl rfl (gv (zQ (q := 1) rfl rfl (by omega) (by omega)) rfl (asg rfl rfl (zD (xC (A := []) (xC (A := []) (xC (A := []) ?_))))))))))))
    refine yQ ((i + 1), (B ++ [btw s (l.getD i (T3.mk (0 : Rat) 0 0)) (l.getD ((i + 1) % l.length) (T3.mk (0 : Rat) 0 0))]), ((F ++ [(l.getD i (T3.mk (0 : Rat) 0 0))]) ++ [btw s (l.getD i (T3.mk (0 : Rat) 0 0)) (l.getD ((i + 1) % l.length) (T3.mk (0 : Rat) 0 0))]), v73, cs73, v77, cs77, h6) ?_ ?_ ⟨rfl, rfl, rfl, rfl, rfl, rfl, rfl, trivial⟩ rfl rfl
    ·
     refine ⟨((((((hmmb.trans hh1).trans hh2).trans hh3).trans hh4).trans hh5).trans hh6), ?_⟩
     replace rl73 := rl73.mono hh6
     refine ⟨rl73, rl77, ?_⟩
     exact ⟨⟨by omega, (by first | exact jF hB hp1 hx1 | exact gY hB hp1 hx1 | exact fF hB hp1 hx1 | exact fG hB hp1 hx1)⟩, (by first | exact jE hF hp2 hx1 | exact gX hF hp2 hx1 | exact fD hF hp2 hx1 | exact fE hF hp2 hx1)⟩
    dsimp only
    omega
   have hx1 : ¬ xP s l i := hc65
   refine wH (e' := [(0, _), (3, _), (6, _), (10, _), (7, _), (8, _), (9, _)]) ⟨rfl, rfl, rfl, rfl, rfl, rfl, rfl, trivial⟩ (zL (yV (zB (zA (mv rfl rfl (gv (zQ (q := 1) rfl rfl (by omega) (by omega)) rfl (asg rfl rfl (zD (xC (A := []) (xC (A := []) ?_))))))))))
   refine yQ ((i + 1), B, (F ++ [(l.getD i (T3.mk (0 : Rat) 0 0))]), s6_3, cs_4, v51, cs51, h3) ?_ ?_ ⟨rfl, rfl, rfl, rfl, rfl, rfl, rfl, trivial⟩ rfl rfl
   ·
    refine ⟨(((hmmb.trans hh1).trans hh2).trans hh3), ?_⟩
    replace rl_5 := rl_5.mono ((hh1.trans hh2).trans hh3)
    refine ⟨rl_5, rl51, ?_⟩
    exact ⟨⟨by omega, (by first | exact jF hB hp1 hx1 | exact gY hB hp1 hx1 | exact fF hB hp1 hx1 | exact fG hB hp1 hx1)⟩, (by first | exact jE hF hp2 hx1 | exact gX hF hp2 hx1 | exact fD hF hp2 hx1 | exact fE hF hp2 hx1)⟩
   dsimp only
   omega
  have hp2 : ¬ 0 ≤ sdZ s (gp l i) := hc47
  refine wH (e' := [(0, _), (3, _), (6, _), (7, _), (8, _), (9, _), (10, _), (11, _), (12, _), (13, _), (14, _)]) ⟨rfl, rfl, rfl, rfl, rfl, rfl, rfl, rfl, rfl, rfl, rfl, trivial⟩ (zL (zB (zC (zA (mv rfl rfl ?_)))))
  refine vO (ι := Unit) 4 (fun _ => True) (fun _ => [(56, vB ((qQ s l i) ∨ ((sdZ s (l.getD i (T3.mk (0 : Rat) 0 0))) < (0 : Int)))), (0, vl), (3, vP b3 0), (6, s6_3), (7, s7_6), (9, vB (qJ s l i)), (10, vI ↑i), (11, vP b11 0), (12, vP b12 0), (13, vI (sdZ s (l.getD i (T3.mk (0 : Rat) 0 0)))), (14, vI (sdZ s (l.getD ((i + 1) % l.length) (T3.mk (0 : Rat) 0 0))))]) (fun _ => [.var b12 32 cs_11, .var b11 32 cs_9, .gs 32 9 s7_6 F.length cs_7, .gs 32 9 s6_3 B.length cs_4, .var b3 34 cs3]) (fun _ => h2) ?_ ?_
  ·
   refine wM (qQ s l i) (fun hg => ?_) (fun hg => ?_)
   ·
    refine xH (zG (v := .bool true) (congrArg some (xS hg))) rfl rfl rfl (yL rfl rfl rfl rfl rfl rfl (yL rfl rfl rfl rfl rfl rfl (gv (xK rfl rfl) rfl (zD ?_))))
    refine yN () trivial ⟨?_, rfl, rfl, rfl, rfl, rfl, rfl, rfl, rfl, rfl, rfl, trivial⟩ rfl rfl
    exact congrArg some (qR hg)
   refine xH (zG (v := .bool false) (congrArg some (yX hg))) rfl rfl rfl (xA rfl rfl rfl (mv rfl rfl (xA rfl rfl rfl (gv (zW (q := 0) rfl rfl) rfl (gv (wB rfl rfl) rfl (zD ?_))))))
   refine yN () trivial ⟨?_, rfl, rfl, rfl, rfl, rfl, rfl, rfl, rfl, rfl, rfl, trivial⟩ rfl rfl
   exact congrArg some (qS hg)
  intro _ _
  show GL _ _ _ _ _ _ _ [(56, vB ((qQ s l i) ∨ ((sdZ s (l.getD i (T3.mk (0 : Rat) 0 0))) < (0 : Int)))), (0, vl), (3, vP b3 0), (6, s6_3), (7, s7_6), (9, vB (qJ s l i)), (10, vI ↑i), (11, vP b11 0), (12, vP b12 0), (13, vI (sdZ s (l.getD i (T3.mk (0 : Rat) 0 0)))), (14, vI (sdZ s (l.getD ((i + 1) % l.length) (T3.mk (0 : Rat) 0 0))))] [.var b12 32 cs_11, .var b11 32 cs_9, .gs 32 9 s7_6 F.length cs_7, .gs 32 9 s6_3 B.length cs_4, .var b3 34 cs3] h2
  refine mv rfl rfl ?_
  refine vO (ι := Unit) 4 (fun _ => True) (fun _ => [(61, vB ((qJ s l i) ∨ ((0 : Int) < (sdZ s (l.getD i (T3.mk (0 : Rat) 0 0)))))), (0, vl), (3, vP b3 0), (6, s6_3), (7, s7_6), (10, vI ↑i), (11, vP b11 0), (12, vP b12 0), (13, vI (sdZ s (l.getD i (T3.mk (0 : Rat) 0 0)))), (14, vI (sdZ s (l.getD ((i + 1) % l.length) (T3.mk (0 : Rat) 0 0)))), (56, vB ((qQ s l i) ∨ ((sdZ s (l.getD i (T3.mk (0 : Rat) 0 0))) < (0 : Int))))]) (fun _ => [.var b12 32 cs_11, .var b11 32 cs_9, .gs 32 9 s7_6 F.length cs_7, .gs 32 9 s6_3 B.length cs_4, .var b3 34 cs3]) (fun _ => h2) ?_ ?_
  ·
   refine wM (qJ s l i) (fun hg => ?_) (fun hg => ?_)
   ·
    refine xH (zG (v := .bool true) (congrArg some (xS hg))) rfl rfl rfl (yL rfl rfl rfl rfl rfl rfl (yL rfl rfl rfl rfl rfl rfl (gv (xK rfl rfl) rfl (zD ?_))))
    refine yN () trivial ⟨?_, rfl, rfl, rfl, rfl, rfl, rfl, rfl, rfl, rfl, rfl, trivial⟩ rfl rfl
    exact congrArg some (qR hg)
   refine xH (zG (v := .bool false) (congrArg some (yX hg))) rfl rfl rfl (xA rfl rfl rfl (mv rfl rfl (xA rfl rfl rfl (gv (uS (q := 0) rfl rfl) rfl (gv (wB rfl rfl) rfl (zD ?_))))))
   refine yN () trivial ⟨?_, rfl, rfl, rfl, rfl, rfl, rfl, rfl, rfl, rfl, rfl, trivial⟩ rfl rfl
   exact congrArg some (qS hg)
  intro _ _
  show GL _ _ _ _ _ _ _ [(61, vB ((qJ s l i) ∨ ((0 : Int) < (sdZ s (l.getD i (T3.mk (0 : Rat) 0 0)))))), (0, vl), (3, vP b3 0), (6, s6_3), (7, s7_6), (10, vI ↑i), (11, vP b11 0), (12, vP b12 0), (13, vI (sdZ s (l.getD i (T3.mk (0 : Rat) 0 0)))), (14, vI (sdZ s (l.getD ((i + 1) % l.length) (T3.mk (0 : Rat) 0 0)))), (56, vB ((qQ s l i) ∨ ((sdZ s (l.getD i (T3.mk (0 : Rat) 0 0))) < (0 : Int))))] [.var b12 32 cs_11, .var b11 32 cs_9, .gs 32 9 s7_6 F.length cs_7, .gs 32 9 s6_3 B.length cs_4, .var b3 34 cs3] h2
  refine asg rfl rfl (asg rfl rfl (zD (zB (zC (zA (mv rfl rfl (mv rfl rfl (gv (jQ rfl rfl (by have := qI hsd36 hsd39; omega) (by have := qI hsd36 hsd39; omega)) rfl (gv (zW (q := 0) rfl rfl) rfl (zD (zB ?_)))))))))))
  refine zO rfl (fun hc65 => ?_) (fun hc65 => ?_)
  ·
   have hx1 : xP s l i := hc65
   refine zC (zA ?_)
   replace rb_10 := rb_10.mono (hh1.trans hh2)
   refine wG (F := fun v_ => (rpT (rpQ (k + 1))).Is h2 v_ (l.getD i (T3.mk (0 : Rat) 0 0))) (zE xG (Pc.here _) rfl rfl rb_10 rfl) (yF (.tail _ (.head _))) rfl ?_
   intro v66 r66
   replace rb_12 := rb_12.mono (hh1.trans hh2)
   refine wG (F := fun v_ => (rpT (rpQ (k + 1))).Is h2 v_ (l.getD ((i + 1) % l.length) (T3.mk (0 : Rat) 0 0))) (zE xG (Pc.here _) rfl rfl rb_12 rfl) (yF (.head _)) rfl ?_
   intro v67 r67
   replace rb3 := rb3.mono (hh1.trans hh2)
   refine wG (F := fun v_ => (rpP (rpT (rpQ n)) (rpQ m)).Is h2 v_ s) (zE kE (Pc.here _) rfl rfl rb3 rfl) (yF (.tail _ (.tail _ (.tail _ (.tail _ (.head _)))))) rfl ?_
   intro v68 r68
   refine zM (vs := [_, _, _]) rfl rfl rfl rfl Tryz.call49 ⟨rfl, rfl, rfl, trivial⟩ (fun w hs => tT hs r66 r67 r68 (by omega) (by omega) (by omega)) ?_
   intro v69 h3 hh3 r69
   change (rpT (rpQ (12 * (k + 1) + 3 * m + 9 * n + 50))).Is h3 v69 (btw s (l.getD i (T3.mk (0 : Rat) 0 0)) (l.getD ((i + 1) % l.length) (T3.mk (0 : Rat) 0 0))) at r69
   replace r69 := Rp.Is.le r69 (Le.t (Le.q (l := 12 * k + 3 * m + 9 * n + 62) (by omega)))
   refine zK (yZ (ρ := (rpT (rpQ 1))) (X := (T3.mk (0 : Rat) 0 0)) yB rfl rfl (wI (wD (by decide)))) rfl rfl rfl ?_
   intro v15 q15 hq15
   obtain ⟨b15, cs15, rfl, rfl, rb15⟩ := hq15
   have rw_43 := (Le.t (Le.q (l := 12 * k + 3 * m + 9 * n + 62) (by omega))).R rb15
   refine wE (A := []) (F := fun c_ => (rpT (rpQ (12 * k + 3 * m + 9 * n + 62))).R h3 c_ (btw s (l.getD i (T3.mk (0 : Rat) 0 0)) (l.getD ((i + 1) % l.length) (T3.mk (0 : Rat) 0 0)))) (yG Tryz.sizeOf32 (Pc.here _) rfl rfl rfl rw_43 r69 rfl) ?_
   intro cs_44 rb_45
   refine zD (zJ (e' := [(0, _), (3, _), (6, _), (7, _), (10, _), (8, _), (9, _), (15, _)]) ⟨rfl, rfl, rfl, rfl, rfl, rfl, rfl, rfl, trivial⟩ (zB ?_))
   refine yI 10 [.var b15 32 cs_44, .var b12 32 cs_11, .var b11 32 cs_9, .var b3 34 cs3] [] [(0, .q), (1, .q), (4, .q), (5, .q), (2, .d 3 6), (7, .c), (8, .q), (9, .q)] xI (fun x hx => by cases hx) (by kernel_rfl) (fun x hx => by cases hx) (by intro r hr; simp only [List.mem_cons, List.mem_append, List.not_mem_nil, or_false] at hr ⊢ <;> grind) (w_q rfl (fun h' L' hh hR => zG rfl) rfl (yR (F := fun v_ => (rpT (rpQ (12 * k + 3 * m + 9 * n + 62))).Is h3 v_ (btw s (l.getD i (T3.mk (0 : Rat) 0 0)) (l.getD ((i + 1) % l.length) (T3.mk (0 : Rat) 0 0)))) rfl (zE xG (Pc.here _) rfl rfl rb_45 rfl) (yF (.head _)) rfl ?_))
   intro v71 r71
   refine w_q rfl (fun h' L' hh hR => zG rfl) rfl (yR (F := fun v_ => (rpT (rpQ (12 * k + 3 * m + 9 * n + 62))).Is h3 v_ (btw s (l.getD i (T3.mk (0 : Rat) 0 0)) (l.getD ((i + 1) % l.length) (T3.mk (0 : Rat) 0 0)))) rfl (zE xG (Pc.here _) rfl rfl rb_45 rfl) (yF (.head _)) rfl ?_)
   intro v75 r75
   refine w_d rfl rfl rfl ?_ ?_
   ·
    refine uU (fun X => yW (ρ := (rpT (rpQ (12 * k + 3 * m + 9 * n + 62)))) (m := 1) (xs := [btw s (l.getD i (T3.mk (0 : Rat) 0 0)) (l.getD ((i + 1) % l.length) (T3.mk (0 : Rat) 0 0))]) (ps' := [(0, _)]) Tryz.underlying27 yB rfl rfl rfl (wI (wD (by omega))) ⟨rfl, rfl, trivial⟩ (yU rfl (Pc.arr (Pc.here _) (T3.mk (0 : Rat) 0 0) 0 (by decide)) r71 xY) (show 1 * 9 ≤ 16777216 from by decide) (show 0 < 9 from by decide)) rfl ?_
    intro v72 q72 hq72
    obtain ⟨cs72, rfl, rl72⟩ := hq72
    refine ⟨?_, ?_⟩
    ·
     refine xL (A := []) (ρ := (rpT (rpQ (12 * k + 3 * m + 9 * n + 62)))) rl72 (xM (by first | (simp; done) | grind)) ?_
     intro h4 hh4 rs_46
     replace rl_5 := rl_5.mono (((hh1.trans hh2).trans hh3).trans hh4)
     refine uC (A := [_, _, _, _]) (fun X => yM (ρ := (rpT (rpQ (12 * k + 3 * m + 9 * n + 62)))) (bytes := 168) Tryz.underlying27 yB rfl rfl rfl rfl (show 0 < 9 from by decide) rfl rfl rl_5 rs_46 (by first | omega | (simp only [List.length_append, List.length_cons, List.length_nil, List.length_replicate, List.length_set]; omega)) (by first | omega | (simp only [List.length_append, List.length_cons, List.length_nil, List.length_replicate, List.length_set]; omega))) rfl (xF (by first | (simp; done) | grind)) ?_
     intro v73 q73 hq73
     obtain ⟨cs73, rfl, rl73⟩ := hq73
     replace r75 := r75.mono hh4
     refine uU (fun X => yW (ρ := (rpT (rpQ (12 * k + 3 * m + 9 * n + 62)))) (m := 1) (xs := [btw s (l.getD i (T3.mk (0 : Rat) 0 0)) (l.getD ((i + 1) % l.length) (T3.mk (0 : Rat) 0 0))]) (ps' := [(0, _)]) Tryz.underlying27 yB rfl rfl rfl (wI (wD (by omega))) ⟨rfl, rfl, trivial⟩ (yU rfl (Pc.arr (Pc.here _) (T3.mk (0 : Rat) 0 0) 0 (by decide)) r75 xY) (show 1 * 9 ≤ 16777216 from by decide) (show 0 < 9 from by decide)) rfl ?_
     intro v76 q76 hq76
     obtain ⟨cs76, rfl, rl76⟩ := hq76
     refine w_c rfl (xL (A := []) (ρ := (rpT (rpQ (12 * k + 3 * m + 9 * n + 62)))) rl76 (xM (by first | (simp; done) | grind)) ?_)
     intro h5 hh5 rs_47
     replace rl_8 := rl_8.mono ((((hh1.trans hh2).trans hh3).trans hh4).trans hh5)
     refine uC (A := [_, _, _]) (fun X => yM (ρ := (rpT (rpQ (12 * k + 3 * m + 9 * n + 62)))) (bytes := 168) Tryz.underlying27 yB rfl rfl rfl rfl (show 0 < 9 from by decide) rfl rfl rl_8 rs_47 (by first | omega | (simp only [List.length_append, List.length_cons, List.length_nil, List.length_replicate, List.length_set]; omega)) (by first | omega | (simp only [List.length_append, List.length_cons, List.length_nil, List.length_replicate, List.length_set]; omega))) rfl (xF (by first | (simp; done) | grind)) ?_
     intro v77 q77 hq77
     obtain ⟨cs77, rfl, rl77⟩ := hq77
     refine w_q rfl (fun h' L' hh hR => zY rfl) rfl (w_q rfl (fun h' L' hh hR => zY rfl) rfl (xB (yV (zB (zA (mv rfl rfl (gv (zQ (q := 1) rfl rfl (by omega) (by omega)) rfl (asg rfl rfl (zD (xC (A := []) (xC (A := []) (xC (A := []) ?_))))))))))))
     refine yQ ((i + 1), (B ++ [btw s (l.getD i (T3.mk (0 : Rat) 0 0)) (l.getD ((i + 1) % l.length) (T3.mk (0 : Rat) 0 0))]), (F ++ [btw s (l.getD i (T3.mk (0 : Rat) 0 0)) (l.getD ((i + 1) % l.length) (T3.mk (0 : Rat) 0 0))]), v73, cs73, v77, cs77, h5) ?_ ?_ ⟨rfl, rfl, rfl, rfl, rfl, rfl, rfl, trivial⟩ rfl rfl
     ·
      refine ⟨(((((hmmb.trans hh1).trans hh2).trans hh3).trans hh4).trans hh5), ?_⟩
      replace rl73 := rl73.mono hh5
      refine ⟨rl73, rl77, ?_⟩
      exact ⟨⟨by omega, (by first | exact jF hB hp1 hx1 | exact gY hB hp1 hx1 | exact fF hB hp1 hx1 | exact fG hB hp1 hx1)⟩, (by first | exact jE hF hp2 hx1 | exact gX hF hp2 hx1 | exact fD hF hp2 hx1 | exact fE hF hp2 hx1)⟩
     dsimp only
     omega
    refine uU (fun X => yW (ρ := (rpT (rpQ (12 * k + 3 * m + 9 * n + 62)))) (m := 1) (xs := [btw s (l.getD i (T3.mk (0 : Rat) 0 0)) (l.getD ((i + 1) % l.length) (T3.mk (0 : Rat) 0 0))]) (ps' := [(0, _)]) Tryz.underlying27 yB rfl rfl rfl (wI (wD (by omega))) ⟨rfl, rfl, trivial⟩ (yU rfl (Pc.arr (Pc.here _) (T3.mk (0 : Rat) 0 0) 0 (by decide)) r75 xY) (show 1 * 9 ≤ 16777216 from by decide) (show 0 < 9 from by decide)) rfl ?_
    intro v76 q76 hq76
    obtain ⟨cs76, rfl, rl76⟩ := hq76
    refine xL (A := [_]) (ρ := (rpT (rpQ (12 * k + 3 * m + 9 * n + 62)))) rl72 (xM (by first | (simp; done) | grind)) ?_
    intro h4 hh4 rs_48
    replace rl_5 := rl_5.mono (((hh1.trans hh2).trans hh3).trans hh4)
    refine uC (A := [_, _, _, _, _]) (fun X => yM (ρ := (rpT (rpQ (12 * k + 3 * m + 9 * n + 62)))) (bytes := 168) Tryz.underlying27 yB rfl rfl rfl rfl (show 0 < 9 from by decide) rfl rfl rl_5 rs_48 (by first | omega | (simp only [List.length_append, List.length_cons, List.length_nil, List.length_replicate, List.length_set]; omega)) (by first | omega | (simp only [List.length_append, List.length_cons, List.length_nil, List.length_replicate, List.length_set]; omega))) rfl (xF (by first | (simp; done) | grind)) ?_
    intro v73 q73 hq73
    obtain ⟨cs73, rfl, rl73⟩ := hq73
    refine w_c rfl ?_
    replace rl76 := rl76.mono hh4
    refine xL (A := []) (ρ := (rpT (rpQ (12 * k + 3 * m + 9 * n + 62)))) rl76 (xM (by first | (simp; done) | grind)) ?_
    intro h5 hh5 rs_49
    replace rl_8 := rl_8.mono ((((hh1.trans hh2).trans hh3).trans hh4).trans hh5)
    refine uC (A := [_, _, _]) (fun X => yM (ρ := (rpT (rpQ (12 * k + 3 * m + 9 * n + 62)))) (bytes := 168) Tryz.underlying27 yB rfl rfl rfl rfl (show 0 < 9 from by decide) rfl rfl rl_8 rs_49 (by first | omega | (simp only [List.length_append, List.length_cons, List.length_nil, List.length_replicate, List.length_set]; omega)) (by first | omega | (simp only [List.length_append, List.length_cons, List.length_nil, List.length_replicate, List.length_set]; omega))) rfl (xF (by first | (simp; done) | grind)) ?_
    intro v77 q77 hq77
    obtain ⟨cs77, rfl, rl77⟩ := hq77
    refine w_q rfl (fun h' L' hh hR => zY rfl) rfl (w_q rfl (fun h' L' hh hR => zY rfl) rfl (xB (yV (zB (zA (mv rfl rfl (gv (zQ (q := 1) rfl rfl (by omega) (by omega)) rfl (asg rfl rfl (zD (xC (A := []) (xC (A := []) (xC (A := []) ?_))))))))))))
    refine yQ ((i + 1), (B ++ [btw s (l.getD i (T3.mk (0 : Rat) 0 0)) (l.getD ((i + 1) % l.length) (T3.mk (0 : Rat) 0 0))]), (F ++ [btw s (l.getD i (T3.mk (0 : Rat) 0 0)) (l.getD ((i + 1) % l.length) (T3.mk (0 : Rat) 0 0))]), v73, cs73, v77, cs77, h5) ?_ ?_ ⟨rfl, rfl, rfl, rfl, rfl, rfl, rfl, trivial⟩ rfl rfl
    ·
     refine ⟨(((((hmmb.trans hh1).trans hh2).trans hh3).trans hh4).trans hh5), ?_⟩
     replace rl73 := rl73.mono hh5
     refine ⟨rl73, rl77, ?_⟩
     exact ⟨⟨by omega, (by first | exact jF hB hp1 hx1 | exact gY hB hp1 hx1 | exact fF hB hp1 hx1 | exact fG hB hp1 hx1)⟩, (by first | exact jE hF hp2 hx1 | exact gX hF hp2 hx1 | exact fD hF hp2 hx1 | exact fE hF hp2 hx1)⟩
    dsimp only
    omega
   refine uU (fun X => yW (ρ := (rpT (rpQ (12 * k + 3 * m + 9 * n + 62)))) (m := 1) (xs := [btw s (l.getD i (T3.mk (0 : Rat) 0 0)) (l.getD ((i + 1) % l.length) (T3.mk (0 : Rat) 0 0))]) (ps' := [(0, _)]) Tryz.underlying27 yB rfl rfl rfl (wI (wD (by omega))) ⟨rfl, rfl, trivial⟩ (yU rfl (Pc.arr (Pc.here _) (T3.mk (0 : Rat) 0 0) 0 (by decide)) r75 xY) (show 1 * 9 ≤ 16777216 from by decide) (show 0 < 9 from by decide)) rfl ?_
   intro v76 q76 hq76
   obtain ⟨cs76, rfl, rl76⟩ := hq76
   refine uU (fun X => yW (ρ := (rpT (rpQ (12 * k + 3 * m + 9 * n + 62)))) (m := 1) (xs := [btw s (l.getD i (T3.mk (0 : Rat) 0 0)) (l.getD ((i + 1) % l.length) (T3.mk (0 : Rat) 0 0))]) (ps' := [(0, _)]) Tryz.underlying27 yB rfl rfl rfl (wI (wD (by omega))) ⟨rfl, rfl, trivial⟩ (yU rfl (Pc.arr (Pc.here _) (T3.mk (0 : Rat) 0 0) 0 (by decide)) r71 xY) (show 1 * 9 ≤ 16777216 from by decide) (show 0 < 9 from by decide)) rfl ?_
   intro v72 q72 hq72
   obtain ⟨cs72, rfl, rl72⟩ := hq72
   refine xL (A := []) (ρ := (rpT (rpQ (12 * k + 3 * m + 9 * n + 62)))) rl72 (xM (by first | (simp; done) | grind)) ?_
   intro h4 hh4 rs_50
   replace rl_5 := rl_5.mono (((hh1.trans hh2).trans hh3).trans hh4)
   refine uC (A := [_, _, _, _, _]) (fun X => yM (ρ := (rpT (rpQ (12 * k + 3 * m + 9 * n + 62)))) (bytes := 168) Tryz.underlying27 yB rfl rfl rfl rfl (show 0 < 9 from by decide) rfl rfl rl_5 rs_50 (by first | omega | (simp only [List.length_append, List.length_cons, List.length_nil, List.length_replicate, List.length_set]; omega)) (by first | omega | (simp only [List.length_append, List.length_cons, List.length_nil, List.length_replicate, List.length_set]; omega))) rfl (xF (by first | (simp; done) | grind)) ?_
   intro v73 q73 hq73
   obtain ⟨cs73, rfl, rl73⟩ := hq73
   refine w_c rfl ?_
   replace rl76 := rl76.mono hh4
   refine xL (A := []) (ρ := (rpT (rpQ (12 * k + 3 * m + 9 * n + 62)))) rl76 (xM (by first | (simp; done) | grind)) ?_
   intro h5 hh5 rs_51
   replace rl_8 := rl_8.mono ((((hh1.trans hh2).trans hh3).trans hh4).trans hh5)
   refine uC (A := [_, _, _]) (fun X => yM (ρ := (rpT (rpQ (12 * k + 3 * m + 9 * n + 62)))) (bytes := 168) Tryz.underlying27 yB rfl rfl rfl rfl (show 0 < 9 from by decide) rfl rfl rl_8 rs_51 (by first | omega | (simp only [List.length_append, List.length_cons, List.length_nil, List.length_replicate, List.length_set]; omega)) (by first | omega | (simp only [List.length_append, List.length_cons, List.length_nil, List.length_replicate, List.length_set]; omega))) rfl (xF (by first | (simp; done) | grind)) ?_
   intro v77 q77 hq77
   obtain ⟨cs77, rfl, rl77⟩ := hq77
   refine w_q rfl (fun h' L' hh hR => zY rfl) rfl (w_q rfl (fun h' L' hh hR => zY rfl) rfl (xB (yV (zB (zA (mv rfl rfl (gv (zQ (q := 1) rfl rfl (by omega) (by omega)) rfl (asg rfl rfl (zD (xC (A := []) (xC (A := []) (xC (A := []) ?_))))))))))))
   refine yQ ((i + 1), (B ++ [btw s (l.getD i (T3.mk (0 : Rat) 0 0)) (l.getD ((i + 1) % l.length) (T3.mk (0 : Rat) 0 0))]), (F ++ [btw s (l.getD i (T3.mk (0 : Rat) 0 0)) (l.getD ((i + 1) % l.length) (T3.mk (0 : Rat) 0 0))]), v73, cs73, v77, cs77, h5) ?_ ?_ ⟨rfl, rfl, rfl, rfl, rfl, rfl, rfl, trivial⟩ rfl rfl
   ·
    refine ⟨(((((hmmb.trans hh1).trans hh2).trans hh3).trans hh4).trans hh5), ?_⟩
    replace rl73 := rl73.mono hh5
    refine ⟨rl73, rl77, ?_⟩
    exact ⟨⟨by omega, (by first | exact jF hB hp1 hx1 | exact gY hB hp1 hx1 | exact fF hB hp1 hx1 | exact fG hB hp1 hx1)⟩, (by first | exact jE hF hp2 hx1 | exact gX hF hp2 hx1 | exact fD hF hp2 hx1 | exact fE hF hp2 hx1)⟩
   dsimp only
   omega
  have hx1 : ¬ xP s l i := hc65
  refine wH (e' := [(0, _), (3, _), (6, _), (7, _), (10, _), (8, _), (9, _)]) ⟨rfl, rfl, rfl, rfl, rfl, rfl, rfl, trivial⟩ (zL (yV (zB (zA (mv rfl rfl (gv (zQ (q := 1) rfl rfl (by omega) (by omega)) rfl (asg rfl rfl (zD (xC (A := []) (xC (A := []) ?_))))))))))
  refine yQ ((i + 1), B, F, s6_3, cs_4, s7_6, cs_7, h2) ?_ ?_ ⟨rfl, rfl, rfl, rfl, rfl, rfl, rfl, trivial⟩ rfl rfl
  ·
   refine ⟨((hmmb.trans hh1).trans hh2), ?_⟩
   replace rl_5 := rl_5.mono (hh1.trans hh2)
   replace rl_8 := rl_8.mono (hh1.trans hh2)
   refine ⟨rl_5, rl_8, ?_⟩
   exact ⟨⟨by omega, (by first | exact jF hB hp1 hx1 | exact gY hB hp1 hx1 | exact fF hB hp1 hx1 | exact fG hB hp1 hx1)⟩, (by first | exact jE hF hp2 hx1 | exact gX hF hp2 hx1 | exact fD hF hp2 hx1 | exact fE hF hp2 hx1)⟩
  dsimp only
  omega
 have ej : i = l.length := by omega
 rw [ej] at hB hF
 refine xQ (yE (yE (xO (zB (zC (zS (zC (zA (mv rfl rfl (gv (kS rfl) rfl ?_))))))))))
 refine vO (ι := Unit) 4 (fun _ => True) (fun _ => [(84, vB ((¬ (qQ s l i)) ∧ (¬ (qJ s l i)))), (0, vl), (6, s6_3), (7, s7_6), (8, vB (qQ s l i)), (9, vB (qJ s l i))]) (fun _ => [.gs 32 9 s7_6 F.length cs_7, .gs 32 9 s6_3 B.length cs_4, .var b3 34 cs3]) (fun _ => mb) ?_ ?_
 ·
  refine wM (¬ (qQ s l i)) (fun hg => ?_) (fun hg => ?_)
  ·
   refine xH (zG (v := .bool true) (congrArg some (xS hg))) rfl rfl rfl (xA rfl rfl rfl (mv rfl rfl (xA rfl rfl rfl (gv (kS rfl) rfl (gv (xK rfl rfl) rfl (zD ?_))))))
   refine yN () trivial ⟨?_, rfl, rfl, rfl, rfl, rfl, trivial⟩ rfl rfl
   exact congrArg some (uI hg)
  refine xH (zG (v := .bool false) (congrArg some (yX hg))) rfl rfl rfl (yL rfl rfl rfl rfl rfl rfl (yL rfl rfl rfl rfl rfl rfl (gv (wB rfl rfl) rfl (zD ?_))))
  refine yN () trivial ⟨?_, rfl, rfl, rfl, rfl, rfl, trivial⟩ rfl rfl
  exact congrArg some (uJ hg)
 intro _ _
 show GL _ _ _ _ _ _ _ [(84, vB ((¬ (qQ s l i)) ∧ (¬ (qJ s l i)))), (0, vl), (6, s6_3), (7, s7_6), (8, vB (qQ s l i)), (9, vB (qJ s l i))] [.gs 32 9 s7_6 F.length cs_7, .gs 32 9 s6_3 B.length cs_4, .var b3 34 cs3] mb
 refine asg rfl rfl (zD (zB ?_))
 refine zO rfl (fun hc78 => ?_) (fun hc78 => ?_)
 ·
  refine zC (zA (mv rfl rfl (nC 32 9 ?_)))
  have rl_52 : RL (rpT (rpQ k)) mb [] ([] : List (T3 Rat)) := RL.nil
  refine qN (A := []) (yM (ρ := (rpT (rpQ k))) (bytes := 168) Tryz.underlying27 yB rfl rfl rfl rfl (show 0 < 9 from by decide) rfl rfl rl_52 rl (by first | omega | (simp only [List.length_append, List.length_cons, List.length_nil, List.length_replicate, List.length_set]; omega)) (by first | omega | (simp only [List.length_append, List.length_cons, List.length_nil, List.length_replicate, List.length_set]; omega))) rfl rfl rfl ?_
  intro v86 q86 hq86
  obtain ⟨cs86, rfl, rl86⟩ := hq86
  refine asg rfl rfl (asg rfl rfl (zD (zB (zR (wY (zX (kC (A := []) (ρ := (rpT (rpQ k))) rl86 ?_)))))))
  intro h1 hh1 rs_53
  refine vG rfl rfl rfl ?_
  refine ⟨_, _, ?_, (Rp.Is.cast (Rp.Is.le rs_53 (Le.s (Le.t (Le.q (l := 12 * k + 3 * m + 9 * n + 62) (by omega))))) (by rw [List.nil_append]; exact (cP (by rw [← ej]; exact hc78.2)).1.symm)), (Rp.Is.cast (cI _) (by exact (cP (by rw [← ej]; exact hc78.2)).2.symm))⟩
  rfl
 refine zC (zA (mv rfl rfl (gv (kS rfl) rfl (asg rfl rfl (zD (zB ?_))))))
 refine zO rfl (fun hc87 => ?_) (fun hc87 => ?_)
 ·
  refine zC (zA (mv rfl rfl (asg rfl rfl (asg rfl rfl (zD (zJ (e' := [(4, _), (5, _)]) ⟨rfl, rfl, trivial⟩ (zB (zR (wY (zX (kC (A := []) (ρ := (rpT (rpQ (12 * k + 3 * m + 9 * n + 62)))) rl_8 ?_)))))))))))
  intro h1 hh1 rs_54
  refine vG rfl rfl rfl ?_
  refine ⟨_, _, ?_, (Rp.Is.cast (cI _) (by exact (cut_nb (by rw [← ej]; exact Classical.byContradiction fun e => hc78 ⟨hc87, e⟩) (by rw [← ej]; exact hc87)).1.symm)), (Rp.Is.cast rs_54 (by rw [hF]; exact (cut_nb (by rw [← ej]; exact Classical.byContradiction fun e => hc78 ⟨hc87, e⟩) (by rw [← ej]; exact hc87)).2.symm))⟩
  rfl
 refine zC (zA (mv rfl rfl (gv (kS rfl) rfl (asg rfl rfl (zD (zJ (e' := [(6, _), (7, _), (91, _)]) ⟨rfl, rfl, rfl, trivial⟩ (zB ?_)))))))
 refine zO rfl (fun hc91 => ?_) (fun hc91 => ?_)
 ·
  refine zC (zA (mv rfl rfl (asg rfl rfl (asg rfl rfl (zD (zB (zR (wY (zX (kC (A := [_]) (ρ := (rpT (rpQ (12 * k + 3 * m + 9 * n + 62)))) rl_5 ?_))))))))))
  intro h1 hh1 rs_55
  refine vG rfl rfl rfl ?_
  refine ⟨_, _, ?_, (Rp.Is.cast rs_55 (by rw [hB]; exact (cut_na (by rw [← ej]; exact hc91)).1.symm)), (Rp.Is.cast (cI _) (by exact (cut_na (by rw [← ej]; exact hc91)).2.symm))⟩
  rfl
 refine zL (yV (zB (zC (zA (mv rfl rfl (mv rfl rfl (asg rfl rfl (asg rfl rfl (zD (zB (zR (kC (A := [_]) (ρ := (rpT (rpQ (12 * k + 3 * m + 9 * n + 62)))) rl_5 ?_))))))))))))
 intro h1 hh1 rs_56
 replace rl_8 := rl_8.mono hh1
 refine kC (A := []) (ρ := (rpT (rpQ (12 * k + 3 * m + 9 * n + 62)))) rl_8 ?_
 intro h2 hh2 rs_57
 refine vG rfl rfl rfl ?_
 replace rs_56 := rs_56.mono hh2
 refine ⟨_, _, ?_, (Rp.Is.cast rs_56 (by rw [hB]; exact (sL (by rw [← ej]; exact Classical.not_not.1 hc91) (by rw [← ej]; exact Classical.not_not.1 hc87)).1.symm)), (Rp.Is.cast rs_57 (by rw [hF]; exact (sL (by rw [← ej]; exact Classical.not_not.1 hc91) (by rw [← ej]; exact Classical.not_not.1 hc87)).2.symm))⟩
 rfl
end Go.Proofs.YtghhjjmjpeehdaaGreat
namespace Bk
set_option linter.unusedVariables false
set_option linter.unusedSimpArgs false
open Classical
noncomputable def sqrL (s : Pl) (x0 y0 x1 y1 : Rat) : List Pt := [qO s (T3.mk x0 y0 (0 : Rat)), qO s (T3.mk x1 y0 (0 : Rat)), qO s (T3.mk x1 y1 (0 : Rat)), qO s (T3.mk x0 y1 (0 : Rat))]
noncomputable def tU (s : Pl) (ps : List Pt) : Nat → Pt
  | 0 => qP s (gp ps 0)
  | m + 1 => T3.mk (kL (tU s ps m).x (qP s (gp ps m)).x) (kL (tU s ps m).y (qP s (gp ps m)).y) (tU s ps m).z
noncomputable def tV (s : Pl) (ps : List Pt) : Nat → Pt
  | 0 => qP s (gp ps 0)
  | m + 1 => T3.mk (kI (tV s ps m).x (qP s (gp ps m)).x) (kI (tV s ps m).y (qP s (gp ps m)).y) (tV s ps m).z
noncomputable def aroZ (s : Pl) (ps : List Pt) : List Pt :=
  if ps.length = 0 ∨ s.1 = zT then [] else sqrL s ((tU s ps ps.length).x - ((1 : Int) : Rat)) ((tU s ps ps.length).y - ((1 : Int) : Rat)) ((tV s ps ps.length).x + ((1 : Int) : Rat)) ((tV s ps ps.length).y + ((1 : Int) : Rat))
theorem lo_hi2 (s : Pl) (ps : List Pt) : ∀ m, (tU s ps m).x ≤ (tV s ps m).x ∧ (tU s ps m).y ≤ (tV s ps m).y
  | 0 => ⟨Rat.le_refl, Rat.le_refl⟩
  | m + 1 => by
    obtain ⟨h1, h2⟩ := lo_hi2 s ps m
    have key : ∀ {a b c : Rat}, a ≤ b → kL a c ≤ kI b c := fun {a b c} h => by
      unfold kL kI
      split <;> split <;> grind
    exact ⟨key h1, key h2⟩
theorem w3 {x0 y0 x1 y1 : Rat} (hx : x0 < x1) (hy : y0 < y1) : mI (fun m => (([(x0, y0), (x1, y0), (x1, y1), (x0, y1)] : List P2)).getD m (0, 0)) 4 := by
  have hp : 0 < (x1 - x0) * (y1 - y0) := Rat.mul_pos (by grind) (by grind)
  intro i j k hij hjk hk
  have h : (i = 0 ∧ j = 1 ∧ k = 2) ∨ (i = 0 ∧ j = 1 ∧ k = 3) ∨ (i = 0 ∧ j = 2 ∧ k = 3) ∨ (i = 1 ∧ j = 2 ∧ k = 3) := by omega
  rcases h with ⟨rfl, rfl, rfl⟩ | ⟨rfl, rfl, rfl⟩ | ⟨rfl, rfl, rfl⟩ | ⟨rfl, rfl, rfl⟩ <;> simp [cr] <;> grind
theorem pt2_lift {s : Pl} {q : Pt} (h : ¬ s.1.at (axK s.1) = 0) : pt2 s (qO s q) = (q.x, q.y) := by
  unfold qO
  rw [if_neg h]
  generalize k3 s q = u
  unfold pt2 pr
  rcases dW s.1 with ⟨e1, e2, e3⟩ | ⟨e1, e2, e3⟩ | ⟨e1, e2, e3⟩ | ⟨e1, e2, e3⟩ | ⟨e1, e2, e3⟩ | ⟨e1, e2, e3⟩ <;> rw [e1, e2, e3] <;> rfl
theorem sqr_conv {s : Pl} {x0 y0 x1 y1 : Rat} (hn : ¬ s.1 = zT) (hx : x0 < x1) (hy : y0 < y1) : fN s (sqrL s x0 y0 x1 y1) := by
  have hk : ¬ s.1.at (axK s.1) = 0 := fun e => hn ((lJ _).1 e)
  have hc : ∀ m, m < 4 → m = 0 ∨ m = 1 ∨ m = 2 ∨ m = 3 := fun m hm => by omega
  refine mD (by show 3 ≤ 4; omega) hn (fun m hm => ?_) ?_
  · rcases hc m hm with rfl | rfl | rfl | rfl <;> exact side_lift hk
  · have h := w3 hx hy
    have e : ∀ m, m < 4 → pt2 s (gp (sqrL s x0 y0 x1 y1) m) = (([(x0, y0), (x1, y0), (x1, y1), (x0, y1)] : List P2)).getD m (0, 0) := fun m hm => by
      rcases hc m hm with rfl | rfl | rfl | rfl <;> exact pt2_lift hk
    intro i j k hij hjk hk
    have hk' : k < 4 := hk
    show 0 < cr (pt2 s (gp _ i)) (pt2 s (gp _ j)) (pt2 s (gp _ k))
    rw [e i (by omega), e j (by omega), e k hk']
    exact h i j k hij hjk hk'
theorem f6 {s : Pl} {ps : List Pt} (hl : ¬ ps.length = 0) (hn : ¬ s.1 = zT) : fN s (aroZ s ps) ∧ (aroZ s ps).length = 4 := by
  unfold aroZ
  rw [if_neg (fun e => e.elim hl hn)]
  obtain ⟨h1, h2⟩ := lo_hi2 s ps ps.length
  have e : (((1 : Int) : Rat)) = 1 := rfl
  rw [e]
  exact ⟨sqr_conv hn (by grind) (by grind), rfl⟩
def i3 (x y z : Int) : Pt := T3.mk ((x : Int) : Rat) ((y : Int) : Rat) ((z : Int) : Rat)
def sq0 : List Pt := [i3 0 0 0, i3 2 0 0, i3 2 2 0, i3 0 2 0]
theorem z6 : fN (i3 0 0 1, (0 : Rat)) sq0 := by
  have hn : ¬ (i3 0 0 1) = zT := fun e => absurd (congrArg T3.z e) (by decide +kernel)
  have e1 : axI (i3 0 0 1) = 0 := if_pos (by decide +kernel)
  have e2 : axJ (i3 0 0 1) = 1 := if_pos (by decide +kernel)
  have hc : ∀ m, m < 4 → m = 0 ∨ m = 1 ∨ m = 2 ∨ m = 3 := fun m hm => by omega
  refine mD (by show 3 ≤ 4; omega) hn (fun m hm => ?_) ?_
  · rw [nS]
    rcases hc m hm with rfl | rfl | rfl | rfl <;> decide +kernel
  · have h := w3 (x0 := 0) (y0 := 0) (x1 := 2) (y1 := 2) (by decide +kernel) (by decide +kernel)
    have e : ∀ m, m < 4 → pt2 (i3 0 0 1, (0 : Rat)) (gp sq0 m) = (([((0 : Rat), (0 : Rat)), (2, 0), (2, 2), (0, 2)] : List P2)).getD m (0, 0) := fun m hm => by
      unfold pt2
      simp only [e1, e2]
      rcases hc m hm with rfl | rfl | rfl | rfl <;> rfl
    intro i j k hij hjk hk
    have hk' : k < 4 := hk
    show 0 < cr (pt2 _ (gp _ i)) (pt2 _ (gp _ j)) (pt2 _ (gp _ k))
    rw [e i (by omega), e j (by omega), e k hk']
    exact h i j k hij hjk hk'
def pl0 : Pl := (i3 1 0 0, (1 : Rat))
theorem tA : tO pl0 sq0 = [i3 0 0 0, btw pl0 (i3 0 0 0) (i3 2 0 0), btw pl0 (i3 2 2 0) (i3 0 2 0), i3 0 2 0] ∧ sM pl0 sq0 = [btw pl0 (i3 0 0 0) (i3 2 0 0), i3 2 0 0, i3 2 2 0, btw pl0 (i3 2 2 0) (i3 0 2 0)] := by
  have m1 : sdZ pl0 (gp sq0 0) = -1 := jD.2 (by decide +kernel)
  have m2 : sdZ pl0 (gp sq0 1) = 1 := jX.2 (by decide +kernel)
  have m3 : sdZ pl0 (gp sq0 2) = 1 := jX.2 (by decide +kernel)
  have m4 : sdZ pl0 (gp sq0 3) = -1 := jD.2 (by decide +kernel)
  have x1 : xP pl0 sq0 0 := by show sdZ pl0 (gp sq0 0) * sdZ pl0 (gp sq0 1) < 0; rw [m1, m2]; decide
  have x2 : ¬ xP pl0 sq0 1 := by show ¬ sdZ pl0 (gp sq0 1) * sdZ pl0 (gp sq0 2) < 0; rw [m2, m3]; decide
  have x3 : xP pl0 sq0 2 := by show sdZ pl0 (gp sq0 2) * sdZ pl0 (gp sq0 3) < 0; rw [m3, m4]; decide
  have x4 : ¬ xP pl0 sq0 3 := by show ¬ sdZ pl0 (gp sq0 3) * sdZ pl0 (gp sq0 0) < 0; rw [m4, m1]; decide
  have hb : qQ pl0 sq0 sq0.length := (nZ _).2 ⟨0, by decide, by rw [m1]; decide⟩
  have ha : qJ pl0 sq0 sq0.length := (mA _).2 ⟨1, by decide, by rw [m2]; decide⟩
  rw [(sL ha hb).1, (sL ha hb).2]
  have b1 := jF (B := []) (pl := pl0) (l := sq0) (m := 0) rfl (by rw [m1]; decide) x1
  have b2 := fG b1 (by rw [m2]; decide) x2
  have b3 := fF b2 (by rw [m3]; decide) x3
  have b4 := gY b3 (by rw [m4]; decide) x4
  have f1 := fD (B := []) (pl := pl0) (l := sq0) (m := 0) rfl (by rw [m1]; decide) x1
  have f2 := gX f1 (by rw [m2]; decide) x2
  have f3 := jE f2 (by rw [m3]; decide) x3
  have f4 := fE f3 (by rw [m4]; decide) x4
  exact ⟨b4.symm, f4.symm⟩
theorem sane_pt : btw pl0 (i3 0 0 0) (i3 2 0 0) = i3 1 0 0 := by
  unfold btw cutT lerp i3
  rw [T3.mk.injEq]
  decide +kernel
end Bk
namespace Go.Proofs.YtghhjjmjpeehdaaGreat
open Bk Go
set_option linter.unusedVariables false
set_option linter.unusedSimpArgs false
set_option maxRecDepth 10000
theorem u5 {w0 : World} {h0 : Mem}  (hs : MLe h0 (mem w0)) {m l k : Nat} {vs : Value} {s : ((T3 Rat) × Rat)} (rs : (rpP (rpT (rpQ m)) (rpQ l)).Is h0 vs s) {vx : Value} {x : Rat} (rx : (rpQ k).Is h0 vx x) {vy : Value} {y : Rat} (ry : (rpQ k).Is h0 vy y) {vu : Value} {u : Rat} (ru : (rpQ k).Is h0 vu u) {vv : Value} {v : Rat} (rv : (rpQ k).Is h0 vv v) (hcd0 : k ≤ 100000) (hcd1 : l ≤ 100000) (hcd2 : m ≤ 100000)  :
    Calls Tryz.prog 76 #[vs, vx, vy, vu, vv] w0 (Ret w0 h0 (fun h r => (rpS (rpT (rpQ (3 * k + l + 4 * m + 33)))).Is h r (sqrL s x y u v))) := by
 refine zP (n := 46) (e := [(0, vs), (1, vx), (2, vy), (3, vu), (4, vv)]) (vs := [vs, vx, vy, vu, vv]) Tryz.func76 rfl rfl (Nat.le_of_ble_eq_true rfl) hs ⟨rfl, rfl, rfl, rfl, rfl, trivial⟩ (zC (zA (zK (yY (ρ := (rpP (rpT (rpQ m)) (rpQ l))) rfl rs) rfl rfl rfl ?_)))
 intro v5 q5 hq5
 obtain ⟨b5, cs5, rfl, rfl, rb5⟩ := hq5
 refine zK (yY (ρ := (rpQ k)) rfl rx) rfl rfl rfl ?_
 intro v6 q6 hq6
 obtain ⟨b6, cs6, rfl, rfl, rb6⟩ := hq6
 refine zK (yY (ρ := (rpQ k)) rfl ry) rfl rfl rfl ?_
 intro v7 q7 hq7
 obtain ⟨b7, cs7, rfl, rfl, rb7⟩ := hq7
 refine zK (yY (ρ := (rpQ k)) rfl ru) rfl rfl rfl ?_
 intro v8 q8 hq8
 obtain ⟨b8, cs8, rfl, rfl, rb8⟩ := hq8
 refine zK (yY (ρ := (rpQ k)) rfl rv) rfl rfl rfl ?_
 intro v9 q9 hq9
 obtain ⟨b9, cs9, rfl, rfl, rb9⟩ := hq9
 refine asg rfl rfl (zD (zB (zC (zA (asg rfl rfl (zD (zB (zC (zA (wG (F := fun v_ => (rpQ k).Is h0 v_ x) (zE wA (Pc.here _) rfl rfl rb6 rfl) (yF (.tail _ (.tail _ (.tail _ (.head _))))) rfl ?_))))))))))
 intro v16 r16
 refine wG (F := fun v_ => (rpQ k).Is h0 v_ y) (zE wA (Pc.here _) rfl rfl rb7 rfl) (yF (.tail _ (.tail _ (.head _)))) rfl ?_
 intro v17 r17
 refine wG (F := fun v_ => (rpT (rpQ (k + 1))).Is h0 v_ (T3.mk x y (0 : Rat))) (wV (ps' := [(0, _), (1, _)]) Tryz.underlying32 yB rfl rfl Tryz.sizeOf30 ⟨rfl, rfl, rfl, rfl, trivial⟩ rfl (wI (wD (by omega))) (yU rfl (Pc.tx (Pc.here _)) (r16.le (Le.q (l := k + 1) (by omega))) (yU rfl (Pc.ty (Pc.here _)) (r17.le (Le.q (l := k + 1) (by omega))) xY))) uH rfl ?_
 intro v18 r18
 refine wG (F := fun v_ => (rpQ k).Is h0 v_ u) (zE wA (Pc.here _) rfl rfl rb8 rfl) (yF (.tail _ (.head _))) rfl ?_
 intro v19 r19
 refine wG (F := fun v_ => (rpQ k).Is h0 v_ y) (zE wA (Pc.here _) rfl rfl rb7 rfl) (yF (.tail _ (.tail _ (.head _)))) rfl ?_
 intro v20 r20
 refine wG (F := fun v_ => (rpT (rpQ (k + 1))).Is h0 v_ (T3.mk u y (0 : Rat))) (wV (ps' := [(0, _), (1, _)]) Tryz.underlying32 yB rfl rfl Tryz.sizeOf30 ⟨rfl, rfl, rfl, rfl, trivial⟩ rfl (wI (wD (by omega))) (yU rfl (Pc.tx (Pc.here _)) (r19.le (Le.q (l := k + 1) (by omega))) (yU rfl (Pc.ty (Pc.here _)) (r20.le (Le.q (l := k + 1) (by omega))) xY))) uH rfl ?_
 intro v21 r21
 refine wG (F := fun v_ => (rpQ k).Is h0 v_ u) (zE wA (Pc.here _) rfl rfl rb8 rfl) (yF (.tail _ (.head _))) rfl ?_
 intro v22 r22
 refine wG (F := fun v_ => (rpQ k).Is h0 v_ v) (zE wA (Pc.here _) rfl rfl rb9 rfl) (yF (.head _)) rfl ?_
 intro v23 r23
 refine wG (F := fun v_ => (rpT (rpQ (k + 1))).Is h0 v_ (T3.mk u v (0 : Rat))) (wV (ps' := [(0, _), (1, _)]) Tryz.underlying32 yB rfl rfl Tryz.sizeOf30 ⟨rfl, rfl, rfl, rfl, trivial⟩ rfl (wI (wD (by omega))) (yU rfl (Pc.tx (Pc.here _)) (r22.le (Le.q (l := k + 1) (by omega))) (yU rfl (Pc.ty (Pc.here _)) (r23.le (Le.q (l := k + 1) (by omega))) xY))) uH rfl ?_
 intro v24 r24
 refine wG (F := fun v_ => (rpQ k).Is h0 v_ x) (zE wA (Pc.here _) rfl rfl rb6 rfl) (yF (.tail _ (.tail _ (.tail _ (.head _))))) rfl ?_
 intro v25 r25
 refine wG (F := fun v_ => (rpQ k).Is h0 v_ v) (zE wA (Pc.here _) rfl rfl rb9 rfl) (yF (.head _)) rfl ?_
 intro v26 r26
 refine wG (F := fun v_ => (rpT (rpQ (k + 1))).Is h0 v_ (T3.mk x v (0 : Rat))) (wV (ps' := [(0, _), (1, _)]) Tryz.underlying32 yB rfl rfl Tryz.sizeOf30 ⟨rfl, rfl, rfl, rfl, trivial⟩ rfl (wI (wD (by omega))) (yU rfl (Pc.tx (Pc.here _)) (r25.le (Le.q (l := k + 1) (by omega))) (yU rfl (Pc.ty (Pc.here _)) (r26.le (Le.q (l := k + 1) (by omega))) xY))) uH rfl ?_
 intro v27 r27
 refine wG (F := fun v_ => (rpA 4 (rpT (rpQ (k + 1)))).Is h0 v_ [(T3.mk x y (0 : Rat)), (T3.mk u y (0 : Rat)), (T3.mk u v (0 : Rat)), (T3.mk x v (0 : Rat))]) (wV (ps' := [(0, _), (1, _), (2, _), (3, _)]) Tryz.underlying119 info119 rfl rfl Tryz.sizeOf32 ⟨rfl, rfl, rfl, rfl, rfl, rfl, rfl, rfl, trivial⟩ rfl (zr_a 4 (wI (wD (by omega)))) (yU rfl (Pc.arr (Pc.here _) (T3.mk (0 : Rat) 0 0) 0 (by decide)) r18 (yU rfl (Pc.arr (Pc.here _) (T3.mk (0 : Rat) 0 0) 1 (by decide)) r21 (yU rfl (Pc.arr (Pc.here _) (T3.mk (0 : Rat) 0 0) 2 (by decide)) r24 (yU rfl (Pc.arr (Pc.here _) (T3.mk (0 : Rat) 0 0) 3 (by decide)) r27 xY))))) uH rfl ?_
 intro v28 r28
 refine zK (yZ (ρ := (rpA 4 (rpT (rpQ 1)))) (X := (List.replicate 4 (T3.mk (0 : Rat) 0 0))) info119 rfl rfl (zr_a 4 (wI (wD (by decide))))) rfl rfl rfl ?_
 intro v12 q12 hq12
 obtain ⟨b12, cs12, rfl, rfl, rb12⟩ := hq12
 have rw_1 := (Le.a (Le.t (Le.q (l := k + 1) (by omega)))).R rb12
 refine wE (A := []) (F := fun c_ => (rpA 4 (rpT (rpQ (k + 1)))).R h0 c_ [(T3.mk x y (0 : Rat)), (T3.mk u y (0 : Rat)), (T3.mk u v (0 : Rat)), (T3.mk x v (0 : Rat))]) (yG Tryz.sizeOf119 (Pc.here _) rfl rfl rfl rw_1 r28 rfl) ?_
 intro cs_2 rb_3
 refine zD (zJ (e' := [(5, _), (11, _), (12, _)]) ⟨rfl, rfl, rfl, trivial⟩ (zB (zC (zC (zA (asg (v := vI (0)) rfl rfl (zD (zB (zS (jS (zC (zC (zA ?_)))))))))))))
 refine mv rfl rfl (gv (OpV.tr (by decide) (zW (q := 4) rfl rfl)) rfl (zD (zB (xR rfl (zL (zB (zC (zS (zC ?_)))))))))
 refine yI 11 _ [(8, (14, 32, [.bool false, .slice none 0 0, .slice none 0 0, .bool false, .slice none 0 0, .slice none 0 0, .bool false, .slice none 0 0, .slice none 0 0]))] [(0, .q), (1, .q), (2, .q), (3, .q), (4, .c), (5, .q), (6, .q), (7, .q), (8, .a), (9, .c), (10, .q)] xI (jG.cons rfl (uT yB rfl rfl) jG.nil) (by kernel_rfl) (uV rfl rfl jY) (fun r hr => hr) (yR (F := fun v_ => (rpP (rpT (rpQ m)) (rpQ l)).Is h0 v_ s) rfl (zE kE (Pc.here _) rfl rfl rb5 rfl) (yF (.tail _ (.tail _ (.tail _ (.tail _ (.tail _ (.head _))))))) rfl ?_)
 intro v34u1 r34u1
 refine w_q rfl (fun h' L' hh hR => zG rfl) rfl (w_q rfl (fun h' L' hh hR => (zH (sz := 9) 0 Tryz.underlying119 Tryz.sizeOf32 rfl rfl rfl (by decide)).cv (show _ = vP b12 0 from congrArg (vP b12) (by rfl))) rfl (yR (F := fun v_ => (rpT (rpQ (k + 1))).Is h0 v_ ([(T3.mk x y (0 : Rat)), (T3.mk u y (0 : Rat)), (T3.mk u v (0 : Rat)), (T3.mk x v (0 : Rat))].getD 0 (T3.mk (0 : Rat) 0 0))) rfl (zE xG (Pc.arr (Pc.here _) (T3.mk (0 : Rat) 0 0) 0 (by decide)) rfl rfl rb_3 rfl) (yF (.head _)) rfl ?_))
 intro v37u1 r37u1
 refine w_c rfl ?_
 refine yD (vs := [_, _]) Tryz.call114 ⟨rfl, rfl, trivial⟩ (fun w hs => cY hs r34u1 r37u1 (by omega) (by omega) (by omega)) rfl ?_
 intro v38u1 h1 hh1 r38u1
 obtain ⟨v38u1_0, rfl, r38u1_0⟩ := r38u1
 change (rpT (rpQ (3 * (k + 1) + l + 4 * m + 30))).Is h1 v38u1_0 (qO s ([(T3.mk x y (0 : Rat)), (T3.mk u y (0 : Rat)), (T3.mk u v (0 : Rat)), (T3.mk x v (0 : Rat))].getD 0 (T3.mk (0 : Rat) 0 0))) at r38u1_0
 replace r38u1_0 := Rp.Is.le r38u1_0 (Le.t (Le.q (l := 3 * k + l + 4 * m + 33) (by omega)))
 refine w_q rfl (fun h' L' hh hR => zG rfl) rfl (w_q rfl (fun h' L' hh hR => zN (vs := [_, _]) rfl rfl) rfl (w_q rfl (fun h' L' hh hR => zN (vs := [_, _]) rfl rfl) rfl ?_))
 refine w_a rfl (fun b14u1 => ?_)
 have rb14u1 : (rpT (rpQ (3 * k + l + 4 * m + 33))).R h1 [.bool false, .slice none 0 0, .slice none 0 0, .bool false, .slice none 0 0, .slice none 0 0, .bool false, .slice none 0 0, .slice none 0 0] (T3.mk (0 : Rat) 0 0) := (wI (wD (by omega)))
 refine w_c rfl (tB (A := []) (F := fun c_ => (rpT (rpQ (3 * k + l + 4 * m + 33))).R h1 c_ (qO s ([(T3.mk x y (0 : Rat)), (T3.mk u y (0 : Rat)), (T3.mk u v (0 : Rat)), (T3.mk x v (0 : Rat))].getD 0 (T3.mk (0 : Rat) 0 0)))) (yG Tryz.sizeOf32 (Pc.here _) rfl rfl rfl rb14u1 r38u1_0 rfl) (xF (by first | (simp; done) | grind)) ?_)
 intro cs_4 rb_5
 refine w_q rfl (fun h' L' hh hR => zY rfl) rfl (xB (zJ (e' := [(5, _), (11, _), (12, _), (13, _), (14, _)]) ⟨rfl, rfl, rfl, rfl, rfl, trivial⟩ (zB (zA (mv rfl rfl (wG (F := fun v_ => (rpT (rpQ (3 * k + l + 4 * m + 33))).Is h1 v_ (qO s ([(T3.mk x y (0 : Rat)), (T3.mk u y (0 : Rat)), (T3.mk u v (0 : Rat)), (T3.mk x v (0 : Rat))].getD 0 (T3.mk (0 : Rat) 0 0)))) (zE xG (Pc.here _) rfl rfl rb_5 rfl) (yF (.head _)) rfl ?_))))))
 intro v42u1 r42u1
 refine zK (yW (ρ := (rpT (rpQ (3 * k + l + 4 * m + 33)))) (m := 1) (xs := [qO s ([(T3.mk x y (0 : Rat)), (T3.mk u y (0 : Rat)), (T3.mk u v (0 : Rat)), (T3.mk x v (0 : Rat))].getD 0 (T3.mk (0 : Rat) 0 0))]) (ps' := [(0, _)]) Tryz.underlying27 yB rfl rfl rfl (wI (wD (by omega))) ⟨rfl, rfl, trivial⟩ (yU rfl (Pc.arr (Pc.here _) (T3.mk (0 : Rat) 0 0) 0 (by decide)) r42u1 xY) (show 1 * 9 ≤ 16777216 from by decide) (show 0 < 9 from by decide)) rfl rfl rfl ?_
 intro v43u1 q43u1 hq43u1
 obtain ⟨cs43u1, rfl, rl43u1⟩ := hq43u1
 refine kD (A := []) (ρ := (rpT (rpQ (3 * k + l + 4 * m + 33)))) rl43u1 ?_
 intro h2 hh2 rs_6
 refine nC 32 9 ?_
 have rl_7 : RL (rpT (rpQ (3 * k + l + 4 * m + 33))) h2 [] ([] : List (T3 Rat)) := RL.nil
 refine qN (A := []) (yM (ρ := (rpT (rpQ (3 * k + l + 4 * m + 33)))) (bytes := 168) Tryz.underlying27 yB rfl rfl rfl rfl (show 0 < 9 from by decide) rfl rfl rl_7 rs_6 (by first | omega | (simp only [List.length_append, List.length_cons, List.length_nil, List.length_replicate, List.length_set]; omega)) (by first | omega | (simp only [List.length_append, List.length_cons, List.length_nil, List.length_replicate, List.length_set]; omega))) rfl rfl rfl ?_
 intro v44u1 q44u1 hq44u1
 obtain ⟨cs44u1, rfl, rl44u1⟩ := hq44u1
 refine asg rfl rfl (zD (yV (zB (zA (mv rfl rfl (gv ((zQ (q := 1) rfl rfl (by omega) (by omega)).cv (show _ = vI (1) from rfl)) rfl (asg rfl rfl (zD (xU (zC (zC (zA (mv rfl rfl ?_)))))))))))))
 refine gv (OpV.tr (by decide) (zW (q := 4) rfl rfl)) rfl (zD (zB (xR rfl (zL (zB (zC (zS (zC (wH (e' := [(5, _), (12, _), (11, _), (13, _)]) ⟨rfl, rfl, rfl, rfl, trivial⟩ ?_)))))))))
 refine yI 11 _ [(8, (14, 32, [.bool false, .slice none 0 0, .slice none 0 0, .bool false, .slice none 0 0, .slice none 0 0, .bool false, .slice none 0 0, .slice none 0 0]))] [(0, .q), (1, .q), (2, .q), (3, .q), (4, .c), (5, .q), (6, .q), (7, .q), (8, .a), (9, .c), (10, .q)] xI (jG.cons rfl (uT yB rfl rfl) jG.nil) (by kernel_rfl) (uV rfl rfl jY) (fun r hr => hr) ?_
 replace rb5 := rb5.mono (hh1.trans hh2)
 refine yR (F := fun v_ => (rpP (rpT (rpQ m)) (rpQ l)).Is h2 v_ s) rfl (zE kE (Pc.here _) rfl rfl rb5 rfl) (yF (.tail _ (.tail _ (.tail _ (.tail _ (.tail _ (.tail _ (.tail _ (.head _))))))))) rfl ?_
 intro v34u2 r34u2
 refine w_q rfl (fun h' L' hh hR => zG rfl) rfl (w_q rfl (fun h' L' hh hR => (zH (sz := 9) 1 Tryz.underlying119 Tryz.sizeOf32 rfl rfl rfl (by decide)).cv (show _ = vP b12 9 from congrArg (vP b12) (by rfl))) rfl ?_)
 replace rb_3 := rb_3.mono (hh1.trans hh2)
 refine yR (F := fun v_ => (rpT (rpQ (k + 1))).Is h2 v_ ([(T3.mk x y (0 : Rat)), (T3.mk u y (0 : Rat)), (T3.mk u v (0 : Rat)), (T3.mk x v (0 : Rat))].getD 1 (T3.mk (0 : Rat) 0 0))) rfl (zE xG (Pc.arr (Pc.here _) (T3.mk (0 : Rat) 0 0) 1 (by decide)) rfl rfl rb_3 rfl) (yF (.tail _ (.tail _ (.head _)))) rfl ?_
 intro v37u2 r37u2
 refine w_c rfl ?_
 refine yD (vs := [_, _]) Tryz.call114 ⟨rfl, rfl, trivial⟩ (fun w hs => cY hs r34u2 r37u2 (by omega) (by omega) (by omega)) rfl ?_
 intro v38u2 h3 hh3 r38u2
 obtain ⟨v38u2_0, rfl, r38u2_0⟩ := r38u2
 change (rpT (rpQ (3 * (k + 1) + l + 4 * m + 30))).Is h3 v38u2_0 (qO s ([(T3.mk x y (0 : Rat)), (T3.mk u y (0 : Rat)), (T3.mk u v (0 : Rat)), (T3.mk x v (0 : Rat))].getD 1 (T3.mk (0 : Rat) 0 0))) at r38u2_0
 replace r38u2_0 := Rp.Is.le r38u2_0 (Le.t (Le.q (l := 3 * k + l + 4 * m + 33) (by omega)))
 refine w_q rfl (fun h' L' hh hR => zG rfl) rfl (w_q rfl (fun h' L' hh hR => zN (vs := [_, _]) rfl rfl) rfl (w_q rfl (fun h' L' hh hR => zN (vs := [_, _]) rfl rfl) rfl ?_))
 refine w_a rfl (fun b14u2 => ?_)
 have rb14u2 : (rpT (rpQ (3 * k + l + 4 * m + 33))).R h3 [.bool false, .slice none 0 0, .slice none 0 0, .bool false, .slice none 0 0, .slice none 0 0, .bool false, .slice none 0 0, .slice none 0 0] (T3.mk (0 : Rat) 0 0) := (wI (wD (by omega)))
 refine w_c rfl (tB (A := []) (F := fun c_ => (rpT (rpQ (3 * k + l + 4 * m + 33))).R h3 c_ (qO s ([(T3.mk x y (0 : Rat)), (T3.mk u y (0 : Rat)), (T3.mk u v (0 : Rat)), (T3.mk x v (0 : Rat))].getD 1 (T3.mk (0 : Rat) 0 0)))) (yG Tryz.sizeOf32 (Pc.here _) rfl rfl rfl rb14u2 r38u2_0 rfl) (xF (by first | (simp; done) | grind)) ?_)
 intro cs_8 rb_9
 refine w_q rfl (fun h' L' hh hR => zY rfl) rfl (xB (zB (zA (mv rfl rfl (wG (F := fun v_ => (rpT (rpQ (3 * k + l + 4 * m + 33))).Is h3 v_ (qO s ([(T3.mk x y (0 : Rat)), (T3.mk u y (0 : Rat)), (T3.mk u v (0 : Rat)), (T3.mk x v (0 : Rat))].getD 1 (T3.mk (0 : Rat) 0 0)))) (zE xG (Pc.here _) rfl rfl rb_9 rfl) (yF (.head _)) rfl ?_)))))
 intro v42u2 r42u2
 refine zK (yW (ρ := (rpT (rpQ (3 * k + l + 4 * m + 33)))) (m := 1) (xs := [qO s ([(T3.mk x y (0 : Rat)), (T3.mk u y (0 : Rat)), (T3.mk u v (0 : Rat)), (T3.mk x v (0 : Rat))].getD 1 (T3.mk (0 : Rat) 0 0))]) (ps' := [(0, _)]) Tryz.underlying27 yB rfl rfl rfl (wI (wD (by omega))) ⟨rfl, rfl, trivial⟩ (yU rfl (Pc.arr (Pc.here _) (T3.mk (0 : Rat) 0 0) 0 (by decide)) r42u2 xY) (show 1 * 9 ≤ 16777216 from by decide) (show 0 < 9 from by decide)) rfl rfl rfl ?_
 intro v43u2 q43u2 hq43u2
 obtain ⟨cs43u2, rfl, rl43u2⟩ := hq43u2
 refine kD (A := []) (ρ := (rpT (rpQ (3 * k + l + 4 * m + 33)))) rl43u2 ?_
 intro h4 hh4 rs_10
 replace rl44u1 := rl44u1.mono (hh3.trans hh4)
 refine qN (A := [_]) (yM (ρ := (rpT (rpQ (3 * k + l + 4 * m + 33)))) (bytes := 168) Tryz.underlying27 yB rfl rfl rfl rfl (show 0 < 9 from by decide) rfl rfl rl44u1 rs_10 (by first | omega | (simp only [List.length_append, List.length_cons, List.length_nil, List.length_replicate, List.length_set]; omega)) (by first | omega | (simp only [List.length_append, List.length_cons, List.length_nil, List.length_replicate, List.length_set]; omega))) rfl rfl rfl ?_
 intro v44u2 q44u2 hq44u2
 obtain ⟨cs44u2, rfl, rl44u2⟩ := hq44u2
 refine asg rfl rfl (zD (yV (zJ (e' := [(5, _), (12, _), (13, _), (11, _)]) ⟨rfl, rfl, rfl, rfl, trivial⟩ (zB (zA (mv rfl rfl (gv ((zQ (q := 1) rfl rfl (by omega) (by omega)).cv (show _ = vI (2) from rfl)) rfl (asg rfl rfl (zD (xU (zC (zC (zA ?_)))))))))))))
 refine mv rfl rfl (gv (OpV.tr (by decide) (zW (q := 4) rfl rfl)) rfl (zD (zB (xR rfl (zL (zB (zC (zS (zC ?_)))))))))
 refine yI 11 _ [(8, (14, 32, [.bool false, .slice none 0 0, .slice none 0 0, .bool false, .slice none 0 0, .slice none 0 0, .bool false, .slice none 0 0, .slice none 0 0]))] [(0, .q), (1, .q), (2, .q), (3, .q), (4, .c), (5, .q), (6, .q), (7, .q), (8, .a), (9, .c), (10, .q)] xI (jG.cons rfl (uT yB rfl rfl) jG.nil) (by kernel_rfl) (uV rfl rfl jY) (fun r hr => hr) ?_
 replace rb5 := rb5.mono (hh3.trans hh4)
 refine yR (F := fun v_ => (rpP (rpT (rpQ m)) (rpQ l)).Is h4 v_ s) rfl (zE kE (Pc.here _) rfl rfl rb5 rfl) (yF (.tail _ (.tail _ (.tail _ (.tail _ (.tail _ (.tail _ (.tail _ (.tail _ (.head _)))))))))) rfl ?_
 intro v34u3 r34u3
 refine w_q rfl (fun h' L' hh hR => zG rfl) rfl (w_q rfl (fun h' L' hh hR => (zH (sz := 9) 2 Tryz.underlying119 Tryz.sizeOf32 rfl rfl rfl (by decide)).cv (show _ = vP b12 18 from congrArg (vP b12) (by rfl))) rfl ?_)
 replace rb_3 := rb_3.mono (hh3.trans hh4)
 refine yR (F := fun v_ => (rpT (rpQ (k + 1))).Is h4 v_ ([(T3.mk x y (0 : Rat)), (T3.mk u y (0 : Rat)), (T3.mk u v (0 : Rat)), (T3.mk x v (0 : Rat))].getD 2 (T3.mk (0 : Rat) 0 0))) rfl (zE xG (Pc.arr (Pc.here _) (T3.mk (0 : Rat) 0 0) 2 (by decide)) rfl rfl rb_3 rfl) (yF (.tail _ (.tail _ (.tail _ (.head _))))) rfl ?_
 intro v37u3 r37u3
 refine w_c rfl ?_
 refine yD (vs := [_, _]) Tryz.call114 ⟨rfl, rfl, trivial⟩ (fun w hs => cY hs r34u3 r37u3 (by omega) (by omega) (by omega)) rfl ?_
 intro v38u3 h5 hh5 r38u3
 obtain ⟨v38u3_0, rfl, r38u3_0⟩ := r38u3
 change (rpT (rpQ (3 * (k + 1) + l + 4 * m + 30))).Is h5 v38u3_0 (qO s ([(T3.mk x y (0 : Rat)), (T3.mk u y (0 : Rat)), (T3.mk u v (0 : Rat)), (T3.mk x v (0 : Rat))].getD 2 (T3.mk (0 : Rat) 0 0))) at r38u3_0
 replace r38u3_0 := Rp.Is.le r38u3_0 (Le.t (Le.q (l := 3 * k + l + 4 * m + 33) (by omega)))
 refine w_q rfl (fun h' L' hh hR => zG rfl) rfl (w_q rfl (fun h' L' hh hR => zN (vs := [_, _]) rfl rfl) rfl (w_q rfl (fun h' L' hh hR => zN (vs := [_, _]) rfl rfl) rfl ?_))
 refine w_a rfl (fun b14u3 => ?_)
 have rb14u3 : (rpT (rpQ (3 * k + l + 4 * m + 33))).R h5 [.bool false, .slice none 0 0, .slice none 0 0, .bool false, .slice none 0 0, .slice none 0 0, .bool false, .slice none 0 0, .slice none 0 0] (T3.mk (0 : Rat) 0 0) := (wI (wD (by omega)))
 refine w_c rfl (tB (A := []) (F := fun c_ => (rpT (rpQ (3 * k + l + 4 * m + 33))).R h5 c_ (qO s ([(T3.mk x y (0 : Rat)), (T3.mk u y (0 : Rat)), (T3.mk u v (0 : Rat)), (T3.mk x v (0 : Rat))].getD 2 (T3.mk (0 : Rat) 0 0)))) (yG Tryz.sizeOf32 (Pc.here _) rfl rfl rfl rb14u3 r38u3_0 rfl) (xF (by first | (simp; done) | grind)) ?_)
 intro cs_11 rb_12
 refine w_q rfl (fun h' L' hh hR => zY rfl) rfl (xB (zJ (e' := [(5, _), (12, _), (11, _), (13, _), (14, _)]) ⟨rfl, rfl, rfl, rfl, rfl, trivial⟩ (zB (zA (mv rfl rfl (wG (F := fun v_ => (rpT (rpQ (3 * k + l + 4 * m + 33))).Is h5 v_ (qO s ([(T3.mk x y (0 : Rat)), (T3.mk u y (0 : Rat)), (T3.mk u v (0 : Rat)), (T3.mk x v (0 : Rat))].getD 2 (T3.mk (0 : Rat) 0 0)))) (zE xG (Pc.here _) rfl rfl rb_12 rfl) (yF (.head _)) rfl ?_))))))
 intro v42u3 r42u3
 refine zK (yW (ρ := (rpT (rpQ (3 * k + l + 4 * m + 33)))) (m := 1) (xs := [qO s ([(T3.mk x y (0 : Rat)), (T3.mk u y (0 : Rat)), (T3.mk u v (0 : Rat)), (T3.mk x v (0 : Rat))].getD 2 (T3.mk (0 : Rat) 0 0))]) (ps' := [(0, _)]) Tryz.underlying27 yB rfl rfl rfl (wI (wD (by omega))) ⟨rfl, rfl, trivial⟩ (yU rfl (Pc.arr (Pc.here _) (T3.mk (0 : Rat) 0 0) 0 (by decide)) r42u3 xY) (show 1 * 9 ≤ 16777216 from by decide) (show 0 < 9 from by decide)) rfl rfl rfl ?_
 intro v43u3 q43u3 hq43u3
 obtain ⟨cs43u3, rfl, rl43u3⟩ := hq43u3
 refine kD (A := []) (ρ := (rpT (rpQ (3 * k + l + 4 * m + 33)))) rl43u3 ?_
 intro h6 hh6 rs_13
 replace rl44u2 := rl44u2.mono (hh5.trans hh6)
 refine qN (A := [_, _]) (yM (ρ := (rpT (rpQ (3 * k + l + 4 * m + 33)))) (bytes := 168) Tryz.underlying27 yB rfl rfl rfl rfl (show 0 < 9 from by decide) rfl rfl rl44u2 rs_13 (by first | omega | (simp only [List.length_append, List.length_cons, List.length_nil, List.length_replicate, List.length_set]; omega)) (by first | omega | (simp only [List.length_append, List.length_cons, List.length_nil, List.length_replicate, List.length_set]; omega))) rfl rfl rfl ?_
 intro v44u3 q44u3 hq44u3
 obtain ⟨cs44u3, rfl, rl44u3⟩ := hq44u3
 refine asg rfl rfl (zD (yV (zB (zA (mv rfl rfl (gv ((zQ (q := 1) rfl rfl (by omega) (by omega)).cv (show _ = vI (3) from rfl)) rfl (asg rfl rfl (zD (xU (zC (zC (zA (mv rfl rfl ?_)))))))))))))
 refine gv (OpV.tr (by decide) (zW (q := 4) rfl rfl)) rfl (zD (zB (xR rfl (zL (zB (zC (zS (zC (wH (e' := [(5, _), (12, _), (11, _), (13, _)]) ⟨rfl, rfl, rfl, rfl, trivial⟩ ?_)))))))))
 refine yI 11 _ [(8, (14, 32, [.bool false, .slice none 0 0, .slice none 0 0, .bool false, .slice none 0 0, .slice none 0 0, .bool false, .slice none 0 0, .slice none 0 0]))] [(0, .q), (1, .q), (2, .q), (3, .q), (4, .c), (5, .q), (6, .q), (7, .q), (8, .a), (9, .c), (10, .q)] xI (jG.cons rfl (uT yB rfl rfl) jG.nil) (by kernel_rfl) (uV rfl rfl jY) (fun r hr => hr) ?_
 replace rb5 := rb5.mono (hh5.trans hh6)
 refine yR (F := fun v_ => (rpP (rpT (rpQ m)) (rpQ l)).Is h6 v_ s) rfl (zE kE (Pc.here _) rfl rfl rb5 rfl) (yF (.tail _ (.tail _ (.tail _ (.tail _ (.tail _ (.tail _ (.tail _ (.tail _ (.tail _ (.head _))))))))))) rfl ?_
 intro v34u4 r34u4
 refine w_q rfl (fun h' L' hh hR => zG rfl) rfl (w_q rfl (fun h' L' hh hR => (zH (sz := 9) 3 Tryz.underlying119 Tryz.sizeOf32 rfl rfl rfl (by decide)).cv (show _ = vP b12 27 from congrArg (vP b12) (by rfl))) rfl ?_)
 replace rb_3 := rb_3.mono (hh5.trans hh6)
 refine yR (F := fun v_ => (rpT (rpQ (k + 1))).Is h6 v_ ([(T3.mk x y (0 : Rat)), (T3.mk u y (0 : Rat)), (T3.mk u v (0 : Rat)), (T3.mk x v (0 : Rat))].getD 3 (T3.mk (0 : Rat) 0 0))) rfl (zE xG (Pc.arr (Pc.here _) (T3.mk (0 : Rat) 0 0) 3 (by decide)) rfl rfl rb_3 rfl) (yF (.tail _ (.tail _ (.tail _ (.tail _ (.head _)))))) rfl ?_
 intro v37u4 r37u4
 refine w_c rfl ?_
 refine yD (vs := [_, _]) Tryz.call114 ⟨rfl, rfl, trivial⟩ (fun w hs => cY hs r34u4 r37u4 (by omega) (by omega) (by omega)) rfl ?_
 intro v38u4 h7 hh7 r38u4
 obtain ⟨v38u4_0, rfl, r38u4_0⟩ := r38u4
 change (rpT (rpQ (3 * (k + 1) + l + 4 * m + 30))).Is h7 v38u4_0 (qO s ([(T3.mk x y (0 : Rat)), (T3.mk u y (0 : Rat)), (T3.mk u v (0 : Rat)), (T3.mk x v (0 : Rat))].getD 3 (T3.mk (0 : Rat) 0 0))) at r38u4_0
 replace r38u4_0 := Rp.Is.le r38u4_0 (Le.t (Le.q (l := 3 * k + l + 4 * m + 33) (by omega)))
 refine w_q rfl (fun h' L' hh hR => zG rfl) rfl (w_q rfl (fun h' L' hh hR => zN (vs := [_, _]) rfl rfl) rfl (w_q rfl (fun h' L' hh hR => zN (vs := [_, _]) rfl rfl) rfl ?_))
 refine w_a rfl (fun b14u4 => ?_)
 have rb14u4 : (rpT (rpQ (3 * k + l + 4 * m + 33))).R h7 [.bool false, .slice none 0 0, .slice none 0 0, .bool false, .slice none 0 0, .slice none 0 0, .bool false, .slice none 0 0, .slice none 0 0] (T3.mk (0 : Rat) 0 0) := (wI (wD (by omega)))
 refine w_c rfl (tB (A := []) (F := fun c_ => (rpT (rpQ (3 * k + l + 4 * m + 33))).R h7 c_ (qO s ([(T3.mk x y (0 : Rat)), (T3.mk u y (0 : Rat)), (T3.mk u v (0 : Rat)), (T3.mk x v (0 : Rat))].getD 3 (T3.mk (0 : Rat) 0 0)))) (yG Tryz.sizeOf32 (Pc.here _) rfl rfl rfl rb14u4 r38u4_0 rfl) (xF (by first | (simp; done) | grind)) ?_)
 intro cs_14 rb_15
 refine w_q rfl (fun h' L' hh hR => zY rfl) rfl (xB (zB (zA (mv rfl rfl (wG (F := fun v_ => (rpT (rpQ (3 * k + l + 4 * m + 33))).Is h7 v_ (qO s ([(T3.mk x y (0 : Rat)), (T3.mk u y (0 : Rat)), (T3.mk u v (0 : Rat)), (T3.mk x v (0 : Rat))].getD 3 (T3.mk (0 : Rat) 0 0)))) (zE xG (Pc.here _) rfl rfl rb_15 rfl) (yF (.head _)) rfl ?_)))))
 intro v42u4 r42u4
 refine zK (yW (ρ := (rpT (rpQ (3 * k + l + 4 * m + 33)))) (m := 1) (xs := [qO s ([(T3.mk x y (0 : Rat)), (T3.mk u y (0 : Rat)), (T3.mk u v (0 : Rat)), (T3.mk x v (0 : Rat))].getD 3 (T3.mk (0 : Rat) 0 0))]) (ps' := [(0, _)]) Tryz.underlying27 yB rfl rfl rfl (wI (wD (by omega))) ⟨rfl, rfl, trivial⟩ (yU rfl (Pc.arr (Pc.here _) (T3.mk (0 : Rat) 0 0) 0 (by decide)) r42u4 xY) (show 1 * 9 ≤ 16777216 from by decide) (show 0 < 9 from by decide)) rfl rfl rfl ?_
 intro v43u4 q43u4 hq43u4
 obtain ⟨cs43u4, rfl, rl43u4⟩ := hq43u4
 refine kD (A := []) (ρ := (rpT (rpQ (3 * k + l + 4 * m + 33)))) rl43u4 ?_
 intro h8 hh8 rs_16
 replace rl44u3 := rl44u3.mono (hh7.trans hh8)
 refine qN (A := [_, _, _]) (yM (ρ := (rpT (rpQ (3 * k + l + 4 * m + 33)))) (bytes := 168) Tryz.underlying27 yB rfl rfl rfl rfl (show 0 < 9 from by decide) rfl rfl rl44u3 rs_16 (by first | omega | (simp only [List.length_append, List.length_cons, List.length_nil, List.length_replicate, List.length_set]; omega)) (by first | omega | (simp only [List.length_append, List.length_cons, List.length_nil, List.length_replicate, List.length_set]; omega))) rfl rfl rfl ?_
 intro v44u4 q44u4 hq44u4
 obtain ⟨cs44u4, rfl, rl44u4⟩ := hq44u4
 refine asg rfl rfl (zD (yV (zJ (e' := [(5, _), (12, _), (13, _), (11, _)]) ⟨rfl, rfl, rfl, rfl, trivial⟩ (zB (zA (mv rfl rfl (gv ((zQ (q := 1) rfl rfl (by omega) (by omega)).cv (show _ = vI (4) from rfl)) rfl (asg rfl rfl (zD (xU (zC (zC (zA ?_)))))))))))))
 refine mv rfl rfl (gv (OpV.fa (by decide) (zW (q := 4) rfl rfl)) rfl (zD (zB (vX rfl (xQ (yE (yE (xO (zB (zC (zA (mv rfl rfl (asg rfl rfl ?_)))))))))))))
 refine zD (zB (zR (kC (A := [_, _, _]) (ρ := (rpT (rpQ (3 * k + l + 4 * m + 33)))) rl44u4 ?_)))
 intro h9 hh9 rs_17
 refine yJ rfl rfl ?_
 exact rs_17
theorem u9 {w0 : World} {h0 : Mem}  (hs : MLe h0 (mem w0)) {m l k : Nat} {vs : Value} {s : ((T3 Rat) × Rat)} (rs : (rpP (rpT (rpQ m)) (rpQ l)).Is h0 vs s) {vps : Value} {ps : (List (T3 Rat))} (rps : (rpS (rpT (rpQ k))).Is h0 vps ps) (hcd0 : k ≤ 10000) (hcd1 : l ≤ 10000) (hcd2 : m ≤ 10000)  :
    Calls Tryz.prog 37 #[vs, vps] w0 (Ret w0 h0 (fun h r => ∃ u0, r = .tuple #[u0, vB (¬ (ps.length = 0 ∨ s.1 = zT))] ∧ (rpS (rpT (rpQ (3 * k + l + 4 * m + 45)))).Is h u0 (aroZ s ps))) := by
 have hlp := s_lt rps
 refine zP (n := 79) (e := [(0, vs), (1, vps)]) (vs := [vs, vps]) Tryz.func37 rfl rfl (Nat.le_of_ble_eq_true rfl) hs ⟨rfl, rfl, trivial⟩ (zC (zA (zK (yY (ρ := (rpP (rpT (rpQ m)) (rpQ l))) rfl rs) rfl rfl rfl ?_)))
 intro v2 q2 hq2
 obtain ⟨b2, cs2, rfl, rfl, rb2⟩ := hq2
 refine asg rfl rfl (asg rfl rfl (zD (zB (zC (zC (zA (mv rfl rfl (gv (vT Tryz.underlying27 rfl rps) rfl (gv (xZ (q := 0) rfl rfl) rfl ?_)))))))))
 refine vO (ι := Mem) 5 (fun m_ => MLe h0 m_) (fun _ => [(19, vB (((↑(ps).length : Int) = (0 : Int)) ∨ (s.1 = (T3.mk (0 : Rat) 0 0)))), (1, vps), (2, vP b2 0)]) (fun _ => [.var b2 34 cs2]) (fun m_ => m_) ?_ ?_
 ·
  refine wM ((↑(ps).length : Int) = (0 : Int)) (fun hg => ?_) (fun hg => ?_)
  ·
   refine xH (zG (v := .bool true) (congrArg some (xS hg))) rfl rfl rfl (yL rfl rfl rfl rfl rfl rfl (yL rfl rfl rfl rfl rfl rfl (yL rfl rfl rfl rfl rfl rfl (gv (xK rfl rfl) rfl (zD ?_)))))
   refine yN h0 (MLe.refl _) ⟨?_, rfl, rfl, trivial⟩ rfl rfl
   exact congrArg some (qR hg)
  refine xH (zG (v := .bool false) (congrArg some (yX hg))) rfl rfl rfl (xA rfl rfl rfl (gv ((zI Tryz.underlying34 rfl Tryz.sizeOf32 rfl).cv (show _ = vP b2 0 from congrArg (vP b2) (by rfl))) rfl (xA rfl rfl rfl (wG (F := fun v_ => (rpT (rpQ m)).Is h0 v_ s.1) (zE xG (Pc.fst (Pc.here _)) rfl rfl rb2 rfl) (yF (.head _)) rfl ?_))))
  intro v17 r17
  refine xA rfl rfl rfl ?_
  refine zM (vs := [_]) rfl rfl rfl rfl Tryz.call41 ⟨rfl, trivial⟩ (fun w hs => lU hs r17 (by omega)) ?_
  intro v18 h1 hh1 r18
  obtain rfl : v18 = vB (s.1 = (T3.mk (0 : Rat) 0 0)) := r18
  refine gv (wB rfl rfl) rfl (zD ?_)
  refine yN h1 hh1 ⟨?_, rfl, rfl, trivial⟩ rfl rfl
  exact congrArg some (qS hg)
 intro mg1_3 hmmg1_3
 show GL _ _ _ _ _ _ _ [(19, vB (((↑(ps).length : Int) = (0 : Int)) ∨ (s.1 = (T3.mk (0 : Rat) 0 0)))), (1, vps), (2, vP b2 0)] [.var b2 34 cs2] mg1_3
 refine zD (zB ?_)
 refine zO rfl (fun hc19 => ?_) (fun hc19 => ?_)
 ·
  have hz : ps.length = 0 ∨ s.1 = zT := hc19.imp (fun e => by omega) id
  refine zC (zA (asg rfl rfl (asg rfl rfl (zD (zB (zR (zX (vG rfl rfl rfl ?_))))))))
  refine ⟨_, ?_, (Rp.Is.cast (cI _) (by exact (if_pos hz).symm))⟩
  rw [yX (fun e => e hz)]
 have hz : ¬ (ps.length = 0 ∨ s.1 = zT) := fun e => hc19 (e.imp (fun e => by omega) id)
 refine zL (zB (zC ?_))
 refine yI 6 _ [(5, (6, 32, [.bool false, .slice none 0 0, .slice none 0 0, .bool false, .slice none 0 0, .slice none 0 0, .bool false, .slice none 0 0, .slice none 0 0]))] [(0, .q), (1, .q), (2, .q), (3, .q), (4, .c), (5, .a), (6, .t)] xI (jG.cons rfl (uT yB rfl rfl) jG.nil) (by kernel_rfl) (uV rfl rfl jY) (fun r hr => hr) ?_
 replace rb2 := rb2.mono hmmg1_3
 refine yR (F := fun v_ => (rpP (rpT (rpQ m)) (rpQ l)).Is mg1_3 v_ s) rfl (zE kE (Pc.here _) rfl rfl rb2 rfl) (yF (.head _)) rfl ?_
 intro v20 r20
 refine w_q rfl (fun h' L' hh hR => zG rfl) rfl ?_
 replace rps := rps.mono hmmg1_3
 refine yR (F := fun v_ => AtP (rpT (rpQ k)) mg1_3 v_ (ps.getD 0 (T3.mk (0 : Rat) 0 0))) rfl (uR (q := 0) (T3.mk (0 : Rat) 0 0) 0 Tryz.underlying27 xG rfl rfl rps rfl (by omega) (show 0 < 9 from by decide)) uH rfl ?_
 intro v22 r22
 refine yR (F := fun v_ => (rpT (rpQ k)).Is mg1_3 v_ (ps.getD 0 (T3.mk (0 : Rat) 0 0))) rfl (vM xG rfl r22) uH rfl ?_
 intro v23 r23
 refine w_c rfl ?_
 refine yD (vs := [_, _]) Tryz.call73 ⟨rfl, rfl, trivial⟩ (fun w hs => aN hs r20 r23 (by omega) (by omega)) rfl ?_
 intro v24 h1 hh1 r24
 change (rpT (rpQ (k + 1))).Is h1 v24 (qP s (ps.getD 0 (T3.mk (0 : Rat) 0 0))) at r24
 refine w_a rfl (fun b6 => ?_)
 have rb6 : (rpT (rpQ (k + 1))).R h1 [.bool false, .slice none 0 0, .slice none 0 0, .bool false, .slice none 0 0, .slice none 0 0, .bool false, .slice none 0 0, .slice none 0 0] (T3.mk (0 : Rat) 0 0) := (wI (wD (by omega)))
 refine wF (A := []) (F := fun c_ => (rpT (rpQ (k + 1))).R h1 c_ (qP s (ps.getD 0 (T3.mk (0 : Rat) 0 0)))) rfl (yG Tryz.sizeOf32 (Pc.here _) rfl rfl rfl rb6 r24 rfl) ?_
 intro cs_18 rb_19
 refine xB (zB (zC (zA (wG (F := fun v_ => (rpT (rpQ (k + 1))).Is h1 v_ (qP s (ps.getD 0 (T3.mk (0 : Rat) 0 0)))) (zE xG (Pc.here _) rfl rfl rb_19 rfl) (yF (.head _)) rfl ?_))))
 intro v25 r25
 refine zK (yZ (ρ := (rpT (rpQ (k + 1)))) (X := (T3.mk (0 : Rat) 0 0)) yB rfl rfl (wI (wD (by omega)))) rfl rfl rfl ?_
 intro v7 q7 hq7
 obtain ⟨b7, cs7, rfl, rfl, rb7⟩ := hq7
 refine wE (A := []) (F := fun c_ => (rpT (rpQ (k + 1))).R h1 c_ (qP s (ps.getD 0 (T3.mk (0 : Rat) 0 0)))) (yG Tryz.sizeOf32 (Pc.here _) rfl rfl rfl rb7 r25 rfl) ?_
 intro cs_20 rb_21
 refine zD (zB (zC (zC (zA (asg (v := vI (0)) rfl rfl (zD (zB (zS ?_))))))))
 refine wR (ι := Nat × List Value × List Value × Mem) (fun (i, cs_22, cs_24, ma) => MLe h1 ma ∧ ((rpT (rpQ (k + 1))).R ma cs_22 (tU s ps i) ∧ (rpT (rpQ (k + 1))).R ma cs_24 (tV s ps i) ∧ i ≤ ps.length)) (fun (i, cs_22, cs_24, ma) => [(1, vps), (2, vP b2 0), (6, vP b6 0), (7, vP b7 0), (8, vI ↑i)]) (fun (i, cs_22, cs_24, ma) => [.var b7 32 cs_24, .var b6 32 cs_22, .var b2 34 cs2]) (fun (i, cs_22, cs_24, ma) => ma) (fun (i, cs_22, cs_24, ma) => ps.length - i) (0, cs_18, cs_20, h1) ?_ ⟨rfl, rfl, rfl, rfl, rfl, trivial⟩ rfl rfl ?_
 ·
  refine ⟨MLe.refl _, ?_⟩
  refine ⟨rb_19, rb_21, ?_⟩
  exact (by omega)
 intro x hx
 obtain ⟨i, cs_22, cs_24, ma⟩ := x
 obtain ⟨hmma, hinv⟩ := hx
 show GC _ _ _ _ _ _ [(1, vps), (2, vP b2 0), (6, vP b6 0), (7, vP b7 0), (8, vI ↑i)] [.var b7 32 cs_24, .var b6 32 cs_22, .var b2 34 cs2] ma
 obtain ⟨rb_23, rb_25, hinv⟩ := hinv
 have hi1 := hinv
 refine zC (zC (zA (mv rfl rfl (mv rfl rfl ?_))))
 replace rps := rps.mono (hh1.trans hmma)
 refine gv (vT Tryz.underlying27 rfl rps) rfl (gv (zW rfl rfl) rfl (zD (zB ?_)))
 refine zO rfl (fun hc29 => ?_) (fun hc29 => ?_)
 ·
  refine zL (zB (zC (zS (zC ?_))))
  refine yI 7 _ [(6, (9, 32, [.bool false, .slice none 0 0, .slice none 0 0, .bool false, .slice none 0 0, .slice none 0 0, .bool false, .slice none 0 0, .slice none 0 0]))] [(0, .q), (1, .q), (2, .q), (3, .q), (4, .q), (5, .c), (6, .a), (7, .t)] xI (jG.cons rfl (uT yB rfl rfl) jG.nil) (by kernel_rfl) (uV rfl rfl jY) (fun r hr => hr) ?_
  replace rb2 := rb2.mono (hh1.trans hmma)
  refine yR (F := fun v_ => (rpP (rpT (rpQ m)) (rpQ l)).Is ma v_ s) rfl (zE kE (Pc.here _) rfl rfl rb2 rfl) (yF (.tail _ (.tail _ (.head _)))) rfl ?_
  intro v32 r32
  refine w_q rfl (fun h' L' hh hR => zG rfl) rfl (w_q rfl (fun h' L' hh hR => zG rfl) rfl (yR (F := fun v_ => AtP (rpT (rpQ k)) ma v_ (ps.getD i (T3.mk (0 : Rat) 0 0))) rfl (uR (T3.mk (0 : Rat) 0 0) i Tryz.underlying27 xG rfl rfl rps rfl (by omega) (show 0 < 9 from by decide)) uH rfl ?_))
  intro v35 r35
  refine yR (F := fun v_ => (rpT (rpQ k)).Is ma v_ (ps.getD i (T3.mk (0 : Rat) 0 0))) rfl (vM xG rfl r35) uH rfl ?_
  intro v36 r36
  refine w_c rfl ?_
  refine yD (vs := [_, _]) Tryz.call73 ⟨rfl, rfl, trivial⟩ (fun w hs => aN hs r32 r36 (by omega) (by omega)) rfl ?_
  intro v37 h2 hh2 r37
  change (rpT (rpQ (k + 1))).Is h2 v37 (qP s (ps.getD i (T3.mk (0 : Rat) 0 0))) at r37
  refine w_a rfl (fun b9 => ?_)
  have rb9 : (rpT (rpQ (k + 1))).R h2 [.bool false, .slice none 0 0, .slice none 0 0, .bool false, .slice none 0 0, .slice none 0 0, .bool false, .slice none 0 0, .slice none 0 0] (T3.mk (0 : Rat) 0 0) := (wI (wD (by omega)))
  refine wF (A := []) (F := fun c_ => (rpT (rpQ (k + 1))).R h2 c_ (qP s (ps.getD i (T3.mk (0 : Rat) 0 0)))) rfl (yG Tryz.sizeOf32 (Pc.here _) rfl rfl rfl rb9 r37 rfl) ?_
  intro cs_26 rb_27
  refine xB (zJ (e' := [(1, _), (2, _), (6, _), (7, _), (8, _), (9, _)]) ⟨rfl, rfl, rfl, rfl, rfl, rfl, trivial⟩ (zB (zC (zA (asg (v := vI (0)) rfl rfl (zD (zB (zS (jS (zC (zC (zA (mv rfl rfl ?_)))))))))))))
  refine gv (OpV.tr (by decide) (zW (q := 2) rfl rfl)) rfl (zD (zB (xR rfl (zL (zB (zC (zS ?_)))))))
  refine yI 17 _ [] [(0, .q), (1, .p), (2, .q), (3, .q), (4, .q), (5, .q), (6, .q), (7, .q), (9, .q), (10, .q), (11, .q), (12, .q), (13, .q), (14, .q), (8, .c), (16, .q), (15, .c), (17, .t), (18, .t), (19, .t)] xI (fun x hx => by cases hx) (gD [0, 0, 0, 4, 8, 0, 32, 64, 144, 0, 512, 1024, 0, 4096, 8192, 18688, 509, 98813, 262143, 524287] [1048575, 1048575, 1048575, 1048571, 1048567, 1048575, 1048543, 1048511, 1048431, 1048575, 1048063, 1047551, 1048575, 1044479, 1040383, 1030143, 1048574, 982783, 1048573, 753663] (by kernel_rfl)) (fun x hx => by cases hx) (fun r hr => hr) (w_q rfl (fun h' L' hh hR => zG rfl) rfl (w_p (⟨.inl rfl,  rfl⟩) rfl rfl (w_q rfl (fun h' L' hh hR => zG rfl) rfl (w_q rfl (fun h' L' hh hR => (zH (sz := 3) 0 Tryz.underlying32 Tryz.sizeOf30 rfl rfl rfl (by decide)).cv (show _ = vP b6 0 from congrArg (vP b6) (by rfl))) rfl ?_))))
  replace rb_23 := rb_23.mono hh2
  refine yR (F := fun v_ => (rpQ (k + 1)).Is h2 v_ ((tU s ps i).x)) rfl (zE wA (Pc.tx (Pc.here _)) rfl rfl rb_23 rfl) (yF (.tail _ (.tail _ (.head _)))) rfl ?_
  intro v46u6 r46u6
  refine w_q rfl (fun h' L' hh hR => zG rfl) rfl (w_q rfl (fun h' L' hh hR => (zH (sz := 3) 0 Tryz.underlying32 Tryz.sizeOf30 rfl rfl rfl (by decide)).cv (show _ = vP b9 0 from congrArg (vP b9) (by rfl))) rfl (yR (F := fun v_ => (rpQ (k + 1)).Is h2 v_ ((qP s (ps.getD i (T3.mk (0 : Rat) 0 0))).x)) rfl (zE wA (Pc.tx (Pc.here _)) rfl rfl rb_27 rfl) (yF (.head _)) rfl ?_))
  intro v49u6 r49u6
  refine w_q rfl (fun h' L' hh hR => zG rfl) rfl (w_q rfl (fun h' L' hh hR => (zH (sz := 3) 0 Tryz.underlying32 Tryz.sizeOf30 rfl rfl rfl (by decide)).cv (show _ = vP b7 0 from congrArg (vP b7) (by rfl))) rfl ?_)
  replace rb_25 := rb_25.mono hh2
  refine yR (F := fun v_ => (rpQ (k + 1)).Is h2 v_ ((tV s ps i).x)) rfl (zE wA (Pc.tx (Pc.here _)) rfl rfl rb_25 rfl) (yF (.tail _ (.head _))) rfl ?_
  intro v53u6 r53u6
  refine w_q rfl (fun h' L' hh hR => zG rfl) rfl (w_q rfl (fun h' L' hh hR => (zH (sz := 3) 0 Tryz.underlying32 Tryz.sizeOf30 rfl rfl rfl (by decide)).cv (show _ = vP b9 0 from congrArg (vP b9) (by rfl))) rfl (yR (F := fun v_ => (rpQ (k + 1)).Is h2 v_ ((qP s (ps.getD i (T3.mk (0 : Rat) 0 0))).x)) rfl (zE wA (Pc.tx (Pc.here _)) rfl rfl rb_27 rfl) (yF (.head _)) rfl ?_))
  intro v56u6 r56u6
  refine w_c rfl ?_
  refine yD (vs := [_, _]) Tryz.call74 ⟨rfl, rfl, trivial⟩ (fun w hs => oC hs r46u6 r49u6 (by omega)) rfl ?_
  intro v50u6 h3 hh3 r50u6
  change (rpQ (k + 1)).Is h3 v50u6 (kL ((tU s ps i).x) ((qP s (ps.getD i (T3.mk (0 : Rat) 0 0))).x)) at r50u6
  refine w_q rfl (fun h' L' hh hR => (zH (sz := 3) 0 Tryz.underlying32 Tryz.sizeOf30 rfl rfl rfl (by decide)).cv (show _ = vP b6 0 from congrArg (vP b6) (by rfl))) rfl ?_
  refine w_c rfl ?_
  replace r53u6 := r53u6.mono hh3
  replace r56u6 := r56u6.mono hh3
  refine yD (vs := [_, _]) Tryz.call75 ⟨rfl, rfl, trivial⟩ (fun w hs => oD hs r53u6 r56u6 (by omega)) rfl ?_
  intro v57u6 h4 hh4 r57u6
  change (rpQ (k + 1)).Is h4 v57u6 (kI ((tV s ps i).x) ((qP s (ps.getD i (T3.mk (0 : Rat) 0 0))).x)) at r57u6
  replace rb_23 := rb_23.mono (hh3.trans hh4)
  replace r50u6 := r50u6.mono hh4
  refine wF (A := [_, _]) (F := fun c_ => (rpT (rpQ (k + 1))).R h4 c_ (T3.mk (kL ((tU s ps i).x) ((qP s (ps.getD i (T3.mk (0 : Rat) 0 0))).x)) ((tU s ps i).y) ((tU s ps i).z))) rfl (yG Tryz.sizeOf30 (Pc.tx (Pc.here _)) rfl rfl rfl rb_23 r50u6 rfl) ?_
  intro cs_28 rb_29
  refine cT rfl ((zH (sz := 3) 0 Tryz.underlying32 Tryz.sizeOf30 rfl rfl rfl (by decide)).cv (show _ = vP b7 0 from congrArg (vP b7) (by rfl))) rfl ?_
  replace rb_25 := rb_25.mono (hh3.trans hh4)
  refine wF (A := [_]) (F := fun c_ => (rpT (rpQ (k + 1))).R h4 c_ (T3.mk (kI ((tV s ps i).x) ((qP s (ps.getD i (T3.mk (0 : Rat) 0 0))).x)) ((tV s ps i).y) ((tV s ps i).z))) rfl (yG Tryz.sizeOf30 (Pc.tx (Pc.here _)) rfl rfl rfl rb_25 r57u6 rfl) ?_
  intro cs_30 rb_31
  refine xB (yV (zJ (e' := [(1, _), (2, _), (6, _), (7, _), (8, _), (9, _), (10, _)]) ⟨rfl, rfl, rfl, rfl, rfl, rfl, rfl, trivial⟩ (zB (zA (mv rfl rfl (gv ((zQ (q := 1) rfl rfl (by omega) (by omega)).cv (show _ = vI (1) from rfl)) rfl (asg rfl rfl (zD (xU (zC (zC (zA (mv rfl rfl ?_)))))))))))))
  refine gv (OpV.tr (by decide) (zW (q := 2) rfl rfl)) rfl (zD (zB (xR rfl (zL (zB (zC (zS ?_)))))))
  refine yI 17 _ [] [(0, .q), (1, .p), (2, .q), (3, .q), (4, .q), (5, .q), (6, .q), (7, .q), (9, .q), (10, .q), (11, .q), (12, .q), (13, .q), (14, .q), (8, .c), (16, .q), (15, .c), (17, .t), (18, .t), (19, .t)] xI (fun x hx => by cases hx) (gD [0, 0, 0, 4, 8, 0, 32, 64, 144, 0, 512, 1024, 0, 4096, 8192, 18688, 509, 98813, 262143, 524287] [1048575, 1048575, 1048575, 1048571, 1048567, 1048575, 1048543, 1048511, 1048431, 1048575, 1048063, 1047551, 1048575, 1044479, 1040383, 1030143, 1048574, 982783, 1048573, 753663] (by kernel_rfl)) (fun x hx => by cases hx) (fun r hr => hr) (w_q rfl (fun h' L' hh hR => zG rfl) rfl (w_p (⟨.inl rfl,  rfl⟩) rfl rfl (w_q rfl (fun h' L' hh hR => zG rfl) rfl (w_q rfl (fun h' L' hh hR => (zH (sz := 3) 1 Tryz.underlying32 Tryz.sizeOf30 rfl rfl rfl (by decide)).cv (show _ = vP b6 3 from congrArg (vP b6) (by rfl))) rfl (yR (F := fun v_ => (rpQ (k + 1)).Is h4 v_ ((tU s ps i).y)) rfl (zE wA (Pc.ty (Pc.here _)) rfl rfl rb_29 rfl) (yF (.tail _ (.tail _ (.head _)))) rfl ?_)))))
  intro v46u7 r46u7
  refine w_q rfl (fun h' L' hh hR => zG rfl) rfl (w_q rfl (fun h' L' hh hR => (zH (sz := 3) 1 Tryz.underlying32 Tryz.sizeOf30 rfl rfl rfl (by decide)).cv (show _ = vP b9 3 from congrArg (vP b9) (by rfl))) rfl ?_)
  replace rb_27 := rb_27.mono (hh3.trans hh4)
  refine yR (F := fun v_ => (rpQ (k + 1)).Is h4 v_ ((qP s (ps.getD i (T3.mk (0 : Rat) 0 0))).y)) rfl (zE wA (Pc.ty (Pc.here _)) rfl rfl rb_27 rfl) (yF (.head _)) rfl ?_
  intro v49u7 r49u7
  refine w_q rfl (fun h' L' hh hR => zG rfl) rfl (w_q rfl (fun h' L' hh hR => (zH (sz := 3) 1 Tryz.underlying32 Tryz.sizeOf30 rfl rfl rfl (by decide)).cv (show _ = vP b7 3 from congrArg (vP b7) (by rfl))) rfl (yR (F := fun v_ => (rpQ (k + 1)).Is h4 v_ ((tV s ps i).y)) rfl (zE wA (Pc.ty (Pc.here _)) rfl rfl rb_31 rfl) (yF (.tail _ (.head _))) rfl ?_))
  intro v53u7 r53u7
  refine w_q rfl (fun h' L' hh hR => zG rfl) rfl (w_q rfl (fun h' L' hh hR => (zH (sz := 3) 1 Tryz.underlying32 Tryz.sizeOf30 rfl rfl rfl (by decide)).cv (show _ = vP b9 3 from congrArg (vP b9) (by rfl))) rfl (yR (F := fun v_ => (rpQ (k + 1)).Is h4 v_ ((qP s (ps.getD i (T3.mk (0 : Rat) 0 0))).y)) rfl (zE wA (Pc.ty (Pc.here _)) rfl rfl rb_27 rfl) (yF (.head _)) rfl ?_))
  intro v56u7 r56u7
  refine w_c rfl ?_
  refine yD (vs := [_, _]) Tryz.call74 ⟨rfl, rfl, trivial⟩ (fun w hs => oC hs r46u7 r49u7 (by omega)) rfl ?_
  intro v50u7 h5 hh5 r50u7
  change (rpQ (k + 1)).Is h5 v50u7 (kL ((tU s ps i).y) ((qP s (ps.getD i (T3.mk (0 : Rat) 0 0))).y)) at r50u7
  refine w_q rfl (fun h' L' hh hR => (zH (sz := 3) 1 Tryz.underlying32 Tryz.sizeOf30 rfl rfl rfl (by decide)).cv (show _ = vP b6 3 from congrArg (vP b6) (by rfl))) rfl ?_
  refine w_c rfl ?_
  replace r53u7 := r53u7.mono hh5
  replace r56u7 := r56u7.mono hh5
  refine yD (vs := [_, _]) Tryz.call75 ⟨rfl, rfl, trivial⟩ (fun w hs => oD hs r53u7 r56u7 (by omega)) rfl ?_
  intro v57u7 h6 hh6 r57u7
  change (rpQ (k + 1)).Is h6 v57u7 (kI ((tV s ps i).y) ((qP s (ps.getD i (T3.mk (0 : Rat) 0 0))).y)) at r57u7
  replace rb_29 := rb_29.mono (hh5.trans hh6)
  replace r50u7 := r50u7.mono hh6
  refine wF (A := [_, _]) (F := fun c_ => (rpT (rpQ (k + 1))).R h6 c_ (T3.mk (kL ((tU s ps i).x) ((qP s (ps.getD i (T3.mk (0 : Rat) 0 0))).x)) (kL ((tU s ps i).y) ((qP s (ps.getD i (T3.mk (0 : Rat) 0 0))).y)) ((tU s ps i).z))) rfl (yG Tryz.sizeOf30 (Pc.ty (Pc.here _)) rfl rfl rfl rb_29 r50u7 rfl) ?_
  intro cs_32 rb_33
  refine cT rfl ((zH (sz := 3) 1 Tryz.underlying32 Tryz.sizeOf30 rfl rfl rfl (by decide)).cv (show _ = vP b7 3 from congrArg (vP b7) (by rfl))) rfl ?_
  replace rb_31 := rb_31.mono (hh5.trans hh6)
  refine wF (A := [_]) (F := fun c_ => (rpT (rpQ (k + 1))).R h6 c_ (T3.mk (kI ((tV s ps i).x) ((qP s (ps.getD i (T3.mk (0 : Rat) 0 0))).x)) (kI ((tV s ps i).y) ((qP s (ps.getD i (T3.mk (0 : Rat) 0 0))).y)) ((tV s ps i).z))) rfl (yG Tryz.sizeOf30 (Pc.ty (Pc.here _)) rfl rfl rfl rb_31 r57u7 rfl) ?_
  intro cs_34 rb_35
  refine xB (yV (zJ (e' := [(1, _), (2, _), (6, _), (7, _), (8, _), (9, _), (10, _)]) ⟨rfl, rfl, rfl, rfl, rfl, rfl, rfl, trivial⟩ (zB (zA (mv rfl rfl (gv ((zQ (q := 1) rfl rfl (by omega) (by omega)).cv (show _ = vI (2) from rfl)) rfl (asg rfl rfl (zD (xU (zC (zC (zA (mv rfl rfl ?_)))))))))))))
  refine gv (OpV.fa (by decide) (zW (q := 2) rfl rfl)) rfl (zD (zB (vX rfl (xQ (yE (yE (xO (yV (zB (zA (mv rfl rfl (gv (zQ (q := 1) rfl rfl (by omega) (by omega)) rfl (asg rfl rfl ?_)))))))))))))
  refine zD (xC (A := []) ?_)
  refine yQ ((i + 1), cs_32, cs_34, h6) ?_ ?_ ⟨rfl, rfl, rfl, rfl, rfl, trivial⟩ rfl rfl
  ·
   refine ⟨(((((hmma.trans hh2).trans hh3).trans hh4).trans hh5).trans hh6), ?_⟩
   refine ⟨(Rp.castR rb_33 rfl), (Rp.castR rb_35 rfl), ?_⟩
   exact (by omega)
  dsimp only
  omega
 have ei : i = ps.length := by omega
 refine xQ (yE (yE (xO (zB (zC (zA ?_))))))
 refine zM (vs := [vI (1)]) rfl rfl rfl rfl Tryz.call45 ⟨rfl, trivial⟩ (fun w hs => jB hs (by decide) (by decide)) ?_
 intro v60 h2 hh2 r60
 change (rpQ 2).Is h2 v60 (((1 : Int) : Int) : Rat) at r60
 refine zK (yZ (ρ := (rpQ 1)) (X := (0 : Rat)) wP rfl rfl (wD (by decide))) rfl rfl rfl ?_
 intro v11 q11 hq11
 obtain ⟨b11, cs11, rfl, rfl, rb11⟩ := hq11
 have rw_36 := (Le.q (l := 2) (by decide)).R rb11
 refine wE (A := []) (F := fun c_ => (rpQ 2).R h2 c_ (((1 : Int) : Int) : Rat)) (yG Tryz.sizeOf30 (Pc.here _) rfl rfl rfl rw_36 r60 rfl) ?_
 intro cs_37 rb_38
 refine zD (zB (zC ?_))
 refine yI 20 _ [] [(0, .q), (1, .q), (2, .q), (3, .q), (5, .q), (6, .q), (7, .q), (9, .q), (10, .q), (11, .q), (13, .q), (14, .q), (15, .q), (4, .c), (8, .c), (12, .c), (16, .c), (17, .c), (18, .q), (19, .q)] xI (fun x hx => by cases hx) (gD [0, 0, 2, 0, 12, 0, 32, 0, 208, 0, 512, 0, 3328, 0, 8192, 0, 53248, 69905, 262143, 524287] [1048575, 1048575, 1048573, 1048575, 1048563, 1048575, 1048543, 1048575, 1048383, 1048575, 1048063, 1048575, 1045503, 1048575, 1040383, 1048575, 999423, 978670, 917503, 1048575] (by kernel_rfl)) (fun x hx => by cases hx) (fun r hr => hr) ?_
 replace rb2 := rb2.mono ((hh1.trans hmma).trans hh2)
 refine yR (F := fun v_ => (rpP (rpT (rpQ m)) (rpQ l)).Is h2 v_ s) rfl (zE kE (Pc.here _) rfl rfl rb2 rfl) (yF (.tail _ (.tail _ (.tail _ (.head _))))) rfl ?_
 intro v61 r61
 refine w_q rfl (fun h' L' hh hR => (zH (sz := 3) (q := 0) 0 Tryz.underlying32 Tryz.sizeOf30 rfl rfl rfl (by decide)).cv (show _ = vP b6 0 from congrArg (vP b6) (by rfl))) rfl ?_
 replace rb_23 := rb_23.mono hh2
 refine yR (F := fun v_ => (rpQ (k + 1)).Is h2 v_ ((tU s ps i).x)) rfl (zE wA (Pc.tx (Pc.here _)) rfl rfl rb_23 rfl) (yF (.tail _ (.tail _ (.head _)))) rfl ?_
 intro v63 r63
 refine yR (F := fun v_ => (rpQ 2).Is h2 v_ (((1 : Int) : Int) : Rat)) rfl (zE wA (Pc.here _) rfl rfl rb_38 rfl) (yF (.head _)) rfl ?_
 intro v64 r64
 refine w_q rfl (fun h' L' hh hR => (zH (sz := 3) (q := 1) 1 Tryz.underlying32 Tryz.sizeOf30 rfl rfl rfl (by decide)).cv (show _ = vP b6 3 from congrArg (vP b6) (by rfl))) rfl (yR (F := fun v_ => (rpQ (k + 1)).Is h2 v_ ((tU s ps i).y)) rfl (zE wA (Pc.ty (Pc.here _)) rfl rfl rb_23 rfl) (yF (.tail _ (.tail _ (.head _)))) rfl ?_)
 intro v67 r67
 refine yR (F := fun v_ => (rpQ 2).Is h2 v_ (((1 : Int) : Int) : Rat)) rfl (zE wA (Pc.here _) rfl rfl rb_38 rfl) (yF (.head _)) rfl ?_
 intro v68 r68
 refine w_q rfl (fun h' L' hh hR => (zH (sz := 3) (q := 0) 0 Tryz.underlying32 Tryz.sizeOf30 rfl rfl rfl (by decide)).cv (show _ = vP b7 0 from congrArg (vP b7) (by rfl))) rfl ?_
 replace rb_25 := rb_25.mono hh2
 refine yR (F := fun v_ => (rpQ (k + 1)).Is h2 v_ ((tV s ps i).x)) rfl (zE wA (Pc.tx (Pc.here _)) rfl rfl rb_25 rfl) (yF (.tail _ (.head _))) rfl ?_
 intro v71 r71
 refine yR (F := fun v_ => (rpQ 2).Is h2 v_ (((1 : Int) : Int) : Rat)) rfl (zE wA (Pc.here _) rfl rfl rb_38 rfl) (yF (.head _)) rfl ?_
 intro v72 r72
 refine w_q rfl (fun h' L' hh hR => (zH (sz := 3) (q := 1) 1 Tryz.underlying32 Tryz.sizeOf30 rfl rfl rfl (by decide)).cv (show _ = vP b7 3 from congrArg (vP b7) (by rfl))) rfl (yR (F := fun v_ => (rpQ (k + 1)).Is h2 v_ ((tV s ps i).y)) rfl (zE wA (Pc.ty (Pc.here _)) rfl rfl rb_25 rfl) (yF (.tail _ (.head _))) rfl ?_)
 intro v75 r75
 refine yR (F := fun v_ => (rpQ 2).Is h2 v_ (((1 : Int) : Int) : Rat)) rfl (zE wA (Pc.here _) rfl rfl rb_38 rfl) (yF (.head _)) rfl ?_
 intro v76 r76
 refine w_c rfl ?_
 refine yD (vs := [_, _]) Tryz.call56 ⟨rfl, rfl, trivial⟩ (fun w hs => qZ hs r63 r64 (by omega)) rfl ?_
 intro v65 h3 hh3 r65
 change (rpQ ((k + 1) + 2 + 1)).Is h3 v65 (((tU s ps i).x) - (((1 : Int) : Int) : Rat)) at r65
 replace r65 := Rp.Is.le r65 (Le.q (l := k + 4) (by omega))
 refine w_c rfl ?_
 replace r67 := r67.mono hh3
 replace r68 := r68.mono hh3
 refine yD (vs := [_, _]) Tryz.call56 ⟨rfl, rfl, trivial⟩ (fun w hs => qZ hs r67 r68 (by omega)) rfl ?_
 intro v69 h4 hh4 r69
 change (rpQ ((k + 1) + 2 + 1)).Is h4 v69 (((tU s ps i).y) - (((1 : Int) : Int) : Rat)) at r69
 replace r69 := Rp.Is.le r69 (Le.q (l := k + 4) (by omega))
 refine w_c rfl ?_
 replace r71 := r71.mono (hh3.trans hh4)
 replace r72 := r72.mono (hh3.trans hh4)
 refine yD (vs := [_, _]) Tryz.call53 ⟨rfl, rfl, trivial⟩ (fun w hs => gL hs r71 r72 (by omega)) rfl ?_
 intro v73 h5 hh5 r73
 change (rpQ ((k + 1) + 2 + 1)).Is h5 v73 (((tV s ps i).x) + (((1 : Int) : Int) : Rat)) at r73
 replace r73 := Rp.Is.le r73 (Le.q (l := k + 4) (by omega))
 refine w_c rfl ?_
 replace r75 := r75.mono ((hh3.trans hh4).trans hh5)
 replace r76 := r76.mono ((hh3.trans hh4).trans hh5)
 refine yD (vs := [_, _]) Tryz.call53 ⟨rfl, rfl, trivial⟩ (fun w hs => gL hs r75 r76 (by omega)) rfl ?_
 intro v77 h6 hh6 r77
 change (rpQ ((k + 1) + 2 + 1)).Is h6 v77 (((tV s ps i).y) + (((1 : Int) : Int) : Rat)) at r77
 replace r77 := Rp.Is.le r77 (Le.q (l := k + 4) (by omega))
 refine w_c rfl ?_
 replace r61 := r61.mono (((hh3.trans hh4).trans hh5).trans hh6)
 replace r65 := r65.mono ((hh4.trans hh5).trans hh6)
 replace r69 := r69.mono (hh5.trans hh6)
 replace r73 := r73.mono hh6
 refine yD (vs := [_, _, _, _, _]) Tryz.call76 ⟨rfl, rfl, rfl, rfl, rfl, trivial⟩ (fun w hs => u5 hs r61 r65 r69 r73 r77 (by omega) (by omega) (by omega)) rfl ?_
 intro v78 h7 hh7 r78
 change (rpS (rpT (rpQ (3 * (k + 4) + l + 4 * m + 33)))).Is h7 v78 (sqrL s (((tU s ps i).x) - (((1 : Int) : Int) : Rat)) (((tU s ps i).y) - (((1 : Int) : Int) : Rat)) (((tV s ps i).x) + (((1 : Int) : Int) : Rat)) (((tV s ps i).y) + (((1 : Int) : Int) : Rat))) at r78
 replace r78 := Rp.Is.le r78 (Le.s (Le.t (Le.q (l := 3 * k + l + 4 * m + 45) (by omega))))
 refine w_q rfl (fun h' L' hh hR => zY rfl) rfl (w_q rfl (fun h' L' hh hR => zY rfl) rfl (xB (zJ (e' := [(4, _), (5, _)]) ⟨rfl, rfl, trivial⟩ (zB (zR (vG rfl rfl rfl ?_))))))
 refine ⟨_, ?_, (Rp.Is.cast r78 (by rw [ei]; exact (if_neg hz).symm))⟩
 rw [xS hz]
end Go.Proofs.YtghhjjmjpeehdaaGreat
namespace Go.Proofs.YtghhjjmjpeehdaaGreat
open Bk Go
set_option linter.unusedVariables false
set_option linter.unusedSimpArgs false
set_option maxRecDepth 10000
theorem aQ {w0 : World} {h0 : Mem}  (hs : MLe h0 (mem w0))  :
    Calls Tryz.prog 43 #[] w0 (Ret w0 h0 (fun h r => (rpS (rpT (rpQ 2))).Is h r sq0)) := by
 refine zP (n := 6) (e := []) (vs := []) Tryz.func43 rfl rfl (Nat.le_of_ble_eq_true rfl) hs trivial ?_
 refine zC ?_
 refine zA ?_  -- region 0 (line 14)
 refine asg rfl rfl ?_
 refine zD ?_
 refine zB ?_
 refine zC ?_
 refine zA ?_  -- region 1 (line 15)
 refine zM (vs := [vI (0), vI (0), vI (0)]) rfl rfl rfl rfl Tryz.call44 ⟨rfl, rfl, rfl, trivial⟩ (fun w hs => kU hs (by decide) (by decide) (by decide) (by decide) (by decide) (by decide)) ?_
 intro v1 h1 hh1 r1
 change (rpT (rpQ 2)).Is h1 v1 (T3.mk (((0 : Int) : Int) : Rat) (((0 : Int) : Int) : Rat) (((0 : Int) : Int) : Rat)) at r1
 refine zM (vs := [vI (2), vI (0), vI (0)]) rfl rfl rfl rfl Tryz.call44 ⟨rfl, rfl, rfl, trivial⟩ (fun w hs => kU hs (by decide) (by decide) (by decide) (by decide) (by decide) (by decide)) ?_
 intro v2 h2 hh2 r2
 change (rpT (rpQ 2)).Is h2 v2 (T3.mk (((2 : Int) : Int) : Rat) (((0 : Int) : Int) : Rat) (((0 : Int) : Int) : Rat)) at r2
 refine zM (vs := [vI (2), vI (2), vI (0)]) rfl rfl rfl rfl Tryz.call44 ⟨rfl, rfl, rfl, trivial⟩ (fun w hs => kU hs (by decide) (by decide) (by decide) (by decide) (by decide) (by decide)) ?_
 intro v3 h3 hh3 r3
 change (rpT (rpQ 2)).Is h3 v3 (T3.mk (((2 : Int) : Int) : Rat) (((2 : Int) : Int) : Rat) (((0 : Int) : Int) : Rat)) at r3
 refine zM (vs := [vI (0), vI (2), vI (0)]) rfl rfl rfl rfl Tryz.call44 ⟨rfl, rfl, rfl, trivial⟩ (fun w hs => kU hs (by decide) (by decide) (by decide) (by decide) (by decide) (by decide)) ?_
 intro v4 h4 hh4 r4
 change (rpT (rpQ 2)).Is h4 v4 (T3.mk (((0 : Int) : Int) : Rat) (((2 : Int) : Int) : Rat) (((0 : Int) : Int) : Rat)) at r4
 replace r1 := r1.mono ((hh2.trans hh3).trans hh4)
 replace r2 := r2.mono (hh3.trans hh4)
 replace r3 := r3.mono hh4
 refine zK (yW (ρ := (rpT (rpQ 2))) (m := 4) (xs := [(T3.mk (((0 : Int) : Int) : Rat) (((0 : Int) : Int) : Rat) (((0 : Int) : Int) : Rat)), (T3.mk (((2 : Int) : Int) : Rat) (((0 : Int) : Int) : Rat) (((0 : Int) : Int) : Rat)), (T3.mk (((2 : Int) : Int) : Rat) (((2 : Int) : Int) : Rat) (((0 : Int) : Int) : Rat)), (T3.mk (((0 : Int) : Int) : Rat) (((2 : Int) : Int) : Rat) (((0 : Int) : Int) : Rat))]) (ps' := [(0, _), (1, _), (2, _), (3, _)]) Tryz.underlying27 yB rfl rfl rfl (wI (wD (by decide))) ⟨rfl, rfl, rfl, rfl, rfl, rfl, rfl, rfl, trivial⟩ (yU rfl (Pc.arr (Pc.here _) (T3.mk (0 : Rat) 0 0) 0 (by decide)) r1 (yU rfl (Pc.arr (Pc.here _) (T3.mk (0 : Rat) 0 0) 1 (by decide)) r2 (yU rfl (Pc.arr (Pc.here _) (T3.mk (0 : Rat) 0 0) 2 (by decide)) r3 (yU rfl (Pc.arr (Pc.here _) (T3.mk (0 : Rat) 0 0) 3 (by decide)) r4 xY)))) (show 4 * 9 ≤ 16777216 from by decide) (show 0 < 9 from by decide)) rfl rfl rfl ?_
 intro v5 q5 hq5
 obtain ⟨cs5, rfl, rl5⟩ := hq5
 refine asg rfl rfl ?_
 refine zD ?_
 refine zB ?_
 refine zR ?_
 refine kC (A := []) (ρ := (rpT (rpQ 2))) rl5 ?_
 intro h5 hh5 rs_1
 refine yJ rfl rfl ?_
 exact rs_1
theorem oV {w0 : World} {h0 : Mem}  (hs : MLe h0 (mem w0))  :
    Calls Tryz.prog 10 #[] w0 (Ret w0 h0 (fun _ r => r = .bool true)) := by
 refine zP (n := 33) (e := []) (vs := []) Tryz.func10 rfl rfl (Nat.le_of_ble_eq_true rfl) hs trivial ?_
 refine zC ?_
 refine zA ?_  -- region 0 (line 19)
 refine asg rfl rfl ?_
 refine zD ?_
 refine zB ?_
 refine zC ?_
 refine zA ?_  -- region 1 (line 20)
 refine zM (vs := []) rfl rfl rfl rfl Tryz.call43 trivial (fun w hs => aQ hs ) ?_
 intro v4 h1 hh1 r4
 change (rpS (rpT (rpQ 2))).Is h1 v4 sq0 at r4
 refine zM (vs := [vI (1), vI (0), vI (0)]) rfl rfl rfl rfl Tryz.call44 ⟨rfl, rfl, rfl, trivial⟩ (fun w hs => kU hs (by decide) (by decide) (by decide) (by decide) (by decide) (by decide)) ?_
 intro v5 h2 hh2 r5
 change (rpT (rpQ 2)).Is h2 v5 (T3.mk (((1 : Int) : Int) : Rat) (((0 : Int) : Int) : Rat) (((0 : Int) : Int) : Rat)) at r5
 refine zM (vs := [vI (1)]) rfl rfl rfl rfl Tryz.call45 ⟨rfl, trivial⟩ (fun w hs => jB hs (by decide) (by decide)) ?_
 intro v6 h3 hh3 r6
 change (rpQ 2).Is h3 v6 (((1 : Int) : Int) : Rat) at r6
 replace r5 := r5.mono hh3
 refine wG (F := fun v_ => (rpP (rpT (rpQ 2)) (rpQ 2)).Is h3 v_ ((T3.mk (((1 : Int) : Int) : Rat) (((0 : Int) : Int) : Rat) (((0 : Int) : Int) : Rat)), (((1 : Int) : Int) : Rat))) (cD (ps' := [(0, _), (1, _)]) Tryz.underlying34 rA rfl rfl (cC Tryz.underlying34) ⟨rfl, rfl, rfl, rfl, trivial⟩ rfl (eH (wI (wD (by decide))) (wD (by decide))) (yU rfl (Pc.fst (Pc.here _)) r5 (yU rfl (Pc.snd (Pc.here _)) r6 xY))) uH rfl ?_
 intro v7 r7
 replace r4 := r4.mono (hh2.trans hh3)
 refine zM (vs := [_, _]) rfl rfl rfl rfl Tryz.call14 ⟨rfl, rfl, trivial⟩ (fun w hs => o_cx_cut hs r4 r7 (by decide) (by decide) (by decide) (by first | omega | exact (by decide : 4 ≤ 50000))) ?_
 intro v8 h4 hh4 r8
 obtain ⟨v8_0, v8_1, rfl, r8_0, r8_1⟩ := r8
 change (rpS (rpT (rpQ (12 * 2 + 3 * 2 + 9 * 2 + 62 + 2)))).Is h4 v8_0 (tO ((T3.mk (((1 : Int) : Int) : Rat) (((0 : Int) : Int) : Rat) (((0 : Int) : Int) : Rat)), (((1 : Int) : Int) : Rat)) sq0) at r8_0
 replace r8_0 := Rp.Is.le r8_0 (Le.s (Le.t (Le.q (l := 112) (by omega))))
 change (rpS (rpT (rpQ (12 * 2 + 3 * 2 + 9 * 2 + 62 + 2)))).Is h4 v8_1 (sM ((T3.mk (((1 : Int) : Int) : Rat) (((0 : Int) : Int) : Rat) (((0 : Int) : Int) : Rat)), (((1 : Int) : Int) : Rat)) sq0) at r8_1
 replace r8_1 := Rp.Is.le r8_1 (Le.s (Le.t (Le.q (l := 112) (by omega))))
 refine mv rfl rfl ?_
 refine gv (zN (vs := [_, _]) rfl rfl) rfl ?_
 refine gv (zN (vs := [_, _]) rfl rfl) rfl ?_
 refine asg rfl rfl ?_
 refine asg rfl rfl ?_
 refine zD ?_
 refine zB ?_
 refine zC ?_
 refine yI 23 _ [] [(0, .q), (1, .q), (2, .q), (3, .q), (4, .q), (5, .q), (6, .q), (7, .q), (8, .q), (9, .q), (10, .q), (11, .q), (12, .c), (13, .c), (14, .q), (15, .q), (16, .q), (17, .q), (18, .q), (19, .c), (20, .c), (21, .q), (22, .q)] xI (fun x hx => by cases hx) (gD [0, 1, 2, 4, 8, 24, 40, 72, 136, 256, 768, 1280, 256, 6400, 8448, 24576, 32768, 98304, 163840, 32768, 819200, 1081344, 4194303] [8388607, 8388606, 8388605, 8388603, 8388599, 8388583, 8388567, 8388535, 8388479, 8388351, 8387839, 8387327, 8388351, 8382207, 8380159, 8372223, 8355839, 8290303, 8224767, 8355839, 7569407, 7307263, 6291455] (by kernel_rfl)) (fun x hx => by cases hx) (fun r hr => hr) ?_  -- region 2 (line 21)
 refine w_q rfl (fun h' L' hh hR => zG rfl) rfl ?_
 refine w_q rfl (fun h' L' hh hR => vT Tryz.underlying27 rfl (r8_0.mono hh)) rfl ?_
 refine w_q rfl (fun h' L' hh hR => OpV.tr (by exact congrArg (fun l : List Pt => (↑l.length : Int)) tA.1) (xZ (q := 4) rfl rfl)) rfl ?_
 refine w_q rfl (fun h' L' hh hR => zG rfl) rfl ?_
 refine uO rfl rfl rfl (fun h' L' hh hR => zG rfl) rfl ?_
 refine uO rfl rfl rfl (fun h' L' hh hR => vT Tryz.underlying27 rfl (r8_1.mono hh)) rfl ?_
 refine uO rfl rfl rfl (fun h' L' hh hR => OpV.tr (by exact congrArg (fun l : List Pt => (↑l.length : Int)) tA.2) (xZ (q := 4) rfl rfl)) rfl ?_
 refine w_q rfl (fun h' L' hh hR => xK rfl rfl) rfl ?_
 refine w_q rfl (fun h' L' hh hR => zG rfl) rfl ?_
 refine uO rfl rfl rfl (fun h' L' hh hR => zG rfl) rfl ?_
 refine tR (F := fun v_ => AtP (rpT (rpQ 112)) h4 v_ ((tO ((T3.mk (((1 : Int) : Int) : Rat) (((0 : Int) : Int) : Rat) (((0 : Int) : Int) : Rat)), (((1 : Int) : Int) : Rat)) sq0).getD 1 (T3.mk (0 : Rat) 0 0))) rfl rfl rfl (uR (q := 1) (T3.mk (0 : Rat) 0 0) 1 Tryz.underlying27 xG rfl rfl r8_0 rfl (by exact Nat.lt_of_lt_of_eq (by decide : 1 < 4) (congrArg List.length tA.1).symm) (show 0 < 9 from by decide)) uH rfl ?_
 intro v21 r21
 refine tR (F := fun v_ => (rpT (rpQ 112)).Is h4 v_ ((tO ((T3.mk (((1 : Int) : Int) : Rat) (((0 : Int) : Int) : Rat) (((0 : Int) : Int) : Rat)), (((1 : Int) : Int) : Rat)) sq0).getD 1 (T3.mk (0 : Rat) 0 0))) rfl rfl rfl (vM xG rfl r21) uH rfl ?_
 intro v22 r22
 refine w_c rfl ?_
 refine eO rfl rfl ?_
 refine yD (vs := [vI (1), vI (0), vI (0)]) Tryz.call44 ⟨rfl, rfl, rfl, trivial⟩ (fun w hs => kU hs (by decide) (by decide) (by decide) (by decide) (by decide) (by decide)) rfl ?_
 intro v23 h5 hh5 r23
 change (rpT (rpQ 2)).Is h5 v23 (T3.mk (((1 : Int) : Int) : Rat) (((0 : Int) : Int) : Rat) (((0 : Int) : Int) : Rat)) at r23
 refine w_c rfl ?_
 refine eO rfl rfl ?_
 replace r22 := r22.mono hh5
 refine yD (vs := [_, _]) Tryz.call29 ⟨rfl, rfl, trivial⟩ (fun w hs => lV hs r22 r23 (by decide)) rfl ?_
 intro v24 h6 hh6 r24
 obtain rfl : v24 = .bool true := by rw [show v24 = vB (((tO ((T3.mk (((1 : Int) : Int) : Rat) (((0 : Int) : Int) : Rat) (((0 : Int) : Int) : Rat)), (((1 : Int) : Int) : Rat)) sq0).getD 1 (T3.mk (0 : Rat) 0 0)) = (T3.mk (((1 : Int) : Int) : Rat) (((0 : Int) : Int) : Rat) (((0 : Int) : Int) : Rat))) from r24, xS (by exact (congrArg (fun l : List Pt => l.getD 1 zT) tA.1).trans sane_pt)]
 refine w_q rfl (fun h' L' hh hR => xK rfl rfl) rfl ?_
 refine w_q rfl (fun h' L' hh hR => zG rfl) rfl ?_
 refine uO rfl rfl rfl (fun h' L' hh hR => zG rfl) rfl ?_
 replace r8_1 := r8_1.mono (hh5.trans hh6)
 refine tR (F := fun v_ => AtP (rpT (rpQ 112)) h6 v_ ((sM ((T3.mk (((1 : Int) : Int) : Rat) (((0 : Int) : Int) : Rat) (((0 : Int) : Int) : Rat)), (((1 : Int) : Int) : Rat)) sq0).getD 0 (T3.mk (0 : Rat) 0 0))) rfl rfl rfl (uR (q := 0) (T3.mk (0 : Rat) 0 0) 0 Tryz.underlying27 xG rfl rfl r8_1 rfl (by exact Nat.lt_of_lt_of_eq (by decide : 0 < 4) (congrArg List.length tA.2).symm) (show 0 < 9 from by decide)) uH rfl ?_
 intro v28 r28
 refine tR (F := fun v_ => (rpT (rpQ 112)).Is h6 v_ ((sM ((T3.mk (((1 : Int) : Int) : Rat) (((0 : Int) : Int) : Rat) (((0 : Int) : Int) : Rat)), (((1 : Int) : Int) : Rat)) sq0).getD 0 (T3.mk (0 : Rat) 0 0))) rfl rfl rfl (vM xG rfl r28) uH rfl ?_
 intro v29 r29
 refine w_c rfl ?_
 refine eO rfl rfl ?_
 refine yD (vs := [vI (1), vI (0), vI (0)]) Tryz.call44 ⟨rfl, rfl, rfl, trivial⟩ (fun w hs => kU hs (by decide) (by decide) (by decide) (by decide) (by decide) (by decide)) rfl ?_
 intro v30 h7 hh7 r30
 change (rpT (rpQ 2)).Is h7 v30 (T3.mk (((1 : Int) : Int) : Rat) (((0 : Int) : Int) : Rat) (((0 : Int) : Int) : Rat)) at r30
 refine w_c rfl ?_
 refine eO rfl rfl ?_
 replace r29 := r29.mono hh7
 refine yD (vs := [_, _]) Tryz.call29 ⟨rfl, rfl, trivial⟩ (fun w hs => lV hs r29 r30 (by decide)) rfl ?_
 intro v31 h8 hh8 r31
 obtain rfl : v31 = .bool true := by rw [show v31 = vB (((sM ((T3.mk (((1 : Int) : Int) : Rat) (((0 : Int) : Int) : Rat) (((0 : Int) : Int) : Rat)), (((1 : Int) : Int) : Rat)) sq0).getD 0 (T3.mk (0 : Rat) 0 0)) = (T3.mk (((1 : Int) : Int) : Rat) (((0 : Int) : Int) : Rat) (((0 : Int) : Int) : Rat))) from r31, xS (by exact (congrArg (fun l : List Pt => l.getD 0 zT) tA.2).trans sane_pt)]
 refine w_q rfl (fun h' L' hh hR => xK rfl rfl) rfl ?_
 refine w_q rfl (fun h' L' hh hR => zY rfl) rfl ?_
 refine xB ?_
 refine zJ (e' := [(0, _)]) ⟨rfl, trivial⟩ ?_
 refine zB ?_
 refine zR ?_
 refine yJ rfl rfl ?_
 rfl
theorem dI {w0 w : World} {h0 h : Mem} {b k : Nat} {vl : Value} {xs : List Int} (hl : Is h vl xs) (hk : k ≤ xs.length) {L : List Res} (hs : St w0 h0 (.var b 65 [vl, vI ↑k] :: L) h w) :
    Calls Tryz.prog 12 #[vP b 0] w (bS w0 h0 h L (fun g r q' => ∃ k' : Nat, ∃ u0 u1 : Value, ∃ m : List (T3 Rat), ∃ s : (T3 Rat) × Rat, q' = .var b 65 [vl, vI ↑k'] ∧ k' ≤ xs.length ∧ (fN s m ∧ m.length ≤ 32) ∧ r = .tuple #[u0, u1] ∧ (rpS (rpT (rpQ 140000))).Is g u0 m ∧ (rpP (rpT (rpQ 2)) (rpQ 2)).Is g u1 s)) := by
 have hlen := hl.lt63
 refine kK (n := 46) (e := [(0, vP b 0)]) (vs := [vP b 0]) Tryz.func12 rfl rfl (Nat.le_of_ble_eq_true rfl) hs ⟨rfl, trivial⟩ ?_
 refine zC ?_
 refine zA ?_  -- region 0 (line 25)
 refine asg rfl rfl ?_
 refine zK (yZ (ρ := (rpP (rpT (rpQ 2)) (rpQ 2))) (X := ((T3.mk (0 : Rat) 0 0), (0 : Rat))) rA rfl rfl (eH (wI (wD (by decide))) (wD (by decide)))) rfl rfl rfl ?_
 intro v3 q3 hq3
 obtain ⟨b3, cs3, rfl, rfl, rb3⟩ := hq3
 refine zD ?_
 refine zB ?_
 refine zC ?_
 refine zA ?_  -- region 1 (line 26)
 refine mv rfl rfl ?_
 refine xW (A := [_]) (vs := [_]) Tryz.call13 ⟨rfl, trivial⟩ (fun X w hs => rV hl (by first | omega | exact Nat.zero_le _) hs) rfl ?_
 intro v11 g11 q11 hg11 hr11
 obtain ⟨k11, p11, rfl, hk11, hr11⟩ := hr11
 refine zK (yZ (ρ := (rpP (rpT (rpQ 2)) (rpQ 2))) (X := ((T3.mk (0 : Rat) 0 0), (0 : Rat))) rA rfl rfl (eH (wI (wD (by decide))) (wD (by decide)))) rfl rfl rfl ?_
 intro v4 q4 hq4
 obtain ⟨b4, cs4, rfl, rfl, rb4⟩ := hq4
 refine wE (A := []) (F := fun c_ => (rpP (rpT (rpQ 2)) (rpQ 2)).R g11 c_ p11) (yG Tryz.sizeOf34 (Pc.here _) rfl rfl rfl rb4 hr11 rfl) ?_
 intro cs_2 rb_3
 refine zD ?_
 refine zB ?_
 refine zC ?_
 refine oY (A := [_, _]) 12 [] [(0, .q), (1, .q), (3, .q), (2, .c), (4, .c), (5, .c), (6, .c), (7, .q), (8, .q), (9, .q), (10, .q), (11, .q)] xI (fun x hx => by cases hx) (gD [0, 0, 2, 0, 12, 20, 49, 64, 128, 128, 511, 2047] [4095, 4095, 4093, 4095, 4087, 4075, 4062, 4031, 3967, 3967, 3839, 3583] (by kernel_rfl)) (fun x hx => by cases hx) ?_
 refine yR (F := fun v_ => (rpP (rpT (rpQ 2)) (rpQ 2)).Is g11 v_ p11) rfl (zE kE (Pc.here _) rfl rfl rb_3 rfl) (yF (.head _)) rfl ?_
 intro v13 r13
 refine w_q rfl (fun h' L' hh hR => zG rfl) rfl ?_
 refine w_q rfl (fun h' L' hh hR => zG rfl) rfl ?_
 refine w_c rfl ?_
 replace hl := hl.mono hg11
 refine mN (A := [_, _]) (vs := [_]) Tryz.call33 ⟨rfl, trivial⟩ (fun X w hs => cG hl (by first | omega | exact Nat.zero_le _) hs) rfl (xF (by first | (simp; done) | grind)) ?_
 intro v15 g15 q15 hg15 hr15
 obtain ⟨k15, p15, rfl, hk15, hr15⟩ := hr15
 refine w_c rfl ?_
 replace hl := hl.mono hg15
 refine mN (A := [_, _]) (vs := [_]) Tryz.call33 ⟨rfl, trivial⟩ (fun X w hs => cG hl (by first | omega | exact Nat.zero_le _) hs) rfl (xF (by first | (simp; done) | grind)) ?_
 intro v17 g17 q17 hg17 hr17
 obtain ⟨k17, p17, rfl, hk17, hr17⟩ := hr17
 refine w_c rfl ?_
 replace hr15 := hr15.mono hg17
 refine uU (fun X => yW (ρ := (rpT (rpQ 2))) (m := 2) (xs := [p15, p17]) (ps' := [(0, _), (1, _)]) Tryz.underlying27 yB rfl rfl rfl (wI (wD (by decide))) ⟨rfl, rfl, rfl, rfl, trivial⟩ (yU rfl (Pc.arr (Pc.here _) (T3.mk (0 : Rat) 0 0) 0 (by decide)) hr15 (yU rfl (Pc.arr (Pc.here _) (T3.mk (0 : Rat) 0 0) 1 (by decide)) hr17 xY)) (show 2 * 9 ≤ 16777216 from by decide) (show 0 < 9 from by decide)) rfl ?_
 intro v18 q18 hq18
 obtain ⟨cs18, rfl, rl18⟩ := hq18
 refine w_c rfl ?_
 refine xL (A := []) (ρ := (rpT (rpQ 2))) rl18 (xM (by first | (simp; done) | grind)) ?_
 intro h1 hh1 rs_4
 replace r13 := r13.mono ((hg15.trans hg17).trans hh1)
 refine yD (vs := [_, _]) Tryz.call37 ⟨rfl, rfl, trivial⟩ (fun w hs => u9 hs r13 rs_4 (by decide) (by decide) (by decide)) rfl ?_
 intro v19 h2 hh2 r19
 obtain ⟨v19_0, rfl, r19_0⟩ := r19
 change (rpS (rpT (rpQ (3 * 2 + 2 + 4 * 2 + 45)))).Is h2 v19_0 (aroZ p11 [p15, p17]) at r19_0
 replace r19_0 := Rp.Is.le r19_0 (Le.s (Le.t (Le.q (l := 61) (by omega))))
 refine w_q rfl (fun h' L' hh hR => zG rfl) rfl ?_
 refine w_q rfl (fun h' L' hh hR => zN (vs := [_, _]) rfl rfl) rfl ?_
 refine w_q rfl (fun h' L' hh hR => zN (vs := [_, _]) rfl rfl) rfl ?_
 refine w_q rfl (fun h' L' hh hR => zY rfl) rfl ?_
 refine w_q rfl (fun h' L' hh hR => zY rfl) rfl ?_
 refine xB ?_
 refine zJ (e' := [(0, _), (3, _), (4, _), (5, _), (6, _)]) ⟨rfl, rfl, rfl, rfl, rfl, trivial⟩ ?_
 refine zB ?_
 refine zC ?_
 refine zC ?_
 refine zA ?_  -- region 3 (line 28)
 refine mv rfl rfl ?_
 refine gv (kS rfl) rfl ?_
 refine zD ?_
 refine zB ?_
 refine zO rfl (fun hc23 => ?_) (fun hc23 => ?_)
 ·
  refine zC ?_
  refine zA ?_  -- region 4 (line 29)
  refine zM (vs := []) rfl rfl rfl rfl Tryz.call43 trivial (fun w hs => aQ hs ) ?_
  intro v24 h3 hh3 r24
  change (rpS (rpT (rpQ 2))).Is h3 v24 sq0 at r24
  refine zM (vs := [vI (0), vI (0), vI (1)]) rfl rfl rfl rfl Tryz.call44 ⟨rfl, rfl, rfl, trivial⟩ (fun w hs => kU hs (by decide) (by decide) (by decide) (by decide) (by decide) (by decide)) ?_
  intro v25 h4 hh4 r25
  change (rpT (rpQ 2)).Is h4 v25 (T3.mk (((0 : Int) : Int) : Rat) (((0 : Int) : Int) : Rat) (((1 : Int) : Int) : Rat)) at r25
  refine wG (F := fun v_ => (rpP (rpT (rpQ 2)) (rpQ 1)).Is h4 v_ ((T3.mk (((0 : Int) : Int) : Rat) (((0 : Int) : Int) : Rat) (((1 : Int) : Int) : Rat)), (0 : Rat))) (cD (ps' := [(0, _)]) Tryz.underlying34 rA rfl rfl (cC Tryz.underlying34) ⟨rfl, rfl, trivial⟩ rfl (eH (wI (wD (by decide))) (wD (by decide))) (yU rfl (Pc.fst (Pc.here _)) r25 xY)) uH rfl ?_
  intro v26 r26
  refine asg rfl rfl ?_
  replace rb3 := rb3.mono ((((((hg11.trans hg15).trans hg17).trans hh1).trans hh2).trans hh3).trans hh4)
  refine wE (A := [_]) (F := fun c_ => (rpP (rpT (rpQ 2)) (rpQ 2)).R h4 c_ ((T3.mk (((0 : Int) : Int) : Rat) (((0 : Int) : Int) : Rat) (((1 : Int) : Int) : Rat)), (0 : Rat))) (yG Tryz.sizeOf34 (Pc.here _) rfl rfl rfl rb3 (r26.le (Le.p (Le.refl _) (Le.q (l := 2) (by decide)))) rfl) ?_
  intro cs_5 rb_6
  refine zD ?_
  refine zB ?_
  refine zR ?_
  refine zX ?_
  refine uG (gF (t := 3) kE (.tail _ (.head _)) rfl rb_6) ?_
  intro w_7 hvw_7 rr_8
  refine jC (fun E S => kZ rfl (tP rfl) hvw_7 E S) ?_
  replace r24 := r24.mono hh4
  exact ⟨_, (.cons _ (.cons _ (List.Sublist.refl _))), ((((((hg11.trans hg15).trans hg17).trans hh1).trans hh2).trans hh3).trans hh4), _, _, _, _, _, rfl, by omega, (by first | exact ⟨z6, by decide⟩ | exact ⟨hcv, by omega⟩), rfl, (Rp.Is.le r24 (Le.s (Le.t (Le.q (l := 140000) (by decide))))), rr_8⟩
 ·
  have hnz : ¬ p11.1 = zT := fun e => (Classical.not_not.1 hc23) (.inr e)
  refine zL ?_
  refine zB ?_
  refine zC ?_
  refine zC ?_
  refine zA ?_  -- region 5 (line 31)
  refine mv rfl rfl ?_
  replace hl := hl.mono ((hg17.trans hh1).trans hh2)
  refine xW (A := [_, _]) (vs := [_, vI (4)]) Tryz.call22 ⟨rfl, rfl, trivial⟩ (fun X w hs => uQ hl (by first | omega | exact Nat.zero_le _) (by omega) (by omega) hs) rfl ?_
  intro v28 g28 q28 hg28 hr28
  obtain ⟨k28, z28, rfl, hk28, rfl, hz28, hy28⟩ := hr28
  refine asg rfl rfl ?_
  refine zD ?_
  refine zB ?_
  refine zS ?_
  refine wR (ι := Nat × Nat × List (T3 Rat) × Value × Nat × Mem) (fun (n, kk, lv, u5_9, kd_11, ma) => MLe g28 ma ∧ ((rpS (rpT (rpQ kk))).Is ma u5_9 lv ∧ kd_11 ≤ xs.length ∧ ((n = 3 ∧ kk ≤ 61 ∧ lv.length ≤ 4) ∨ (n ≤ 2 ∧ kk ≤ 900 ∧ lv.length ≤ 8) ∨ (n ≤ 1 ∧ kk ≤ 11000 ∧ lv.length ≤ 16) ∨ (n = 0 ∧ kk ≤ 140000 ∧ lv.length ≤ 32)) ∧ fN p11 lv)) (fun (n, kk, lv, u5_9, kd_11, ma) => [(0, vP b 0), (3, vP b3 0), (4, vP b4 0), (5, u5_9), (7, vI ↑n)]) (fun (n, kk, lv, u5_9, kd_11, ma) => (.var b4 34 cs_2 :: .var b3 34 cs3 :: .var b 65 [vl, vI ↑kd_11] :: L)) (fun (n, kk, lv, u5_9, kd_11, ma) => ma) (fun (n, kk, lv, u5_9, kd_11, ma) => n) (z28.toNat, 61, (aroZ p11 [p15, p17]), v19_0, k28, g28) ?_ ⟨?_, ?_, ?_, ?_, ?_, trivial⟩ rfl rfl ?_
  ·
   refine ⟨MLe.refl _, ?_⟩
   replace r19_0 := r19_0.mono hg28
   refine ⟨r19_0, (by omega), ?_⟩
   exact ⟨by have := (f6 (s := p11) (ps := [p15, p17]) (by simp) hnz).2; omega, (f6 (by simp) hnz).1⟩
  · exact rfl
  · exact rfl
  · exact rfl
  · exact rfl
  · exact congrArg (fun z => some (vI z)) (by omega)
  ·
   intro x hx
   obtain ⟨n, kk, lv, u5_9, kd_11, ma⟩ := x
   obtain ⟨hmma, hinv⟩ := hx
   show GC _ _ _ _ _ _ [(0, vP b 0), (3, vP b3 0), (4, vP b4 0), (5, u5_9), (7, vI ↑n)] (.var b4 34 cs_2 :: .var b3 34 cs3 :: .var b 65 [vl, vI ↑kd_11] :: L) ma
   obtain ⟨ru_10, hkd_12, hinv⟩ := hinv
   obtain ⟨hnk, hcv⟩ := hinv
   refine zC ?_
   refine zC ?_
   refine zA ?_  -- region 6 (line 31)
   refine mv rfl rfl ?_
   refine gv (uS (q := 0) rfl rfl) rfl ?_
   refine zD ?_
   refine zB ?_
   refine zO rfl (fun hc30 => ?_) (fun hc30 => ?_)
   ·
    refine zL ?_
    refine zB ?_
    refine zC ?_
    refine zS ?_
    refine zC ?_
    refine zA ?_  -- region 8 (line 32)
    refine mv rfl rfl ?_
    refine mv rfl rfl ?_
    replace hl := hl.mono (hg28.trans hmma)
    refine xW (A := [_, _]) (vs := [_]) Tryz.call13 ⟨rfl, trivial⟩ (fun X w hs => rV hl (by first | omega | exact Nat.zero_le _) hs) rfl ?_
    intro v36 g36 q36 hg36 hr36
    obtain ⟨k36, p36, rfl, hk36, hr36⟩ := hr36
    replace ru_10 := ru_10.mono hg36
    refine zM (vs := [_, _]) rfl rfl rfl rfl Tryz.call15 ⟨rfl, rfl, trivial⟩ (fun w hs => o_r6_cut hs ru_10 hr36 (by omega) (by decide) (by decide) (by omega)) ?_
    intro v37 h3 hh3 r37
    obtain ⟨v37_0, v37_1, rfl, r37_0, r37_1⟩ := r37
    change (rpS (rpT (rpQ (12 * kk + 3 * 2 + 9 * 2 + 62)))).Is h3 v37_0 (tO p36 lv) at r37_0
    replace r37_0 := Rp.Is.le r37_0 (Le.s (Le.t (Le.q (l := 12 * kk + 86) (by omega))))
    change (rpS (rpT (rpQ (12 * kk + 3 * 2 + 9 * 2 + 62)))).Is h3 v37_1 (sM p36 lv) at r37_1
    replace r37_1 := Rp.Is.le r37_1 (Le.s (Le.t (Le.q (l := 12 * kk + 86) (by omega))))
    refine mv rfl rfl ?_
    refine gv (zN (vs := [_, _]) rfl rfl) rfl ?_
    refine gv (zN (vs := [_, _]) rfl rfl) rfl ?_
    refine asg rfl rfl ?_
    refine asg rfl rfl ?_
    refine zD ?_
    refine zJ (e' := [(0, _), (3, _), (4, _), (5, _), (7, _), (8, _)]) ⟨rfl, rfl, rfl, rfl, rfl, rfl, trivial⟩ ?_
    refine zB ?_
    refine zC ?_
    refine zA ?_  -- region 9 (line 32)
    refine mv rfl rfl ?_
    refine gv (vT Tryz.underlying27 rfl r37_0) rfl ?_
    refine gv (uS (q := 0) rfl rfl) rfl ?_
    refine zD ?_
    refine zB ?_
    refine zO rfl (fun hc42 => ?_) (fun hc42 => ?_)
    ·
     refine zA ?_  -- region 10 (line 33)
     refine mv rfl rfl ?_
     refine asg rfl rfl ?_
     refine zD ?_
     refine yV ?_
     refine zB ?_
     refine zA ?_  -- region 7 (line 31)
     refine mv rfl rfl ?_
     refine gv (xT (q := 1) rfl rfl (by omega) (by omega)) rfl ?_
     refine asg rfl rfl ?_
     refine zD ?_
     refine yQ ((n - 1), (12 * kk + 86), (tO p36 lv), v37_0, k36, h3) ?_ ?_ ⟨rfl, rfl, rfl, rfl, ?_, trivial⟩ rfl rfl
     ·
      refine ⟨((hmma.trans hg36).trans hh3), ?_⟩
      refine ⟨(Rp.Is.le r37_0 (Le.s (Le.t (Le.q (by omega))))), (by omega), ?_⟩
      exact ⟨by have := g3 p36 lv; omega, (cutB_valid p36 hcv).resolve_right (fun e => by rw [e] at hc42; exact absurd hc42 (by decide))⟩
     ·
      dsimp only
      omega
     · exact congrArg (fun z => some (vI z)) (by omega)
    ·
     refine zL ?_
     refine yV ?_
     refine zB ?_
     refine zA ?_  -- region 7 (line 31)
     refine mv rfl rfl ?_
     refine gv (xT (q := 1) rfl rfl (by omega) (by omega)) rfl ?_
     refine asg rfl rfl ?_
     refine zD ?_
     refine yQ ((n - 1), kk, lv, u5_9, k36, h3) ?_ ?_ ⟨rfl, rfl, rfl, rfl, ?_, trivial⟩ rfl rfl
     ·
      refine ⟨((hmma.trans hg36).trans hh3), ?_⟩
      replace ru_10 := ru_10.mono hh3
      refine ⟨(Rp.Is.le ru_10 (Le.s (Le.t (Le.q (by omega))))), (by omega), ?_⟩
      exact ⟨by omega, hcv⟩
     ·
      dsimp only
      omega
     · exact congrArg (fun z => some (vI z)) (by omega)
   ·
    refine xQ ?_
    refine yE ?_
    refine yE ?_
    refine xO ?_
    refine zB ?_
    refine zC ?_
    refine yI 3 _ [] [(0, .q), (1, .q), (2, .q), (3, .t)] xI (fun x hx => by cases hx) (by kernel_rfl) (fun x hx => by cases hx) (fun r hr => hr) ?_  -- region 11 (line 36)
    refine w_q rfl (fun h' L' hh hR => zG rfl) rfl ?_
    replace rb_3 := rb_3.mono (((((hg15.trans hg17).trans hh1).trans hh2).trans hg28).trans hmma)
    refine yR (F := fun v_ => (rpP (rpT (rpQ 2)) (rpQ 2)).Is ma v_ p11) rfl (zE kE (Pc.here _) rfl rfl rb_3 rfl) (yF (.head _)) rfl ?_
    intro v45 r45
    refine w_q rfl (fun h' L' hh hR => zY rfl) rfl ?_
    replace rb3 := rb3.mono ((((((hg11.trans hg15).trans hg17).trans hh1).trans hh2).trans hg28).trans hmma)
    refine wF (A := [_]) (F := fun c_ => (rpP (rpT (rpQ 2)) (rpQ 2)).R ma c_ p11) rfl (yG Tryz.sizeOf34 (Pc.here _) rfl rfl rfl rb3 r45 rfl) ?_
    intro cs_13 rb_14
    refine xB ?_
    refine zB ?_
    refine zR ?_
    refine uG (gF (t := 3) kE (.tail _ (.head _)) rfl rb_14) ?_
    intro w_15 hvw_15 rr_16
    refine jC (fun E S => kZ rfl (tP rfl) hvw_15 E S) ?_
    exact ⟨_, (.cons _ (.cons _ (List.Sublist.refl _))), ((((((hg11.trans hg15).trans hg17).trans hh1).trans hh2).trans hg28).trans hmma), _, _, _, _, _, rfl, by omega, (by first | exact ⟨z6, by decide⟩ | exact ⟨hcv, by omega⟩), rfl, (Rp.Is.le ru_10 (Le.s (Le.t (Le.q (l := 140000) (by omega))))), rr_16⟩
end Go.Proofs.YtghhjjmjpeehdaaGreat
namespace Bk
set_option linter.unusedVariables false
set_option linter.unusedSimpArgs false
open Classical
noncomputable abbrev lp2 (pl : Pl) (l : List Pt) : Nat → P2 := fun m => pt2 pl (gp l m)
def upr (pl : Pl) (a b : Pt) : Pl := (gO (rN b a) pl.1, jP (gO (rN b a) pl.1) a)
def inP (pl : Pl) (l : List Pt) (p : Pt) : Prop := (∀ m, m < l.length → ¬ 0 < sdZ (upr pl (gp l m) (nx l m)) p) ∧ 0 < l.length
noncomputable def afC (pl c : Pl) : Rat × Rat × Rat :=
  (c.1.at (axK pl.1) / pl.1.at (axK pl.1) * pl.2 - c.2, c.1.at (axI pl.1) - c.1.at (axK pl.1) / pl.1.at (axK pl.1) * pl.1.at (axI pl.1), c.1.at (axJ pl.1) - c.1.at (axK pl.1) / pl.1.at (axK pl.1) * pl.1.at (axJ pl.1))
def ngP (c : Pl) : Pl := (T3.mk (-c.1.x) (-c.1.y) (-c.1.z), -c.2)
end Bk
namespace Bk
set_option linter.unusedVariables false
set_option linter.unusedSimpArgs false
open Classical
def rM (l : List Pt) : Nat → Pt
  | 0 => zT
  | m + 1 => addT (rM l m) (gp l m)
noncomputable def cenZ (l : List Pt) : Pt := if l.length = 0 then zT else T3.mk (wU 1 ↑l.length * (rM l l.length).x) (wU 1 ↑l.length * (rM l l.length).y) (wU 1 ↑l.length * (rM l l.length).z)
def hsum (c : Pl) (l : List Pt) : Nat → Rat
  | 0 => 0
  | m + 1 => hsum c l m + hgt c (gp l m)
theorem det_le {pl : Pl} {a b c : Pt} (hn : ¬ pl.1 = zT) (ha : sdZ pl a = 0) (hb : sdZ pl b = 0) (hc : sdZ pl c = 0) : uY (detT (rN b a) (rN c a) pl.1) ≤ 0 ↔ ¬ 0 < orZ (pt2 pl a) (pt2 pl b) (pt2 pl c) := by
  rw [← det_or hn ha hb hc, det_eq]
  omega
theorem conv_zero {s : Pl} {l : List Pt} (h : s.1 = zT) : ¬ fN s l := fun e => e.1.2 h
end Bk
namespace Go.Proofs.YtghhjjmjpeehdaaGreat
open Bk Go
set_option linter.unusedVariables false
set_option linter.unusedSimpArgs false
set_option maxRecDepth 10000
theorem u4 {w0 : World} {h0 : Mem} (hs : MLe h0 (mem w0)) {n : Int} (hn1 : -9223372036854775808 ≤ n) (hn2 : n < 9223372036854775808) {d : Int} (hd1 : -9223372036854775808 ≤ d) (hd2 : d < 9223372036854775808)  :
    Calls Tryz.prog 52 #[vI n, vI d] w0 (Ret w0 h0 (fun h r => ∃ u0, r = .tuple #[u0, vI (if d = 0 then 3 else 0)] ∧ (rpQ 2).Is h u0 (wU n d))) := by
  exact (iJ hs   hn1 hn2 hd1 hd2).mono (jI fun h r x => by obtain ⟨u, e, y⟩ := x; exact ⟨u, e, bD y (by exact dN hn1 hn2 hd1 hd2)⟩)
theorem o_s4_det {w0 : World} {h0 : Mem}  (hs : MLe h0 (mem w0)) {k l m : Nat} {va : Value} {a : (T3 Rat)} (ra : (rpT (rpQ k)).Is h0 va a) {vb : Value} {b : (T3 Rat)} (rb : (rpT (rpQ l)).Is h0 vb b) {vc : Value} {c : (T3 Rat)} (rc : (rpT (rpQ m)).Is h0 vc c) (hcd0 : k ≤ 100000000) (hcd1 : l ≤ 100000000) (hcd2 : m ≤ 100000000)  :
    Calls Tryz.prog 51 #[va, vb, vc] w0 (Ret w0 h0 (fun h r => (rpQ (3 * k + 6 * l + 6 * m + 18)).Is h r (detT a b c))) := by
 refine zP (n := 12) (e := [(0, va), (1, vb), (2, vc)]) (vs := [va, vb, vc]) Tryz.func51 rfl rfl (Nat.le_of_ble_eq_true rfl) hs ⟨rfl, rfl, rfl, trivial⟩ (zC (zA (zK (yY (ρ := (rpT (rpQ k))) rfl ra) rfl rfl rfl ?_)))
 intro v3 q3 hq3
 obtain ⟨b3, cs3, rfl, rfl, rb3⟩ := hq3
 refine zK (yY (ρ := (rpT (rpQ l))) rfl rb) rfl rfl rfl ?_
 intro v4 q4 hq4
 obtain ⟨b4, cs4, rfl, rfl, rb4⟩ := hq4
 refine zK (yY (ρ := (rpT (rpQ m))) rfl rc) rfl rfl rfl ?_
 intro v5 q5 hq5
 obtain ⟨b5, cs5, rfl, rfl, rb5⟩ := hq5
 refine zK (yZ (ρ := (rpQ 1)) (X := (0 : Rat)) wP rfl rfl (wD (by decide))) rfl rfl rfl ?_
 intro v6 q6 hq6
 obtain ⟨b6, cs6, rfl, rfl, rb6⟩ := hq6
 refine zD (zB (zC ?_))
 refine yI 5 _ [] [(0, .q), (1, .q), (2, .q), (3, .c), (4, .c), (5, .t)] xI (fun x hx => by cases hx) (by kernel_rfl) (fun x hx => by cases hx) (fun r hr => hr) (yR (F := fun v_ => (rpT (rpQ k)).Is h0 v_ a) rfl (zE xG (Pc.here _) rfl rfl rb3 rfl) (yF (.tail _ (.tail _ (.tail _ (.head _))))) rfl ?_)
 intro v7 r7
 refine yR (F := fun v_ => (rpT (rpQ l)).Is h0 v_ b) rfl (zE xG (Pc.here _) rfl rfl rb4 rfl) (yF (.tail _ (.tail _ (.head _)))) rfl ?_
 intro v8 r8
 refine yR (F := fun v_ => (rpT (rpQ m)).Is h0 v_ c) rfl (zE xG (Pc.here _) rfl rfl rb5 rfl) (yF (.tail _ (.head _))) rfl ?_
 intro v9 r9
 refine w_c rfl ?_
 refine yD (vs := [_, _]) Tryz.call61 ⟨rfl, rfl, trivial⟩ (fun w hs => o_r4_cross hs r8 r9 (by omega)) rfl ?_
 intro v10 h1 hh1 r10
 change (rpT (rpQ (2 * l + 2 * m + 3))).Is h1 v10 (gO b c) at r10
 refine w_c rfl ?_
 replace r7 := r7.mono hh1
 refine yD (vs := [_, _]) Tryz.call57 ⟨rfl, rfl, trivial⟩ (fun w hs => aO hs r7 r10 (by omega)) rfl ?_
 intro v11 h2 hh2 r11
 change (rpQ (3 * k + 3 * (2 * l + 2 * m + 3) + 9)).Is h2 v11 (jP a (gO b c)) at r11
 replace r11 := Rp.Is.le r11 (Le.q (l := 3 * k + 6 * l + 6 * m + 18) (by omega))
 replace rb6 := rb6.mono (hh1.trans hh2)
 have rw_1 := (Le.q (l := 3 * k + 6 * l + 6 * m + 18) (by omega)).R rb6
 refine wF (A := []) (F := fun c_ => (rpQ (3 * k + 6 * l + 6 * m + 18)).R h2 c_ (jP a (gO b c))) rfl (yG Tryz.sizeOf30 (Pc.here _) rfl rfl rfl rw_1 r11 rfl) ?_
 intro cs_2 rb_3
 refine xB (zJ (e' := [(6, _)]) ⟨rfl, trivial⟩ (zB (zR (uG (gF (t := 6) wA (.head _) rfl rb_3) ?_))))
 intro w_4 hvw_4 rr_5
 refine xX (fun E S => yP rfl hvw_4 E S) ?_
 exact rr_5
theorem u6 {w0 : World} {h0 : Mem}  (hs : MLe h0 (mem w0)) {k : Nat} {vl : Value} {l : (List (T3 Rat))} (rl : (rpS (rpT (rpQ k))).Is h0 vl l) (hcd0 : k ≤ 10000000) (hcd1 : l.length ≤ 32)  :
    Calls Tryz.prog 18 #[vl] w0 (Ret w0 h0 (fun h r => (rpT (rpQ (32 * k + 100))).Is h r (cenZ l))) := by
 refine zP (n := 33) (e := [(0, vl)]) (vs := [vl]) Tryz.func18 rfl rfl (Nat.le_of_ble_eq_true rfl) hs ⟨rfl, trivial⟩ (zC (zA (zK (yZ (ρ := (rpT (rpQ 2))) (X := (T3.mk (0 : Rat) 0 0)) yB rfl rfl (wI (wD (by decide)))) rfl rfl rfl ?_)))
 intro v2 q2 hq2
 obtain ⟨b2, cs2, rfl, rfl, rb2⟩ := hq2
 refine zD (zB (zC (zC (zA (mv rfl rfl (gv (vT Tryz.underlying27 rfl rl) rfl (gv (xZ (q := 0) rfl rfl) rfl (zD (zB ?_)))))))))
 refine zO rfl (fun hc9 => ?_) (fun hc9 => ?_)
 ·
  have hz : l.length = 0 := by omega
  refine zC (zA (wG (F := fun v_ => (rpT (rpQ 1)).Is h0 v_ (T3.mk (0 : Rat) 0 0)) (wV (ps' := []) Tryz.underlying32 yB rfl rfl Tryz.sizeOf30 trivial rfl (wI (wD (by decide))) xY) uH rfl ?_))
  intro v10 r10
  refine wE (A := []) (F := fun c_ => (rpT (rpQ 2)).R h0 c_ (T3.mk (0 : Rat) 0 0)) (yG Tryz.sizeOf32 (Pc.here _) rfl rfl rfl rb2 (r10.le (Le.t (Le.q (l := 2) (by decide)))) rfl) ?_
  intro cs_13 rb_14
  refine zD (zB (zR (zX (uG (gF (t := 2) xG (.head _) rfl rb_14) ?_))))
  intro w_15 hvw_15 rr_16
  refine xX (fun E S => yP rfl hvw_15 E S) ?_
  exact (Rp.Is.cast (Rp.Is.le rr_16 (Le.t (Le.q (l := 32 * k + 100) (by omega)))) (by exact (if_pos hz).symm))
 have hz : ¬ l.length = 0 := by omega
 refine zL (zB (zC (zA (wG (F := fun v_ => (rpT (rpQ 1)).Is h0 v_ (T3.mk (0 : Rat) 0 0)) (wV (ps' := []) Tryz.underlying32 yB rfl rfl Tryz.sizeOf30 trivial rfl (wI (wD (by decide))) xY) uH rfl ?_))))
 intro v11 r11
 refine zK (yZ (ρ := (rpT (rpQ 1))) (X := (T3.mk (0 : Rat) 0 0)) yB rfl rfl (wI (wD (by decide)))) rfl rfl rfl ?_
 intro v3 q3 hq3
 obtain ⟨b3, cs3, rfl, rfl, rb3⟩ := hq3
 refine wE (A := []) (F := fun c_ => (rpT (rpQ 1)).R h0 c_ (T3.mk (0 : Rat) 0 0)) (yG Tryz.sizeOf32 (Pc.here _) rfl rfl rfl rb3 r11 rfl) ?_
 intro cs_17 rb_18
 refine zD (zB (zC (zC (zA (asg (v := vI (0)) rfl rfl (zD (zB (zS ?_))))))))
 refine wR (ι := Nat × Nat × List Value × Mem) (fun (i, q, cs_19, ma) => MLe h0 ma ∧ ((rpT (rpQ q)).R ma cs_19 (rM l i) ∧ i ≤ l.length ∧ q ≤ (k + 1) * i + 1)) (fun (i, q, cs_19, ma) => [(0, vl), (2, vP b2 0), (3, vP b3 0), (4, vI ↑i)]) (fun (i, q, cs_19, ma) => [.var b3 32 cs_19, .var b2 32 cs2]) (fun (i, q, cs_19, ma) => ma) (fun (i, q, cs_19, ma) => l.length - i) (0, 1, cs_17, h0) ?_ ⟨rfl, rfl, rfl, rfl, trivial⟩ rfl rfl ?_
 ·
  refine ⟨MLe.refl _, ?_⟩
  refine ⟨rb_18, ?_⟩
  exact ⟨by omega, by omega⟩
 intro x hx
 obtain ⟨i, q, cs_19, ma⟩ := x
 obtain ⟨hmma, hinv⟩ := hx
 show GC _ _ _ _ _ _ [(0, vl), (2, vP b2 0), (3, vP b3 0), (4, vI ↑i)] [.var b3 32 cs_19, .var b2 32 cs2] ma
 obtain ⟨rb_20, hinv⟩ := hinv
 obtain ⟨hi1, hq1⟩ := hinv
 have hq2 := Nat.mul_le_mul_left (k + 1) (show i ≤ 32 by omega)
 refine zC (zC (zA (mv rfl rfl (mv rfl rfl ?_))))
 replace rl := rl.mono hmma
 refine gv (vT Tryz.underlying27 rfl rl) rfl (gv (zW rfl rfl) rfl (zD (zB ?_)))
 refine zO rfl (fun hc15 => ?_) (fun hc15 => ?_)
 ·
  refine zL (zB (zC (zS ?_)))
  refine yI 6 _ [] [(0, .q), (1, .q), (2, .q), (3, .q), (4, .q), (5, .c), (6, .t)] xI (fun x hx => by cases hx) (by kernel_rfl) (fun x hx => by cases hx) (fun r hr => hr) (yR (F := fun v_ => (rpT (rpQ q)).Is ma v_ (rM l i)) rfl (zE xG (Pc.here _) rfl rfl rb_20 rfl) (yF (.head _)) rfl ?_)
  intro v18 r18
  refine w_q rfl (fun h' L' hh hR => zG rfl) rfl (w_q rfl (fun h' L' hh hR => zG rfl) rfl (yR (F := fun v_ => AtP (rpT (rpQ k)) ma v_ (l.getD i (T3.mk (0 : Rat) 0 0))) rfl (uR (T3.mk (0 : Rat) 0 0) i Tryz.underlying27 xG rfl rfl rl rfl (by omega) (show 0 < 9 from by decide)) uH rfl ?_))
  intro v21 r21
  refine yR (F := fun v_ => (rpT (rpQ k)).Is ma v_ (l.getD i (T3.mk (0 : Rat) 0 0))) rfl (vM xG rfl r21) uH rfl ?_
  intro v22 r22
  refine w_c rfl ?_
  refine yD (vs := [_, _]) Tryz.call19 ⟨rfl, rfl, trivial⟩ (fun w hs => w9 hs r18 r22 (by omega)) rfl ?_
  intro v23 h1 hh1 r23
  change (rpT (rpQ (q + k + 1))).Is h1 v23 (T3.mk ((rM l i).x + (l.getD i (T3.mk (0 : Rat) 0 0)).x) ((rM l i).y + (l.getD i (T3.mk (0 : Rat) 0 0)).y) ((rM l i).z + (l.getD i (T3.mk (0 : Rat) 0 0)).z)) at r23
  replace r23 := Rp.Is.le r23 (Le.t (Le.q (l := k + q + 1) (by omega)))
  replace rb_20 := rb_20.mono hh1
  have rw_21 := (Le.t (Le.q (l := k + q + 1) (by omega))).R rb_20
  refine wF (A := []) (F := fun c_ => (rpT (rpQ (k + q + 1))).R h1 c_ (T3.mk ((rM l i).x + (l.getD i (T3.mk (0 : Rat) 0 0)).x) ((rM l i).y + (l.getD i (T3.mk (0 : Rat) 0 0)).y) ((rM l i).z + (l.getD i (T3.mk (0 : Rat) 0 0)).z))) rfl (yG Tryz.sizeOf32 (Pc.here _) rfl rfl rfl rw_21 r23 rfl) ?_
  intro cs_22 rb_23
  refine xB (yV (zJ (e' := [(0, _), (2, _), (3, _), (4, _)]) ⟨rfl, rfl, rfl, rfl, trivial⟩ (zB (zA (mv rfl rfl (gv (zQ (q := 1) rfl rfl (by omega) (by omega)) rfl (asg rfl rfl (zD ?_))))))))
  refine yQ ((i + 1), (q + (k + 1)), cs_22, h1) ?_ ?_ ⟨rfl, rfl, rfl, rfl, trivial⟩ rfl rfl
  ·
   refine ⟨(hmma.trans hh1), ?_⟩
   refine ⟨(Rp.castR (Le.R (Le.t (Le.q (l := q + (k + 1)) (by omega))) rb_23) rfl), ?_⟩
   exact ⟨by omega, by rw [Nat.mul_succ]; omega⟩
  dsimp only
  omega
 have ei : i = l.length := by omega
 have hq2 := Nat.mul_le_mul_left (k + 1) (show i ≤ 32 by omega)
 refine xQ (yE (yE (xO (zB (zC (zA (mv rfl rfl (gv (vT Tryz.underlying27 rfl rl) rfl ?_))))))))
 refine zM (vs := [vI (1), _]) rfl rfl rfl rfl Tryz.call52 ⟨rfl, rfl, trivial⟩ (fun w hs => u4 hs (by decide) (by decide) (by omega) (by omega)) ?_
 intro v27 h1 hh1 r27
 obtain ⟨v27_0, rfl, r27_0⟩ := r27
 change (rpQ 2).Is h1 v27_0 (wU (1 : Int) (↑(l).length : Int)) at r27_0
 refine mv rfl rfl (gv (zN (vs := [_, _]) rfl rfl) rfl (gv (zN (vs := [_, _]) rfl rfl) rfl (zK (yZ (ρ := (rpQ 2)) (X := (0 : Rat)) wP rfl rfl (wD (by decide))) rfl rfl rfl ?_)))
 intro v5 q5 hq5
 obtain ⟨b5, cs5, rfl, rfl, rb5⟩ := hq5
 refine wE (A := []) (F := fun c_ => (rpQ 2).R h1 c_ (wU (1 : Int) (↑(l).length : Int))) (yG Tryz.sizeOf30 (Pc.here _) rfl rfl rfl rb5 r27_0 rfl) ?_
 intro cs_24 rb_25
 refine asg rfl rfl (zD (zJ (e' := [(2, _), (3, _), (5, _)]) ⟨rfl, rfl, rfl, trivial⟩ (zB (zC (zA (wG (F := fun v_ => (rpQ 2).Is h1 v_ (wU (1 : Int) (↑(l).length : Int))) (zE wA (Pc.here _) rfl rfl rb_25 rfl) (yF (.head _)) rfl ?_))))))
 intro v30 r30
 replace rb_20 := rb_20.mono hh1
 refine wG (F := fun v_ => (rpT (rpQ q)).Is h1 v_ (rM l i)) (zE xG (Pc.here _) rfl rfl rb_20 rfl) (yF (.tail _ (.head _))) rfl ?_
 intro v31 r31
 refine zM (vs := [_, _]) rfl rfl rfl rfl Tryz.call20 ⟨rfl, rfl, trivial⟩ (fun w hs => oA hs r30 r31 (by omega)) ?_
 intro v32 h2 hh2 r32
 change (rpT (rpQ (q + 2))).Is h2 v32 (T3.mk ((wU (1 : Int) (↑(l).length : Int)) * (rM l i).x) ((wU (1 : Int) (↑(l).length : Int)) * (rM l i).y) ((wU (1 : Int) (↑(l).length : Int)) * (rM l i).z)) at r32
 replace rb2 := rb2.mono ((hmma.trans hh1).trans hh2)
 have rw_26 := (Le.t (Le.q (l := q + 2) (by omega))).R rb2
 refine wE (A := [_, _]) (F := fun c_ => (rpT (rpQ (q + 2))).R h2 c_ (T3.mk ((wU (1 : Int) (↑(l).length : Int)) * (rM l i).x) ((wU (1 : Int) (↑(l).length : Int)) * (rM l i).y) ((wU (1 : Int) (↑(l).length : Int)) * (rM l i).z))) (yG Tryz.sizeOf32 (Pc.here _) rfl rfl rfl rw_26 r32 rfl) ?_
 intro cs_27 rb_28
 refine zD (zB (zR (uG (gF (t := 2) xG (.tail _ (.tail _ (.head _))) rfl rb_28) ?_)))
 intro w_29 hvw_29 rr_30
 refine xX (fun E S => yP rfl hvw_29 E S) ?_
 exact (Rp.Is.cast (Rp.Is.le rr_30 (Le.t (Le.q (l := 32 * k + 100) (by omega)))) (by rw [ei]; exact (if_neg hz).symm))
end Go.Proofs.YtghhjjmjpeehdaaGreat
namespace Go.Proofs.YtghhjjmjpeehdaaGreat
open Bk Go
set_option linter.unusedVariables false
set_option linter.unusedSimpArgs false
set_option maxRecDepth 10000
theorem rW {w0 : World} {h0 : Mem}  (hs : MLe h0 (mem w0)) {k n m : Nat} {vl : Value} {l : (List (T3 Rat))} (rl : (rpS (rpT (rpQ k))).Is h0 vl l) {vs : Value} {s : ((T3 Rat) × Rat)} (rs : (rpP (rpT (rpQ n)) (rpQ m)).Is h0 vs s) (hcd0 : k ≤ 90000000) (hcd1 : m ≤ 90000000) (hcd2 : n ≤ 90000000) (hcd3 : l.length ≤ 100000)  :
    Calls Tryz.prog 34 #[vl, vs] w0 (Ret w0 h0 (fun _ r => r = vB (fN s l))) := by
 have hax := eF s.1
 refine zP (n := 75) (e := [(0, vl), (1, vs)]) (vs := [vl, vs]) Tryz.func34 rfl rfl (Nat.le_of_ble_eq_true rfl) hs ⟨rfl, rfl, trivial⟩ (zC (zA (zK (yY (ρ := (rpP (rpT (rpQ n)) (rpQ m))) rfl rs) rfl rfl rfl ?_)))
 intro v3 q3 hq3
 obtain ⟨b3, cs3, rfl, rfl, rb3⟩ := hq3
 refine asg rfl rfl (zD (zB (zC (zC (zA (mv rfl rfl (gv (vT Tryz.underlying27 rfl rl) rfl (gv (zW (q := 3) rfl rfl) rfl ?_))))))))
 refine vO (ι := Mem) 5 (fun m_ => MLe h0 m_) (fun _ => [(20, vB (((↑(l).length : Int) < (3 : Int)) ∨ (s.1 = (T3.mk (0 : Rat) 0 0)))), (0, vl), (3, vP b3 0)]) (fun _ => [.var b3 34 cs3]) (fun m_ => m_) ?_ ?_
 ·
  refine wM ((↑(l).length : Int) < (3 : Int)) (fun hg => ?_) (fun hg => ?_)
  ·
   refine xH (zG (v := .bool true) (congrArg some (xS hg))) rfl rfl rfl (yL rfl rfl rfl rfl rfl rfl (yL rfl rfl rfl rfl rfl rfl (yL rfl rfl rfl rfl rfl rfl (gv (xK rfl rfl) rfl (zD ?_)))))
   refine yN h0 (MLe.refl _) ⟨?_, rfl, rfl, trivial⟩ rfl rfl
   exact congrArg some (qR hg)
  refine xH (zG (v := .bool false) (congrArg some (yX hg))) rfl rfl rfl (xA rfl rfl rfl (gv ((zI Tryz.underlying34 rfl Tryz.sizeOf32 rfl).cv (show _ = vP b3 0 from congrArg (vP b3) (by rfl))) rfl (xA rfl rfl rfl (wG (F := fun v_ => (rpT (rpQ n)).Is h0 v_ s.1) (zE xG (Pc.fst (Pc.here _)) rfl rfl rb3 rfl) (yF (.head _)) rfl ?_))))
  intro v18 r18
  refine xA rfl rfl rfl ?_
  refine zM (vs := [_]) rfl rfl rfl rfl Tryz.call63 ⟨rfl, trivial⟩ (fun w hs => o_v_zero hs r18 (by omega)) ?_
  intro v19 h1 hh1 r19
  obtain rfl : v19 = vB (s.1 = (T3.mk (0 : Rat) 0 0)) := r19
  refine gv (wB rfl rfl) rfl (zD ?_)
  refine yN h1 hh1 ⟨?_, rfl, rfl, trivial⟩ rfl rfl
  exact congrArg some (qS hg)
 intro mg1_3 hmmg1_3
 show GL _ _ _ _ _ _ _ [(20, vB (((↑(l).length : Int) < (3 : Int)) ∨ (s.1 = (T3.mk (0 : Rat) 0 0)))), (0, vl), (3, vP b3 0)] [.var b3 34 cs3] mg1_3
 refine zD (zB ?_)
 refine zO rfl (fun hc20 => ?_) (fun hc20 => ?_)
 ·
  refine zC (zA (asg rfl rfl (zD (zB (zR (zX (yJ rfl rfl ?_)))))))
  exact (yX (fun e => hc20.elim (fun h => by have := e.1.1; omega) (fun h => e.1.2 h))).symm
 have hN : ¬ s.1 = zT := fun e => hc20 (.inr e)
 have h3 : 3 ≤ l.length := by have h := hc20; omega
 refine zL (zB (zC (zC (zA (mv rfl rfl ?_)))))
 replace rl := rl.mono hmmg1_3
 refine gv (vT Tryz.underlying27 rfl rl) rfl (mv (v := vI (0)) rfl rfl (zD (zB (zS ?_))))
 refine wR (ι := Nat × Mem) (fun (i, ma) => MLe mg1_3 ma ∧ (i ≤ l.length ∧ ∀ u, u < i → sdZ s (gp l u) = 0)) (fun (i, ma) => [(0, vl), (3, vP b3 0), (21, vl), (22, vI (↑(l).length : Int)), (23, vI ↑i)]) (fun (i, ma) => [.var b3 34 cs3]) (fun (i, ma) => ma) (fun (i, ma) => l.length - i) (0, mg1_3) ?_ ⟨rfl, rfl, rfl, rfl, rfl, trivial⟩ rfl rfl ?_
 ·
  refine ⟨MLe.refl _, ?_⟩
  exact ⟨by omega, fun u h => by omega⟩
 intro x hx
 obtain ⟨i, ma⟩ := x
 obtain ⟨hmma, hinv⟩ := hx
 show GC _ _ _ _ _ _ [(0, vl), (3, vP b3 0), (21, vl), (22, vI (↑(l).length : Int)), (23, vI ↑i)] [.var b3 34 cs3] ma
 obtain ⟨hi1, hi2⟩ := hinv
 refine zC (zA (gv (zW rfl rfl) rfl (zD (zB (zC ?_)))))
 refine zO rfl (fun hc24 => ?_) (fun hc24 => ?_)
 ·
  refine zL (zB (zC (zS (zC (zA ?_)))))
  replace rl := rl.mono hmma
  refine wG (F := fun v_ => AtP (rpT (rpQ k)) ma v_ (l.getD i (T3.mk (0 : Rat) 0 0))) (uR (T3.mk (0 : Rat) 0 0) i Tryz.underlying27 xG rfl rfl rl rfl (by omega) (show 0 < 9 from by decide)) uH rfl ?_
  intro v25 r25
  refine wG (F := fun v_ => (rpT (rpQ k)).Is ma v_ (l.getD i (T3.mk (0 : Rat) 0 0))) (vM xG rfl r25) uH rfl ?_
  intro v26 r26
  refine zK (yZ (ρ := (rpT (rpQ (k + 1)))) (X := (T3.mk (0 : Rat) 0 0)) yB rfl rfl (wI (wD (by omega)))) rfl rfl rfl ?_
  intro v6 q6 hq6
  obtain ⟨b6, cs6, rfl, rfl, rb6⟩ := hq6
  refine wE (A := []) (F := fun c_ => (rpT (rpQ (k + 1))).R ma c_ (l.getD i (T3.mk (0 : Rat) 0 0))) (yG Tryz.sizeOf32 (Pc.here _) rfl rfl rfl rb6 (r26.le (Le.t (Le.q (l := k + 1) (by omega)))) rfl) ?_
  intro cs_1 rb_2
  refine zD (zB (zC (zA ?_)))
  replace rb3 := rb3.mono (hmmg1_3.trans hmma)
  refine wG (F := fun v_ => (rpP (rpT (rpQ n)) (rpQ m)).Is ma v_ s) (zE kE (Pc.here _) rfl rfl rb3 rfl) (yF (.tail _ (.head _))) rfl ?_
  intro v27 r27
  refine wG (F := fun v_ => (rpT (rpQ (k + 1))).Is ma v_ (l.getD i (T3.mk (0 : Rat) 0 0))) (zE xG (Pc.here _) rfl rfl rb_2 rfl) (yF (.head _)) rfl ?_
  intro v28 r28
  refine zM (vs := [_, _]) rfl rfl rfl rfl Tryz.call64 ⟨rfl, rfl, trivial⟩ (fun w hs => iP hs r27 r28 (by omega) (by omega) (by omega)) ?_
  intro v29 h1 hh1 r29
  obtain rfl : v29 = vI (sdZ s (l.getD i (T3.mk (0 : Rat) 0 0))) := r29
  have hsd29 := kY s (l.getD i (T3.mk (0 : Rat) 0 0))
  refine gv (tK (q := 0) rfl rfl) rfl (zD (zB ?_))
  refine zO rfl (fun hc30 => ?_) (fun hc30 => ?_)
  ·
   refine wH (e' := []) trivial (zC (zA (asg rfl rfl (zD (zB (zR (wY (zX (zX (wY (zX (yJ rfl rfl ?_))))))))))))
   exact (yX (fun e => hc30 (e.2.1 i (by omega)))).symm
  refine zL (yV (zB (zA (gv (zQ (q := 1) rfl rfl (by omega) (by omega)) rfl (mv rfl rfl (zD (xC (A := []) ?_)))))))
  refine yQ ((i + 1), h1) ?_ ?_ ⟨rfl, rfl, rfl, rfl, rfl, trivial⟩ rfl rfl
  ·
   refine ⟨(hmma.trans hh1), ?_⟩
   exact ⟨by omega, aL (Q := fun u => sdZ s (gp l u) = 0) hi2 (Classical.not_not.1 hc30)⟩
  dsimp only
  omega
 have hS : ∀ u, u < l.length → sdZ s (gp l u) = 0 := fun u hu => hi2 u (by omega)
 refine xQ (yE (yE (xO (zB (zC (zA (gv ((zI Tryz.underlying34 rfl Tryz.sizeOf32 rfl).cv (show _ = vP b3 0 from congrArg (vP b3) (by rfl))) rfl ?_)))))))
 replace rb3 := rb3.mono (hmmg1_3.trans hmma)
 refine wG (F := fun v_ => (rpT (rpQ n)).Is ma v_ s.1) (zE xG (Pc.fst (Pc.here _)) rfl rfl rb3 rfl) (yF (.head _)) rfl ?_
 intro v34 r34
 refine zM (vs := [_]) rfl rfl rfl rfl Tryz.call65 ⟨rfl, trivial⟩ (fun w hs => o_pl_axes hs r34 (by omega)) ?_
 intro v35 h1 hh1 r35
 obtain rfl := r35
 refine mv rfl rfl (gv (zN (vs := [_, _]) rfl rfl) rfl (gv (zN (vs := [_, _]) rfl rfl) rfl (asg rfl rfl (asg rfl rfl (zD (zJ (e' := [(0, _), (7, _), (8, _)]) ⟨rfl, rfl, rfl, trivial⟩ (zB (zC (zC (zA (mv rfl rfl ?_)))))))))))
 replace rl := rl.mono (hmma.trans hh1)
 refine gv (vT Tryz.underlying27 rfl rl) rfl (mv (v := vI (0)) rfl rfl (zD (zB (zS ?_))))
 refine wR (ι := Nat × Mem) (fun (i, mb) => MLe h1 mb ∧ (i ≤ l.length ∧ ∀ u, u < i → ∀ k', 2 ≤ k' → k' < l.length → 0 < orZ (pt2 s (gp l u)) (pt2 s (nx l u)) (pt2 s (gp l ((u + k') % l.length))))) (fun (i, mb) => [(0, vl), (7, vI (↑(axI s.1) : Int)), (8, vI (↑(axJ s.1) : Int)), (38, vl), (39, vI (↑(l).length : Int)), (40, vI ↑i)]) (fun (i, mb) => [.var b3 34 cs3]) (fun (i, mb) => mb) (fun (i, mb) => l.length - i) (0, h1) ?_ ⟨rfl, rfl, rfl, rfl, rfl, rfl, trivial⟩ rfl rfl ?_
 ·
  refine ⟨MLe.refl _, ?_⟩
  exact ⟨by omega, fun u h => by omega⟩
 intro x hx
 obtain ⟨i, mb⟩ := x
 obtain ⟨hmmb, hinv⟩ := hx
 show GC _ _ _ _ _ _ [(0, vl), (7, vI (↑(axI s.1) : Int)), (8, vI (↑(axJ s.1) : Int)), (38, vl), (39, vI (↑(l).length : Int)), (40, vI ↑i)] [.var b3 34 cs3] mb
 obtain ⟨hj1, hj2⟩ := hinv
 refine zC (zA (gv (zW rfl rfl) rfl (zD (zB (zC ?_)))))
 refine zO rfl (fun hc41 => ?_) (fun hc41 => ?_)
 ·
  refine zL (zB (zC (zS (zC (zA (mv rfl rfl ?_))))))
  replace rl := rl.mono hmmb
  refine wG (F := fun v_ => AtP (rpT (rpQ k)) mb v_ (l.getD i (T3.mk (0 : Rat) 0 0))) (uR (T3.mk (0 : Rat) 0 0) i Tryz.underlying27 xG rfl rfl rl rfl (by omega) (show 0 < 9 from by decide)) uH rfl ?_
  intro v43 r43
  refine wG (F := fun v_ => (rpT (rpQ k)).Is mb v_ (l.getD i (T3.mk (0 : Rat) 0 0))) (vM xG rfl r43) uH rfl ?_
  intro v44 r44
  refine zK (yZ (ρ := (rpT (rpQ (k + 1)))) (X := (T3.mk (0 : Rat) 0 0)) yB rfl rfl (wI (wD (by omega)))) rfl rfl rfl ?_
  intro v10 q10 hq10
  obtain ⟨b10, cs10, rfl, rfl, rb10⟩ := hq10
  refine asg rfl rfl (wE (A := []) (F := fun c_ => (rpT (rpQ (k + 1))).R mb c_ (l.getD i (T3.mk (0 : Rat) 0 0))) (yG Tryz.sizeOf32 (Pc.here _) rfl rfl rfl rb10 (r44.le (Le.t (Le.q (l := k + 1) (by omega)))) rfl) ?_)
  intro cs_3 rb_4
  refine zD (zB (zC (zA (mv rfl rfl (mv rfl rfl (gv (zQ (q := 1) rfl rfl (by omega) (by omega)) rfl (mv rfl rfl (gv (vT Tryz.underlying27 rfl rl) rfl (gv (qC rfl rfl (by omega) (by omega)) rfl (wG (F := fun v_ => AtP (rpT (rpQ k)) mb v_ (l.getD ((i + 1) % l.length) (T3.mk (0 : Rat) 0 0))) (uR (T3.mk (0 : Rat) 0 0) ((i + 1) % l.length) Tryz.underlying27 xG rfl rfl rl (by first | rfl | (push_cast; rfl)) (by exact Nat.mod_lt _ (by omega)) (show 0 < 9 from by decide)) uH rfl ?_))))))))))
  intro v51 r51
  refine wG (F := fun v_ => (rpT (rpQ k)).Is mb v_ (l.getD ((i + 1) % l.length) (T3.mk (0 : Rat) 0 0))) (vM xG rfl r51) uH rfl ?_
  intro v52 r52
  refine zK (yZ (ρ := (rpT (rpQ (k + 1)))) (X := (T3.mk (0 : Rat) 0 0)) yB rfl rfl (wI (wD (by omega)))) rfl rfl rfl ?_
  intro v11 q11 hq11
  obtain ⟨b11, cs11, rfl, rfl, rb11⟩ := hq11
  refine wE (A := []) (F := fun c_ => (rpT (rpQ (k + 1))).R mb c_ (l.getD ((i + 1) % l.length) (T3.mk (0 : Rat) 0 0))) (yG Tryz.sizeOf32 (Pc.here _) rfl rfl rfl rb11 (r52.le (Le.t (Le.q (l := k + 1) (by omega)))) rfl) ?_
  intro cs_5 rb_6
  refine zD (zJ (e' := [(0, _), (7, _), (8, _), (38, _), (39, _), (40, _), (10, _), (9, _), (11, _)]) ⟨rfl, rfl, rfl, rfl, rfl, rfl, rfl, rfl, rfl, trivial⟩ (zB (zC (zA (asg (v := vI (2)) rfl rfl (zD (zB (zS ?_))))))))
  refine wR (ι := Nat × Mem) (fun (q, mq) => MLe mb mq ∧ ((2 ≤ q ∧ q ≤ l.length) ∧ ∀ k', 2 ≤ k' → k' < q → 0 < orZ (pt2 s (gp l i)) (pt2 s (nx l i)) (pt2 s (gp l ((i + k') % l.length))))) (fun (q, mq) => [(0, vl), (7, vI (↑(axI s.1) : Int)), (8, vI (↑(axJ s.1) : Int)), (9, vI ↑i), (10, vP b10 0), (11, vP b11 0), (12, vI ↑q), (38, vl), (39, vI (↑(l).length : Int)), (40, vI ↑i)]) (fun (q, mq) => [.var b11 32 cs_5, .var b10 32 cs_3, .var b3 34 cs3]) (fun (q, mq) => mq) (fun (q, mq) => l.length - q) (2, mb) ?_ ⟨rfl, rfl, rfl, rfl, rfl, rfl, rfl, rfl, rfl, rfl, trivial⟩ rfl rfl ?_
  ·
   refine ⟨MLe.refl _, ?_⟩
   exact ⟨⟨by omega, by omega⟩, fun k' h1' h2' => by omega⟩
  intro x hx
  obtain ⟨q, mq⟩ := x
  obtain ⟨hmmq, hinv⟩ := hx
  show GC _ _ _ _ _ _ [(0, vl), (7, vI (↑(axI s.1) : Int)), (8, vI (↑(axJ s.1) : Int)), (9, vI ↑i), (10, vP b10 0), (11, vP b11 0), (12, vI ↑q), (38, vl), (39, vI (↑(l).length : Int)), (40, vI ↑i)] [.var b11 32 cs_5, .var b10 32 cs_3, .var b3 34 cs3] mq
  obtain ⟨⟨hk0, hk1⟩, hk2⟩ := hinv
  refine zC (zC (zA (mv rfl rfl (mv rfl rfl ?_))))
  replace rl := rl.mono hmmq
  refine gv (vT Tryz.underlying27 rfl rl) rfl (gv (zW rfl rfl) rfl (zD (zB ?_)))
  refine zO rfl (fun hc56 => ?_) (fun hc56 => ?_)
  ·
   refine zL (zB (zC (zS (zC ?_))))
   refine yI 15 _ [] [(0, .q), (1, .q), (2, .q), (3, .q), (4, .q), (5, .q), (6, .q), (7, .q), (8, .q), (9, .q), (10, .q), (11, .q), (12, .q), (13, .c), (14, .q)] xI (fun x hx => by cases hx) (gD [0, 0, 0, 0, 0, 24, 0, 64, 160, 260, 512, 0, 0, 7171, 8192] [32767, 32767, 32767, 32767, 32767, 32743, 32767, 32703, 32607, 32507, 32255, 32767, 32767, 25596, 24575] (by kernel_rfl)) (fun x hx => by cases hx) (fun r hr => hr) ?_
   replace rb_4 := rb_4.mono hmmq
   refine yR (F := fun v_ => (rpT (rpQ (k + 1))).Is mq v_ (l.getD i (T3.mk (0 : Rat) 0 0))) rfl (zE xG (Pc.here _) rfl rfl rb_4 rfl) (yF (.tail _ (.head _))) rfl ?_
   intro v59 r59
   replace rb_6 := rb_6.mono hmmq
   refine yR (F := fun v_ => (rpT (rpQ (k + 1))).Is mq v_ (l.getD ((i + 1) % l.length) (T3.mk (0 : Rat) 0 0))) rfl (zE xG (Pc.here _) rfl rfl rb_6 rfl) (yF (.head _)) rfl ?_
   intro v60 r60
   refine w_q rfl (fun h' L' hh hR => zG rfl) rfl (w_q rfl (fun h' L' hh hR => zG rfl) rfl (w_q rfl (fun h' L' hh hR => zG rfl) rfl (w_q rfl (fun h' L' hh hR => zQ rfl rfl (by omega) (by omega)) rfl (w_q rfl (fun h' L' hh hR => zG rfl) rfl (w_q rfl (fun h' L' hh hR => vT Tryz.underlying27 rfl (rl.mono hh)) rfl (w_q rfl (fun h' L' hh hR => qC rfl rfl (by omega) (by omega)) rfl (yR (F := fun v_ => AtP (rpT (rpQ k)) mq v_ (l.getD ((i + q) % l.length) (T3.mk (0 : Rat) 0 0))) rfl (uR (T3.mk (0 : Rat) 0 0) ((i + q) % l.length) Tryz.underlying27 xG rfl rfl rl (by first | rfl | (push_cast; rfl)) (by exact Nat.mod_lt _ (by omega)) (show 0 < 9 from by decide)) uH rfl ?_)))))))
   intro v68 r68
   refine yR (F := fun v_ => (rpT (rpQ k)).Is mq v_ (l.getD ((i + q) % l.length) (T3.mk (0 : Rat) 0 0))) rfl (vM xG rfl r68) uH rfl ?_
   intro v69 r69
   refine w_q rfl (fun h' L' hh hR => zG rfl) rfl (w_q rfl (fun h' L' hh hR => zG rfl) rfl ?_)
   refine w_c rfl ?_
   refine yD (vs := [_, _, _, _, _]) Tryz.call66 ⟨rfl, rfl, rfl, rfl, rfl, trivial⟩ (fun w hs => j0 (i := (axI s.1)) (j := (axJ s.1)) hs r59 r60 (r69.le (Le.t (Le.q (l := k + 1) (by omega)))) (by omega) (by omega) (by omega)) rfl ?_
   intro v72 h2 hh2 r72
   obtain rfl : v72 = vI (orZ (pr (l.getD i (T3.mk (0 : Rat) 0 0)) (axI s.1) (axJ s.1)) (pr (l.getD ((i + 1) % l.length) (T3.mk (0 : Rat) 0 0)) (axI s.1) (axJ s.1)) (pr (l.getD ((i + q) % l.length) (T3.mk (0 : Rat) 0 0)) (axI s.1) (axJ s.1))) := r72
   have hor72 := or_range (pr (l.getD i (T3.mk (0 : Rat) 0 0)) (axI s.1) (axJ s.1)) (pr (l.getD ((i + 1) % l.length) (T3.mk (0 : Rat) 0 0)) (axI s.1) (axJ s.1)) (pr (l.getD ((i + q) % l.length) (T3.mk (0 : Rat) 0 0)) (axI s.1) (axJ s.1))
   refine w_q rfl (fun h' L' hh hR => sI (q := 0) rfl rfl) rfl (xB (zJ (e' := [(0, _), (7, _), (8, _), (9, _), (10, _), (11, _), (12, _), (38, _), (39, _), (40, _), (73, _)]) ⟨rfl, rfl, rfl, rfl, rfl, rfl, rfl, rfl, rfl, rfl, rfl, trivial⟩ (zB ?_)))
   refine zO rfl (fun hc73 => ?_) (fun hc73 => ?_)
   ·
    have hed : ¬ 0 < orZ (pt2 s (gp l i)) (pt2 s (nx l i)) (pt2 s (gp l ((i + q) % l.length))) := fun e => Int.not_le.2 e hc73
    refine wH (e' := []) trivial (zC (zA (asg rfl rfl (zD (zB (zR (wY (zX (zX (wY (wY (zX (zX ?_)))))))))))))
    refine wY (zX (yJ rfl rfl ?_))
    exact (yX (fun e => hed (e.2.2 i q (by omega) (by omega) (by omega)))).symm
   have hed : 0 < orZ (pt2 s (gp l i)) (pt2 s (nx l i)) (pt2 s (gp l ((i + q) % l.length))) := Int.not_le.1 hc73
   refine zL (yV (zB (zA (mv rfl rfl (gv (zQ (q := 1) rfl rfl (by omega) (by omega)) rfl (asg rfl rfl (zD ?_)))))))
   refine yQ ((q + 1), h2) ?_ ?_ ⟨rfl, rfl, rfl, rfl, rfl, rfl, rfl, rfl, rfl, rfl, trivial⟩ rfl rfl
   ·
    refine ⟨(hmmq.trans hh2), ?_⟩
    exact ⟨⟨by omega, by omega⟩, fun k' h1' h2' => by rcases Nat.lt_succ_iff_lt_or_eq.1 h2' with e | e; exact hk2 k' h1' e; subst e; exact hed⟩
   dsimp only
   omega
  refine xQ (yE (yE (xO (yV (zB (zA (gv (zQ (q := 1) rfl rfl (by omega) (by omega)) rfl (mv rfl rfl (zD (xC (A := []) (xC (A := []) ?_)))))))))))
  refine yQ ((i + 1), mq) ?_ ?_ ⟨rfl, rfl, rfl, rfl, rfl, rfl, trivial⟩ rfl rfl
  ·
   refine ⟨(hmmb.trans hmmq), ?_⟩
   exact ⟨by omega, aL (Q := fun u => ∀ k', 2 ≤ k' → k' < l.length → 0 < orZ (pt2 s (gp l u)) (pt2 s (nx l u)) (pt2 s (gp l ((u + k') % l.length)))) hj2 (fun k' h1' h2' => hk2 k' h1' (by omega))⟩
  dsimp only
  omega
 have hE : ∀ u k', u < l.length → 2 ≤ k' → k' < l.length → 0 < orZ (pt2 s (gp l u)) (pt2 s (nx l u)) (pt2 s (gp l ((u + k') % l.length))) := fun u k' hu h1' h2' => hj2 u (by omega) k' h1' h2'
 refine xQ (yE (yE (xO (zB (zC (zA (asg rfl rfl (zD (zB (zR (yJ rfl rfl ?_)))))))))))
 exact (xS ⟨⟨h3, hN⟩, hS, hE⟩).symm
theorem oF {w0 : World} {h0 : Mem}  (hs : MLe h0 (mem w0)) {k n m : Nat} {vl : Value} {l : (List (T3 Rat))} (rl : (rpS (rpT (rpQ k))).Is h0 vl l) {vs : Value} {s : ((T3 Rat) × Rat)} (rs : (rpP (rpT (rpQ n)) (rpQ m)).Is h0 vs s) (hcd0 : k ≤ 10000000) (hcd1 : m ≤ 10000000) (hcd2 : n ≤ 1000000) (hcd3 : l.length ≤ 100000)  :
    Calls Tryz.prog 17 #[vl, vs] w0 (Ret w0 h0 (fun _ r => r = vB (fN s l))) := by
 have hax := eF s.1
 refine zP (n := 73) (e := [(0, vl), (1, vs)]) (vs := [vl, vs]) Tryz.func17 rfl rfl (Nat.le_of_ble_eq_true rfl) hs ⟨rfl, rfl, trivial⟩ (zC (zA (zK (yY (ρ := (rpP (rpT (rpQ n)) (rpQ m))) rfl rs) rfl rfl rfl ?_)))
 intro v3 q3 hq3
 obtain ⟨b3, cs3, rfl, rfl, rb3⟩ := hq3
 refine asg rfl rfl (zD (zB (zC (zA (mv rfl rfl (gv (vT Tryz.underlying27 rfl rl) rfl (asg rfl rfl (zD (zB (zC (zC (zA (mv rfl rfl ?_)))))))))))))
 refine gv (zW (q := 3) rfl rfl) rfl ?_
 refine vO (ι := Mem) 5 (fun m_ => MLe h0 m_) (fun _ => [(20, vB (((↑(l).length : Int) < (3 : Int)) ∨ (s.1 = (T3.mk (0 : Rat) 0 0)))), (0, vl), (3, vP b3 0), (5, vI (↑(l).length : Int))]) (fun _ => [.var b3 34 cs3]) (fun m_ => m_) ?_ ?_
 ·
  refine wM ((↑(l).length : Int) < (3 : Int)) (fun hg => ?_) (fun hg => ?_)
  ·
   refine xH (zG (v := .bool true) (congrArg some (xS hg))) rfl rfl rfl (yL rfl rfl rfl rfl rfl rfl (yL rfl rfl rfl rfl rfl rfl (yL rfl rfl rfl rfl rfl rfl (gv (xK rfl rfl) rfl (zD ?_)))))
   refine yN h0 (MLe.refl _) ⟨?_, rfl, rfl, rfl, trivial⟩ rfl rfl
   exact congrArg some (qR hg)
  refine xH (zG (v := .bool false) (congrArg some (yX hg))) rfl rfl rfl (xA rfl rfl rfl (gv ((zI Tryz.underlying34 rfl Tryz.sizeOf32 rfl).cv (show _ = vP b3 0 from congrArg (vP b3) (by rfl))) rfl (xA rfl rfl rfl (wG (F := fun v_ => (rpT (rpQ n)).Is h0 v_ s.1) (zE xG (Pc.fst (Pc.here _)) rfl rfl rb3 rfl) (yF (.head _)) rfl ?_))))
  intro v18 r18
  refine xA rfl rfl rfl ?_
  refine zM (vs := [_]) rfl rfl rfl rfl Tryz.call41 ⟨rfl, trivial⟩ (fun w hs => lU hs r18 (by omega)) ?_
  intro v19 h1 hh1 r19
  obtain rfl : v19 = vB (s.1 = (T3.mk (0 : Rat) 0 0)) := r19
  refine gv (wB rfl rfl) rfl (zD ?_)
  refine yN h1 hh1 ⟨?_, rfl, rfl, rfl, trivial⟩ rfl rfl
  exact congrArg some (qS hg)
 intro mg2_2 hmmg2_2
 show GL _ _ _ _ _ _ _ [(20, vB (((↑(l).length : Int) < (3 : Int)) ∨ (s.1 = (T3.mk (0 : Rat) 0 0)))), (0, vl), (3, vP b3 0), (5, vI (↑(l).length : Int))] [.var b3 34 cs3] mg2_2
 refine zD (zB ?_)
 refine zO rfl (fun hc20 => ?_) (fun hc20 => ?_)
 ·
  refine zC (zA (asg rfl rfl (zD (zB (zR (zX (yJ rfl rfl ?_)))))))
  exact (yX (fun e => hc20.elim (fun h => by have := e.1.1; omega) (fun h => e.1.2 h))).symm
 have hN : ¬ s.1 = zT := fun e => hc20 (.inr e)
 have h3 : 3 ≤ l.length := by have h := hc20; omega
 refine zL (zB (zC (zC (zA (asg (v := vI (0)) rfl rfl (zD (zB (zS ?_))))))))
 refine wR (ι := Nat × Mem) (fun (i, ma) => MLe mg2_2 ma ∧ (i ≤ l.length ∧ ∀ u, u < i → sdZ s (gp l u) = 0)) (fun (i, ma) => [(0, vl), (3, vP b3 0), (5, vI (↑(l).length : Int)), (6, vI ↑i)]) (fun (i, ma) => [.var b3 34 cs3]) (fun (i, ma) => ma) (fun (i, ma) => l.length - i) (0, mg2_2) ?_ ⟨rfl, rfl, rfl, rfl, trivial⟩ rfl rfl ?_
 ·
  refine ⟨MLe.refl _, ?_⟩
  exact ⟨by omega, fun u h => by omega⟩
 intro x hx
 obtain ⟨i, ma⟩ := x
 obtain ⟨hmma, hinv⟩ := hx
 show GC _ _ _ _ _ _ [(0, vl), (3, vP b3 0), (5, vI (↑(l).length : Int)), (6, vI ↑i)] [.var b3 34 cs3] ma
 obtain ⟨hi1, hi2⟩ := hinv
 refine zC (zC (zA (mv rfl rfl (mv rfl rfl (gv (zW rfl rfl) rfl (zD (zB ?_)))))))
 refine zO rfl (fun hc23 => ?_) (fun hc23 => ?_)
 ·
  refine zL (zB (zC (zS (zC ?_))))
  refine yI 7 _ [] [(0, .q), (1, .q), (2, .q), (3, .q), (4, .q), (5, .c), (6, .q)] xI (fun x hx => by cases hx) (by kernel_rfl) (fun x hx => by cases hx) (fun r hr => hr) ?_
  replace rb3 := rb3.mono (hmmg2_2.trans hmma)
  refine yR (F := fun v_ => (rpP (rpT (rpQ n)) (rpQ m)).Is ma v_ s) rfl (zE kE (Pc.here _) rfl rfl rb3 rfl) (yF (.head _)) rfl ?_
  intro v26 r26
  refine w_q rfl (fun h' L' hh hR => zG rfl) rfl (w_q rfl (fun h' L' hh hR => zG rfl) rfl ?_)
  replace rl := rl.mono (hmmg2_2.trans hmma)
  refine yR (F := fun v_ => AtP (rpT (rpQ k)) ma v_ (l.getD i (T3.mk (0 : Rat) 0 0))) rfl (uR (T3.mk (0 : Rat) 0 0) i Tryz.underlying27 xG rfl rfl rl rfl (by omega) (show 0 < 9 from by decide)) uH rfl ?_
  intro v29 r29
  refine yR (F := fun v_ => (rpT (rpQ k)).Is ma v_ (l.getD i (T3.mk (0 : Rat) 0 0))) rfl (vM xG rfl r29) uH rfl ?_
  intro v30 r30
  refine w_c rfl ?_
  refine yD (vs := [_, _]) Tryz.call25 ⟨rfl, rfl, trivial⟩ (fun w hs => lT hs r26 r30 (by omega) (by omega) (by omega)) rfl ?_
  intro v31 h1 hh1 r31
  obtain rfl : v31 = vI (sdZ s (l.getD i (T3.mk (0 : Rat) 0 0))) := r31
  have hsd31 := kY s (l.getD i (T3.mk (0 : Rat) 0 0))
  refine w_q rfl (fun h' L' hh hR => tK (q := 0) rfl rfl) rfl (xB (zB ?_))
  refine zO rfl (fun hc32 => ?_) (fun hc32 => ?_)
  ·
   refine wH (e' := []) trivial (zC (zA (asg rfl rfl (zD (zB (zR (wY (zX (zX (wY (zX (yJ rfl rfl ?_))))))))))))
   exact (yX (fun e => hc32 (e.2.1 i (by omega)))).symm
  refine wH (e' := [(0, _), (3, _), (5, _), (6, _)]) ⟨rfl, rfl, rfl, rfl, trivial⟩ (zL (yV (zB (zA (mv rfl rfl (gv (zQ (q := 1) rfl rfl (by omega) (by omega)) rfl (asg rfl rfl (zD ?_))))))))
  refine yQ ((i + 1), h1) ?_ ?_ ⟨rfl, rfl, rfl, rfl, trivial⟩ rfl rfl
  ·
   refine ⟨(hmma.trans hh1), ?_⟩
   exact ⟨by omega, aL (Q := fun u => sdZ s (gp l u) = 0) hi2 (Classical.not_not.1 hc32)⟩
  dsimp only
  omega
 have hS : ∀ u, u < l.length → sdZ s (gp l u) = 0 := fun u hu => hi2 u (by omega)
 refine xQ (yE (yE (xO (zB (zC (zC (zA (asg (v := vI (0)) rfl rfl (zD (zB (zS ?_)))))))))))
 refine wR (ι := Nat × Mem) (fun (i, mb) => MLe ma mb ∧ (i ≤ l.length ∧ ∀ u, u < i → ∀ k', 2 ≤ k' → k' < l.length → 0 < orZ (pt2 s (gp l u)) (pt2 s (nx l u)) (pt2 s (gp l ((u + k') % l.length))))) (fun (i, mb) => [(0, vl), (3, vP b3 0), (5, vI (↑(l).length : Int)), (7, vI ↑i)]) (fun (i, mb) => [.var b3 34 cs3]) (fun (i, mb) => mb) (fun (i, mb) => l.length - i) (0, ma) ?_ ⟨rfl, rfl, rfl, rfl, trivial⟩ rfl rfl ?_
 ·
  refine ⟨MLe.refl _, ?_⟩
  exact ⟨by omega, fun u h => by omega⟩
 intro x hx
 obtain ⟨i, mb⟩ := x
 obtain ⟨hmmb, hinv⟩ := hx
 show GC _ _ _ _ _ _ [(0, vl), (3, vP b3 0), (5, vI (↑(l).length : Int)), (7, vI ↑i)] [.var b3 34 cs3] mb
 obtain ⟨hj1, hj2⟩ := hinv
 refine zC (zC (zA (mv rfl rfl (mv rfl rfl (gv (zW rfl rfl) rfl (zD (zB ?_)))))))
 refine zO rfl (fun hc35 => ?_) (fun hc35 => ?_)
 ·
  refine zL (zB (zC (zS (zC ?_))))
  refine yI 15 _ [(11, (8, 32, [.bool false, .slice none 0 0, .slice none 0 0, .bool false, .slice none 0 0, .slice none 0 0, .bool false, .slice none 0 0, .slice none 0 0])), (12, (9, 32, [.bool false, .slice none 0 0, .slice none 0 0, .bool false, .slice none 0 0, .slice none 0 0, .bool false, .slice none 0 0, .slice none 0 0]))] [(0, .q), (1, .q), (2, .q), (3, .q), (4, .q), (5, .q), (6, .q), (7, .q), (8, .q), (9, .q), (10, .q), (11, .a), (12, .a), (13, .c), (14, .c)] xI (jG.cons rfl (uT yB rfl rfl) (jG.cons rfl (uT yB rfl rfl) jG.nil)) (gD [0, 0, 3, 4, 0, 0, 32, 0, 192, 272, 512, 0, 0, 6159, 16383] [32767, 32767, 32764, 32763, 32767, 32767, 32735, 32767, 32575, 32495, 32255, 32767, 32767, 30711, 27647] (by kernel_rfl)) (uV rfl rfl (uV rfl rfl jY)) (fun r hr => hr) (w_q rfl (fun h' L' hh hR => zG rfl) rfl (w_q rfl (fun h' L' hh hR => zG rfl) rfl ?_))
  replace rl := rl.mono ((hmmg2_2.trans hmma).trans hmmb)
  refine yR (F := fun v_ => AtP (rpT (rpQ k)) mb v_ (l.getD i (T3.mk (0 : Rat) 0 0))) rfl (uR (T3.mk (0 : Rat) 0 0) i Tryz.underlying27 xG rfl rfl rl rfl (by omega) (show 0 < 9 from by decide)) uH rfl ?_
  intro v40 r40
  refine yR (F := fun v_ => (rpT (rpQ k)).Is mb v_ (l.getD i (T3.mk (0 : Rat) 0 0))) rfl (vM xG rfl r40) uH rfl ?_
  intro v41 r41
  refine w_q rfl (fun h' L' hh hR => zG rfl) rfl (w_q rfl (fun h' L' hh hR => zG rfl) rfl (w_q rfl (fun h' L' hh hR => zQ (q := 1) rfl rfl (by omega) (by omega)) rfl (w_q rfl (fun h' L' hh hR => zG rfl) rfl (w_q rfl (fun h' L' hh hR => qC rfl rfl (by omega) (by omega)) rfl (yR (F := fun v_ => AtP (rpT (rpQ k)) mb v_ (l.getD ((i + 1) % l.length) (T3.mk (0 : Rat) 0 0))) rfl (uR (T3.mk (0 : Rat) 0 0) ((i + 1) % l.length) Tryz.underlying27 xG rfl rfl rl (by first | rfl | (push_cast; rfl)) (by exact Nat.mod_lt _ (by omega)) (show 0 < 9 from by decide)) uH rfl ?_)))))
  intro v47 r47
  refine yR (F := fun v_ => (rpT (rpQ k)).Is mb v_ (l.getD ((i + 1) % l.length) (T3.mk (0 : Rat) 0 0))) rfl (vM xG rfl r47) uH rfl ?_
  intro v48 r48
  refine w_a rfl (fun b8 => ?_)
  have rb8 : (rpT (rpQ (k + 1))).R mb [.bool false, .slice none 0 0, .slice none 0 0, .bool false, .slice none 0 0, .slice none 0 0, .bool false, .slice none 0 0, .slice none 0 0] (T3.mk (0 : Rat) 0 0) := (wI (wD (by omega)))
  refine w_a rfl (fun b9 => ?_)
  have rb9 : (rpT (rpQ (k + 1))).R mb [.bool false, .slice none 0 0, .slice none 0 0, .bool false, .slice none 0 0, .slice none 0 0, .bool false, .slice none 0 0, .slice none 0 0] (T3.mk (0 : Rat) 0 0) := (wI (wD (by omega)))
  refine w_c rfl (tB (A := [_]) (F := fun c_ => (rpT (rpQ (k + 1))).R mb c_ (l.getD i (T3.mk (0 : Rat) 0 0))) (yG Tryz.sizeOf32 (Pc.here _) rfl rfl rfl rb8 (r41.le (Le.t (Le.q (l := k + 1) (by omega)))) rfl) (xF (by first | (simp; done) | grind)) ?_)
  intro cs_7 rb_8
  refine w_c rfl (tB (A := []) (F := fun c_ => (rpT (rpQ (k + 1))).R mb c_ (l.getD ((i + 1) % l.length) (T3.mk (0 : Rat) 0 0))) (yG Tryz.sizeOf32 (Pc.here _) rfl rfl rfl rb9 (r48.le (Le.t (Le.q (l := k + 1) (by omega)))) rfl) (xF (by first | (simp; done) | grind)) ?_)
  intro cs_9 rb_10
  refine xB (zJ (e' := [(0, _), (3, _), (5, _), (7, _), (8, _), (9, _)]) ⟨rfl, rfl, rfl, rfl, rfl, rfl, trivial⟩ (zB (zC (zA (asg (v := vI (2)) rfl rfl (zD (zB (zS ?_))))))))
  refine wR (ι := Nat × Mem) (fun (q, mq) => MLe mb mq ∧ ((2 ≤ q ∧ q ≤ l.length) ∧ ∀ k', 2 ≤ k' → k' < q → 0 < orZ (pt2 s (gp l i)) (pt2 s (nx l i)) (pt2 s (gp l ((i + k') % l.length))))) (fun (q, mq) => [(0, vl), (3, vP b3 0), (5, vI (↑(l).length : Int)), (7, vI ↑i), (8, vP b8 0), (9, vP b9 0), (10, vI ↑q)]) (fun (q, mq) => [.var b9 32 cs_9, .var b8 32 cs_7, .var b3 34 cs3]) (fun (q, mq) => mq) (fun (q, mq) => l.length - q) (2, mb) ?_ ⟨rfl, rfl, rfl, rfl, rfl, rfl, rfl, trivial⟩ rfl rfl ?_
  ·
   refine ⟨MLe.refl _, ?_⟩
   exact ⟨⟨by omega, by omega⟩, fun k' h1' h2' => by omega⟩
  intro x hx
  obtain ⟨q, mq⟩ := x
  obtain ⟨hmmq, hinv⟩ := hx
  show GC _ _ _ _ _ _ [(0, vl), (3, vP b3 0), (5, vI (↑(l).length : Int)), (7, vI ↑i), (8, vP b8 0), (9, vP b9 0), (10, vI ↑q)] [.var b9 32 cs_9, .var b8 32 cs_7, .var b3 34 cs3] mq
  obtain ⟨⟨hk0, hk1⟩, hk2⟩ := hinv
  refine zC (zC (zA (mv rfl rfl (mv rfl rfl (gv (zW rfl rfl) rfl (zD (zB ?_)))))))
  refine zO rfl (fun hc51 => ?_) (fun hc51 => ?_)
  ·
   refine zL (zB (zC (zS (zC (zA (mv rfl rfl (mv rfl rfl (mv rfl rfl (gv (zQ rfl rfl (by omega) (by omega)) rfl (mv rfl rfl (gv (qC rfl rfl (by omega) (by omega)) rfl ?_)))))))))))
   replace rl := rl.mono hmmq
   refine wG (F := fun v_ => AtP (rpT (rpQ k)) mq v_ (l.getD ((i + q) % l.length) (T3.mk (0 : Rat) 0 0))) (uR (T3.mk (0 : Rat) 0 0) ((i + q) % l.length) Tryz.underlying27 xG rfl rfl rl (by first | rfl | (push_cast; rfl)) (by exact Nat.mod_lt _ (by omega)) (show 0 < 9 from by decide)) uH rfl ?_
   intro v60 r60
   refine wG (F := fun v_ => (rpT (rpQ k)).Is mq v_ (l.getD ((i + q) % l.length) (T3.mk (0 : Rat) 0 0))) (vM xG rfl r60) uH rfl ?_
   intro v61 r61
   refine zK (yZ (ρ := (rpT (rpQ (k + 1)))) (X := (T3.mk (0 : Rat) 0 0)) yB rfl rfl (wI (wD (by omega)))) rfl rfl rfl ?_
   intro v11 q11 hq11
   obtain ⟨b11, cs11, rfl, rfl, rb11⟩ := hq11
   refine wE (A := []) (F := fun c_ => (rpT (rpQ (k + 1))).R mq c_ (l.getD ((i + q) % l.length) (T3.mk (0 : Rat) 0 0))) (yG Tryz.sizeOf32 (Pc.here _) rfl rfl rfl rb11 (r61.le (Le.t (Le.q (l := k + 1) (by omega)))) rfl) ?_
   intro cs_11 rb_12
   refine zD (zJ (e' := [(0, _), (3, _), (5, _), (7, _), (8, _), (9, _), (10, _), (11, _)]) ⟨rfl, rfl, rfl, rfl, rfl, rfl, rfl, rfl, trivial⟩ (zB (zC ?_)))
   refine yI 11 _ [] [(0, .q), (1, .q), (3, .q), (4, .q), (6, .q), (7, .q), (2, .c), (5, .c), (8, .c), (9, .c), (10, .q)] xI (fun x hx => by cases hx) (by kernel_rfl) (fun x hx => by cases hx) (fun r hr => hr) ?_
   replace rb_10 := rb_10.mono hmmq
   refine yR (F := fun v_ => (rpT (rpQ (k + 1))).Is mq v_ (l.getD ((i + 1) % l.length) (T3.mk (0 : Rat) 0 0))) rfl (zE xG (Pc.here _) rfl rfl rb_10 rfl) (yF (.tail _ (.head _))) rfl ?_
   intro v62 r62
   replace rb_8 := rb_8.mono hmmq
   refine yR (F := fun v_ => (rpT (rpQ (k + 1))).Is mq v_ (l.getD i (T3.mk (0 : Rat) 0 0))) rfl (zE xG (Pc.here _) rfl rfl rb_8 rfl) (yF (.tail _ (.tail _ (.head _)))) rfl ?_
   intro v63 r63
   refine yR (F := fun v_ => (rpT (rpQ (k + 1))).Is mq v_ (l.getD ((i + q) % l.length) (T3.mk (0 : Rat) 0 0))) rfl (zE xG (Pc.here _) rfl rfl rb_12 rfl) (yF (.head _)) rfl ?_
   intro v65 r65
   refine yR (F := fun v_ => (rpT (rpQ (k + 1))).Is mq v_ (l.getD i (T3.mk (0 : Rat) 0 0))) rfl (zE xG (Pc.here _) rfl rfl rb_8 rfl) (yF (.tail _ (.tail _ (.head _)))) rfl ?_
   intro v66 r66
   refine w_q rfl (fun h' L' hh hR => (zI Tryz.underlying34 rfl Tryz.sizeOf32 rfl).cv (show _ = vP b3 0 from congrArg (vP b3) (by rfl))) rfl ?_
   replace rb3 := rb3.mono (((hmmg2_2.trans hmma).trans hmmb).trans hmmq)
   refine yR (F := fun v_ => (rpT (rpQ n)).Is mq v_ s.1) rfl (zE xG (Pc.fst (Pc.here _)) rfl rfl rb3 rfl) (yF (.tail _ (.tail _ (.tail _ (.head _))))) rfl ?_
   intro v69 r69
   refine w_c rfl ?_
   refine yD (vs := [_, _]) Tryz.call23 ⟨rfl, rfl, trivial⟩ (fun w hs => mZ hs r62 r63 (by omega)) rfl ?_
   intro v64 h1 hh1 r64
   change (rpT (rpQ ((k + 1) + (k + 1) + 1))).Is h1 v64 (T3.mk ((l.getD ((i + 1) % l.length) (T3.mk (0 : Rat) 0 0)).x - (l.getD i (T3.mk (0 : Rat) 0 0)).x) ((l.getD ((i + 1) % l.length) (T3.mk (0 : Rat) 0 0)).y - (l.getD i (T3.mk (0 : Rat) 0 0)).y) ((l.getD ((i + 1) % l.length) (T3.mk (0 : Rat) 0 0)).z - (l.getD i (T3.mk (0 : Rat) 0 0)).z)) at r64
   replace r64 := Rp.Is.le r64 (Le.t (Le.q (l := 2 * k + 3) (by omega)))
   refine w_c rfl ?_
   replace r65 := r65.mono hh1
   replace r66 := r66.mono hh1
   refine yD (vs := [_, _]) Tryz.call23 ⟨rfl, rfl, trivial⟩ (fun w hs => mZ hs r65 r66 (by omega)) rfl ?_
   intro v67 h2 hh2 r67
   change (rpT (rpQ ((k + 1) + (k + 1) + 1))).Is h2 v67 (T3.mk ((l.getD ((i + q) % l.length) (T3.mk (0 : Rat) 0 0)).x - (l.getD i (T3.mk (0 : Rat) 0 0)).x) ((l.getD ((i + q) % l.length) (T3.mk (0 : Rat) 0 0)).y - (l.getD i (T3.mk (0 : Rat) 0 0)).y) ((l.getD ((i + q) % l.length) (T3.mk (0 : Rat) 0 0)).z - (l.getD i (T3.mk (0 : Rat) 0 0)).z)) at r67
   replace r67 := Rp.Is.le r67 (Le.t (Le.q (l := 2 * k + 3) (by omega)))
   refine w_c rfl ?_
   replace r69 := r69.mono (hh1.trans hh2)
   replace r64 := r64.mono hh2
   refine yD (vs := [_, _, _]) Tryz.call51 ⟨rfl, rfl, rfl, trivial⟩ (fun w hs => o_s4_det hs r64 r67 r69 (by omega) (by omega) (by omega)) rfl ?_
   intro v70 h3 hh3 r70
   change (rpQ (3 * (2 * k + 3) + 6 * (2 * k + 3) + 6 * n + 18)).Is h3 v70 (detT (T3.mk ((l.getD ((i + 1) % l.length) (T3.mk (0 : Rat) 0 0)).x - (l.getD i (T3.mk (0 : Rat) 0 0)).x) ((l.getD ((i + 1) % l.length) (T3.mk (0 : Rat) 0 0)).y - (l.getD i (T3.mk (0 : Rat) 0 0)).y) ((l.getD ((i + 1) % l.length) (T3.mk (0 : Rat) 0 0)).z - (l.getD i (T3.mk (0 : Rat) 0 0)).z)) (T3.mk ((l.getD ((i + q) % l.length) (T3.mk (0 : Rat) 0 0)).x - (l.getD i (T3.mk (0 : Rat) 0 0)).x) ((l.getD ((i + q) % l.length) (T3.mk (0 : Rat) 0 0)).y - (l.getD i (T3.mk (0 : Rat) 0 0)).y) ((l.getD ((i + q) % l.length) (T3.mk (0 : Rat) 0 0)).z - (l.getD i (T3.mk (0 : Rat) 0 0)).z)) s.1) at r70
   replace r70 := Rp.Is.le r70 (Le.q (l := 18 * k + 6 * n + 45) (by omega))
   refine w_c rfl ?_
   refine yD (vs := [_]) Tryz.call50 ⟨rfl, trivial⟩ (fun w hs => gK hs r70 (by omega)) rfl ?_
   intro v71 h4 hh4 r71
   obtain rfl : v71 = vI (uY (detT (T3.mk ((l.getD ((i + 1) % l.length) (T3.mk (0 : Rat) 0 0)).x - (l.getD i (T3.mk (0 : Rat) 0 0)).x) ((l.getD ((i + 1) % l.length) (T3.mk (0 : Rat) 0 0)).y - (l.getD i (T3.mk (0 : Rat) 0 0)).y) ((l.getD ((i + 1) % l.length) (T3.mk (0 : Rat) 0 0)).z - (l.getD i (T3.mk (0 : Rat) 0 0)).z)) (T3.mk ((l.getD ((i + q) % l.length) (T3.mk (0 : Rat) 0 0)).x - (l.getD i (T3.mk (0 : Rat) 0 0)).x) ((l.getD ((i + q) % l.length) (T3.mk (0 : Rat) 0 0)).y - (l.getD i (T3.mk (0 : Rat) 0 0)).y) ((l.getD ((i + q) % l.length) (T3.mk (0 : Rat) 0 0)).z - (l.getD i (T3.mk (0 : Rat) 0 0)).z)) s.1)) := r71
   have hsr71 := vY (detT (T3.mk ((l.getD ((i + 1) % l.length) (T3.mk (0 : Rat) 0 0)).x - (l.getD i (T3.mk (0 : Rat) 0 0)).x) ((l.getD ((i + 1) % l.length) (T3.mk (0 : Rat) 0 0)).y - (l.getD i (T3.mk (0 : Rat) 0 0)).y) ((l.getD ((i + 1) % l.length) (T3.mk (0 : Rat) 0 0)).z - (l.getD i (T3.mk (0 : Rat) 0 0)).z)) (T3.mk ((l.getD ((i + q) % l.length) (T3.mk (0 : Rat) 0 0)).x - (l.getD i (T3.mk (0 : Rat) 0 0)).x) ((l.getD ((i + q) % l.length) (T3.mk (0 : Rat) 0 0)).y - (l.getD i (T3.mk (0 : Rat) 0 0)).y) ((l.getD ((i + q) % l.length) (T3.mk (0 : Rat) 0 0)).z - (l.getD i (T3.mk (0 : Rat) 0 0)).z)) s.1)
   refine w_q rfl (fun h' L' hh hR => sI (q := 0) rfl rfl) rfl (xB (zJ (e' := [(0, _), (3, _), (5, _), (7, _), (8, _), (9, _), (10, _), (72, _)]) ⟨rfl, rfl, rfl, rfl, rfl, rfl, rfl, rfl, trivial⟩ (zB ?_)))
   refine zO rfl (fun hc72 => ?_) (fun hc72 => ?_)
   ·
    have hed : ¬ 0 < orZ (pt2 s (gp l i)) (pt2 s (nx l i)) (pt2 s (gp l ((i + q) % l.length))) := (det_le hN (hS i (by omega)) (hS ((i + 1) % l.length) (Nat.mod_lt _ (by omega))) (hS ((i + q) % l.length) (Nat.mod_lt _ (by omega)))).1 hc72
    refine zC (zA (asg rfl rfl (zD (zB (zR (wY (zX (zX (wY (wY (zX (zX (wY ?_)))))))))))))
    refine zX (yJ rfl rfl ?_)
    exact (yX (fun e => hed (e.2.2 i q (by omega) (by omega) (by omega)))).symm
   have hed : 0 < orZ (pt2 s (gp l i)) (pt2 s (nx l i)) (pt2 s (gp l ((i + q) % l.length))) := Classical.not_not.1 (fun e => hc72 ((det_le hN (hS i (by omega)) (hS ((i + 1) % l.length) (Nat.mod_lt _ (by omega))) (hS ((i + q) % l.length) (Nat.mod_lt _ (by omega)))).2 e))
   refine zL (yV (zB (zA (mv rfl rfl (gv (zQ (q := 1) rfl rfl (by omega) (by omega)) rfl (asg rfl rfl (zD (xC (A := []) ?_))))))))
   refine yQ ((q + 1), h4) ?_ ?_ ⟨rfl, rfl, rfl, rfl, rfl, rfl, rfl, trivial⟩ rfl rfl
   ·
    refine ⟨((((hmmq.trans hh1).trans hh2).trans hh3).trans hh4), ?_⟩
    exact ⟨⟨by omega, by omega⟩, fun k' h1' h2' => by rcases Nat.lt_succ_iff_lt_or_eq.1 h2' with e | e; exact hk2 k' h1' e; subst e; exact hed⟩
   dsimp only
   omega
  refine xQ (yE (yE (xO (yV (zB (zA (mv rfl rfl (gv (zQ (q := 1) rfl rfl (by omega) (by omega)) rfl (asg rfl rfl (zD (xC (A := []) (xC (A := []) ?_))))))))))))
  refine yQ ((i + 1), mq) ?_ ?_ ⟨rfl, rfl, rfl, rfl, trivial⟩ rfl rfl
  ·
   refine ⟨(hmmb.trans hmmq), ?_⟩
   exact ⟨by omega, aL (Q := fun u => ∀ k', 2 ≤ k' → k' < l.length → 0 < orZ (pt2 s (gp l u)) (pt2 s (nx l u)) (pt2 s (gp l ((u + k') % l.length)))) hj2 (fun k' h1' h2' => hk2 k' h1' (by omega))⟩
  dsimp only
  omega
 have hE : ∀ u k', u < l.length → 2 ≤ k' → k' < l.length → 0 < orZ (pt2 s (gp l u)) (pt2 s (nx l u)) (pt2 s (gp l ((u + k') % l.length))) := fun u k' hu h1' h2' => hj2 u (by omega) k' h1' h2'
 refine xQ (yE (yE (xO (zB (zC (zA (asg rfl rfl (zD (zB (zR (yJ rfl rfl ?_)))))))))))
 exact (xS ⟨⟨h3, hN⟩, hS, hE⟩).symm
end Go.Proofs.YtghhjjmjpeehdaaGreat
namespace Go.Proofs.YtghhjjmjpeehdaaGreat
open Bk Go
set_option linter.unusedVariables false
set_option linter.unusedSimpArgs false
set_option maxRecDepth 10000
theorem w_ts {P : Program} {n : Nat} {w0 : World} {h0 h : Mem} {ops : Array Oper} {Q : Exit → Act → World → Prop} {R : List Res} {al : Als} {i : Nat} {r : List (Nat × Kd)} {e : List (Nat × Value)} {L : List Res} {o : Oper} (ho : ops.getD i default = o)
    (k : jV P n w0 h0 ops [] o e L h (W P n w0 h0 ops Q R al r)) : W P n w0 h0 ops Q R al ((i, .t) :: r) e L h := by
  show Last P n w0 h0 ops (ops.getD i default) e L h _
  rw [ho]
  intro a w Ev S
  refine (k [] a w Ev (by simpa using S)).mono ?_
  rintro v w' ⟨hd, L', g, hg, hk, S3, hW⟩
  exact ⟨hd, L', g, by simpa using S3, hW⟩
theorem aY {w0 : World} {h0 : Mem}  (hs : MLe h0 (mem w0)) {vl : Value} {xsl : List Int} (hl : Is h0 vl xsl) :
    Calls Tryz.prog 7 #[vl] w0 (Ret w0 h0 (fun _ r => r = .bool true)) := by
 have hlenl := hl.lt63
 refine zP (n := 89) (e := [(0, vl)]) (vs := [vl]) Tryz.func7 rfl rfl (Nat.le_of_ble_eq_true rfl) hs ⟨rfl, trivial⟩ (zC (zA (asg rfl rfl (zD (zB (zC (zC (zA (mv rfl rfl ?_)))))))))
 refine zM (vs := [_]) rfl rfl rfl rfl Tryz.call9 ⟨rfl, trivial⟩ (fun w hs => made_light hs hl) ?_
 intro v9 h1 hh1 hr9
 subst hr9
 refine gv (kS rfl) rfl (zD (zB ?_))
 refine zO rfl (fun hc10 => ?_) (fun hc10 => ?_)
 ·
  refine zC (zA ?_)
  refine zM (vs := []) rfl rfl rfl rfl Tryz.call10 trivial (fun w hs => oV hs) ?_
  intro v11 h2 hh2 hr11
  subst hr11
  refine asg rfl rfl (zD (zB (zR (zX (yJ rfl rfl ?_)))))
  rfl
 refine zL (zB (zC (zA (mv rfl rfl ?_))))
 replace hl := hl.mono hh1
 refine fY (vs := [_]) rfl rfl rfl rfl Tryz.call11 ⟨rfl, trivial⟩ (fun w hs => made_roll hs hl) ?_
 intro v13 h2 L13 hh2 hr13
 obtain ⟨b13, rfl, rfl⟩ := hr13
 refine asg rfl rfl (zD (zB (zC (zA (mv rfl rfl ?_)))))
 replace hl := hl.mono hh2
 refine xW (A := []) (vs := [_]) Tryz.call12 ⟨rfl, trivial⟩ (fun X w hs => dI hl (by first | omega | exact Nat.zero_le _) hs) rfl ?_
 intro v16 g16 q16 hg16 hr16
 obtain ⟨k16, u16_0, u16_1, p16, s16, rfl, hk16, hx16, rfl, ra16, rb16⟩ := hr16
 refine mv rfl rfl (gv (zN (vs := [_, _]) rfl rfl) rfl (gv (zN (vs := [_, _]) rfl rfl) rfl (zK (yZ (ρ := (rpP (rpT (rpQ 1)) (rpQ 1))) (X := ((T3.mk (0 : Rat) 0 0), (0 : Rat))) rA rfl rfl (eH (wI (wD (by decide))) (wD (by decide)))) rfl rfl rfl ?_)))
 intro v5 q5 hq5
 obtain ⟨b5, cs5, rfl, rfl, rb5⟩ := hq5
 refine asg rfl rfl ?_
 have rw_1 := (Le.p (Le.t (Le.q (l := 2) (by decide))) (Le.q (l := 2) (by decide))).R rb5
 refine wE (A := []) (F := fun c_ => (rpP (rpT (rpQ 2)) (rpQ 2)).R g16 c_ s16) (yG Tryz.sizeOf34 (Pc.here _) rfl rfl rfl rw_1 rb16 rfl) ?_
 intro cs_2 rb_3
 refine zD (zJ (e' := [(3, _), (5, _), (4, _)]) ⟨rfl, rfl, rfl, trivial⟩ (zB (zC (zA (mv rfl rfl ?_)))))
 have hl3 := hx16.1.1.1
 have hl32 := hx16.2
 refine nC 32 9 ?_
 have rl_4 : RL (rpT (rpQ 140000)) g16 [] ([] : List (T3 Rat)) := RL.nil
 refine qN (A := []) (yM (ρ := (rpT (rpQ 140000))) (bytes := 168) Tryz.underlying27 yB rfl rfl rfl rfl (show 0 < 9 from by decide) rfl rfl rl_4 ra16 (by first | omega | (simp only [List.length_append, List.length_cons, List.length_nil, List.length_replicate, List.length_set]; omega)) (by first | omega | (simp only [List.length_append, List.length_cons, List.length_nil, List.length_replicate, List.length_set]; omega))) rfl rfl rfl ?_
 intro v20 q20 hq20
 obtain ⟨cs20, rfl, rl20⟩ := hq20
 refine asg rfl rfl (zD (zB ?_))
 refine kV (ι := List (T3 Rat) × Value × List Value × Nat × Mem) (fun (Y, s6_5, cs_6, kd_8, mc) => MLe g16 mc ∧ (RL (rpT (rpQ 9000000)) mc cs_6 Y ∧ kd_8 ≤ xsl.length ∧ Y.length ≤ 33)) (fun (Y, s6_5, cs_6, kd_8, mc) => [(3, vP b13 0), (4, u16_0), (5, vP b5 0), (6, s6_5)]) (fun (Y, s6_5, cs_6, kd_8, mc) => [.gs 32 9 s6_5 Y.length cs_6, .var b5 34 cs_2, .var b13 65 [vl, vI ↑kd_8]]) (fun (Y, s6_5, cs_6, kd_8, mc) => mc) ?_ ?_
 ·
  refine zC (zA (mv rfl rfl ?_))
  replace hl := hl.mono hg16
  refine xW (A := [_, _]) (vs := [_, vI (4)]) Tryz.call22 ⟨rfl, rfl, trivial⟩ (fun X w hs => uQ hl (by first | omega | exact Nat.zero_le _) (by omega) (by omega) hs) rfl ?_
  intro v22 g22 q22 hg22 hr22
  obtain ⟨k22, z22, rfl, hk22, rfl, hz22, hy22⟩ := hr22
  refine zD (zB (zS (zC (zA (gv (xZ (q := 0) rfl rfl) rfl (asg rfl rfl (zD (zB ?_))))))))
  refine zO rfl (fun hc23 => ?_) (fun hc23 => ?_)
  ·
   refine zA (mv rfl rfl (mv rfl rfl ?_))
   replace hl := hl.mono hg22
   refine xW (A := [_, _]) (vs := [_]) Tryz.call33 ⟨rfl, trivial⟩ (fun X w hs => cG hl (by first | omega | exact Nat.zero_le _) hs) rfl ?_
   intro v27 g27 q27 hg27 hr27
   obtain ⟨k27, p27, rfl, hk27, hr27⟩ := hr27
   refine gv ((vE (q := 0) 0 (.head _) Tryz.underlying27 Tryz.sizeOf32 rfl rfl rfl (by simp only [List.length_set, List.nil_append]; have := hx16.1.1.1; omega) (show 0 < 9 from by decide)).cv (show _ = xD 1 v20 0 from congrArg (xD 1 v20) (by rfl))) rfl ?_
   replace rl20 := rl20.mono (hg22.trans hg27)
   refine oW (A := []) (F := fun c_ => RL (rpT (rpQ 140000)) g27 c_ ((([] : List (T3 Rat)) ++ p16).set 0 p27)) (mF Tryz.sizeOf32 (Pc.arr (Pc.here _) (T3.mk (0 : Rat) 0 0) 0 (by simp only [List.length_set, List.nil_append]; have := hx16.1.1.1; omega)) rfl (show 0 < 9 from by decide) rfl rfl rl20 (hr27.le (Le.t (Le.q (l := 140000) (by decide)))) rfl) ?_
   intro cs_10 rl_11
   refine zD (yV ?_)
   refine yN (((([] : List (T3 Rat)) ++ p16).set 0 p27), v20, cs_10, k27, g27) ?_ ⟨rfl, rfl, rfl, rfl, trivial⟩ rfl rfl
   refine ⟨(hg22.trans hg27), ?_⟩
   refine ⟨((Le.t (Le.q (l := 9000000) (by decide))).rl rl_11), (by omega), ?_⟩
   exact (by simp only [List.length_set, List.length_append, List.length_cons, List.length_nil, List.nil_append]; omega)
  refine zC (zA (gv (xZ (q := 1) rfl rfl) rfl (asg rfl rfl (zD (zB ?_)))))
  refine zO rfl (fun hc29 => ?_) (fun hc29 => ?_)
  ·
   refine yI 9 _ [] [(0, .q), (1, .p), (2, .q), (3, .q), (4, .q), (5, .q), (6, .q), (7, .q), (8, .q), (9, .t), (10, .t), (11, .t)] xI (fun x hx => by cases hx) (gD [0, 0, 0, 4, 8, 0, 32, 64, 157, 413, 1023, 2047] [4095, 4095, 4095, 4091, 4087, 4095, 4063, 4031, 4094, 3823, 4093, 2943] (by kernel_rfl)) (fun x hx => by cases hx) (fun r hr => hr) (w_q rfl (fun h' L' hh hR => zG rfl) rfl (w_p (⟨.inl rfl,  rfl⟩) rfl rfl (w_q rfl (fun h' L' hh hR => zG rfl) rfl (w_q rfl (fun h' L' hh hR => (vE (q := 1) 1 (hR _ (.head _)) Tryz.underlying27 Tryz.sizeOf32 rfl rfl rfl (by simp only [List.length_set, List.nil_append]; have := hx16.1.1.1; omega) (show 0 < 9 from by decide)).cv (show _ = xD 1 v20 9 from congrArg (xD 1 v20) (by rfl))) rfl ?_))))
   replace rl20 := rl20.mono hg22
   refine yR (F := fun v_ => (rpT (rpQ 140000)).Is g22 v_ ((([] : List (T3 Rat)) ++ p16).getD 1 (T3.mk (0 : Rat) 0 0))) rfl (uL xG (Pc.arr (Pc.here _) (T3.mk (0 : Rat) 0 0) 1 (by simp only [List.length_set, List.nil_append]; have := hx16.1.1.1; omega)) rfl (show 0 < 9 from by decide) rfl rl20 rfl) (yF (.head _)) rfl ?_
   intro v35 r35
   refine w_q rfl (fun h' L' hh hR => zG rfl) rfl (w_q rfl (fun h' L' hh hR => (vE (q := 0) 0 (hR _ (.head _)) Tryz.underlying27 Tryz.sizeOf32 rfl rfl rfl (by simp only [List.length_set, List.nil_append]; have := hx16.1.1.1; omega) (show 0 < 9 from by decide)).cv (show _ = xD 1 v20 0 from congrArg (xD 1 v20) (by rfl))) rfl (yR (F := fun v_ => (rpT (rpQ 140000)).Is g22 v_ ((([] : List (T3 Rat)) ++ p16).getD 0 (T3.mk (0 : Rat) 0 0))) rfl (uL xG (Pc.arr (Pc.here _) (T3.mk (0 : Rat) 0 0) 0 (by simp only [List.length_set, List.nil_append]; have := hx16.1.1.1; omega)) rfl (show 0 < 9 from by decide) rfl rl20 rfl) (yF (.head _)) rfl ?_))
   intro v38 r38
   refine w_q rfl (fun h' L' hh hR => (vE (q := 0) 0 (hR _ (.head _)) Tryz.underlying27 Tryz.sizeOf32 rfl rfl rfl (by simp only [List.length_set, List.nil_append]; have := hx16.1.1.1; omega) (show 0 < 9 from by decide)).cv (show _ = xD 1 v20 0 from congrArg (xD 1 v20) (by rfl))) rfl (iD (A := []) (F := fun c_ => RL (rpT (rpQ 140000)) g22 c_ ((([] : List (T3 Rat)) ++ p16).set 0 ((([] : List (T3 Rat)) ++ p16).getD 1 (T3.mk (0 : Rat) 0 0)))) rfl (mF Tryz.sizeOf32 (Pc.arr (Pc.here _) (T3.mk (0 : Rat) 0 0) 0 (by simp only [List.length_set, List.nil_append]; have := hx16.1.1.1; omega)) rfl (show 0 < 9 from by decide) rfl rfl rl20 r35 rfl) ?_)
   intro cs_12 rl_13
   refine cT rfl ((vE (q := 1) 1 (.head _) Tryz.underlying27 Tryz.sizeOf32 rfl rfl rfl (by simp only [List.length_set, List.nil_append]; have := hx16.1.1.1; omega) (show 0 < 9 from by decide)).cv (show _ = xD 1 v20 9 from congrArg (xD 1 v20) (by rfl))) rfl (iD (A := []) (F := fun c_ => RL (rpT (rpQ 140000)) g22 c_ (((([] : List (T3 Rat)) ++ p16).set 0 ((([] : List (T3 Rat)) ++ p16).getD 1 (T3.mk (0 : Rat) 0 0))).set 1 ((([] : List (T3 Rat)) ++ p16).getD 0 (T3.mk (0 : Rat) 0 0)))) rfl (mF Tryz.sizeOf32 (Pc.arr (Pc.here _) (T3.mk (0 : Rat) 0 0) 1 (by simp only [List.length_set, List.nil_append]; have := hx16.1.1.1; omega)) rfl (show 0 < 9 from by decide) rfl rfl rl_13 r38 rfl) ?_)
   intro cs_14 rl_15
   refine xB (yV ?_)
   refine yN ((((([] : List (T3 Rat)) ++ p16).set 0 ((([] : List (T3 Rat)) ++ p16).getD 1 (T3.mk (0 : Rat) 0 0))).set 1 ((([] : List (T3 Rat)) ++ p16).getD 0 (T3.mk (0 : Rat) 0 0))), v20, cs_14, k22, g22) ?_ ⟨rfl, rfl, rfl, rfl, trivial⟩ rfl rfl
   refine ⟨hg22, ?_⟩
   refine ⟨((Le.t (Le.q (l := 9000000) (by decide))).rl rl_15), (by omega), ?_⟩
   exact (by simp only [List.length_set, List.length_append, List.length_cons, List.length_nil, List.nil_append]; omega)
  refine zC (zA (gv (xZ (q := 2) rfl rfl) rfl (asg rfl rfl (zD (zB ?_)))))
  refine zO rfl (fun hc41 => ?_) (fun hc41 => ?_)
  ·
   refine wH (e' := [(3, _), (5, _), (4, _), (6, _)]) ⟨rfl, rfl, rfl, rfl, trivial⟩ ?_
   refine yI 10 _ [] [(0, .p), (1, .q), (2, .q), (3, .q), (4, .q), (5, .p), (6, .q), (7, .q), (8, .q), (9, .q), (10, .t), (11, .t), (12, .t), (13, .t), (14, .t)] xI (fun x hx => by cases hx) (gD [0, 0, 2, 4, 0, 0, 32, 64, 144, 256, 520, 1024, 2048, 6145, 16383] [32767, 32767, 32765, 32763, 32767, 32767, 32735, 32703, 32623, 32511, 32247, 31743, 30719, 28670, 24524] (by kernel_rfl)) (fun x hx => by cases hx) (fun r hr => hr) (w_p (⟨.inl rfl,  rfl⟩) rfl rfl (w_q rfl (fun h' L' hh hR => zG rfl) rfl (w_q rfl (fun h' L' hh hR => (vE (q := 0) 0 (hR _ (.head _)) Tryz.underlying27 Tryz.sizeOf32 rfl rfl rfl (by rw [List.nil_append]; omega) (show 0 < 9 from by decide)).cv (show _ = xD 1 v20 0 from congrArg (xD 1 v20) (by rfl))) rfl ?_)))
   replace rl20 := rl20.mono hg22
   refine yR (F := fun v_ => (rpT (rpQ 140000)).Is g22 v_ ((([] : List (T3 Rat)) ++ p16).getD 0 (T3.mk (0 : Rat) 0 0))) rfl (uL xG (Pc.arr (Pc.here _) (T3.mk (0 : Rat) 0 0) 0 (by rw [List.nil_append]; omega)) rfl (show 0 < 9 from by decide) rfl rl20 rfl) (yF (.head _)) rfl ?_
   intro v46 r46
   refine w_q rfl (fun h' L' hh hR => zG rfl) rfl (w_p (⟨.inl rfl,  rfl⟩) rfl rfl (w_q rfl (fun h' L' hh hR => ov_len_os (hR _ (.head _)) Tryz.underlying27 rfl) rfl (w_q rfl (fun h' L' hh hR => xT (q := 1) rfl rfl (by simp only [List.nil_append]; omega) (by simp only [List.nil_append]; omega)) rfl (w_q rfl (fun h' L' hh hR => (vE (p16.length - 1) (hR _ (.head _)) Tryz.underlying27 Tryz.sizeOf32 rfl rfl (by simp only [List.nil_append]; omega) (by simp only [List.nil_append]; omega) (show 0 < 9 from by decide)).cv (show _ = xD 1 v20 (((p16.length - 1) * 9 + 0)) from congrArg (xD 1 v20) (by rfl))) rfl (yR (F := fun v_ => (rpT (rpQ 140000)).Is g22 v_ ((([] : List (T3 Rat)) ++ p16).getD (p16.length - 1) (T3.mk (0 : Rat) 0 0))) rfl (uL xG (Pc.arr (Pc.here _) (T3.mk (0 : Rat) 0 0) (p16.length - 1) (by simp only [List.nil_append]; omega)) rfl (show 0 < 9 from by decide) rfl rl20 rfl) (yF (.head _)) rfl ?_)))))
   intro v52 r52
   refine w_ts rfl (uU (fun X => yW (ρ := (rpT (rpQ 140000))) (m := 2) (xs := [((([] : List (T3 Rat)) ++ p16).getD 0 (T3.mk (0 : Rat) 0 0)), ((([] : List (T3 Rat)) ++ p16).getD (p16.length - 1) (T3.mk (0 : Rat) 0 0))]) (ps' := [(0, _), (1, _)]) Tryz.underlying27 yB rfl rfl rfl (wI (wD (by decide))) ⟨rfl, rfl, rfl, rfl, trivial⟩ (yU rfl (Pc.arr (Pc.here _) (T3.mk (0 : Rat) 0 0) 0 (by decide)) r46 (yU rfl (Pc.arr (Pc.here _) (T3.mk (0 : Rat) 0 0) 1 (by decide)) r52 xY)) (show 2 * 9 ≤ 16777216 from by decide) (show 0 < 9 from by decide)) rfl ?_)
   intro v53 q53 hq53
   obtain ⟨cs53, rfl, rl53⟩ := hq53
   refine w_ts rfl (xL (A := []) (ρ := (rpT (rpQ 140000))) rl53 (xM (by first | (simp; done) | grind)) ?_)
   intro h3 hh3 rs_16
   refine yD (vs := [_]) Tryz.call18 ⟨rfl, trivial⟩ (fun w hs => u6 hs rs_16 (by decide) (by first | omega | decide | exact (by decide : 2 ≤ 32))) rfl ?_
   intro v54 h4 hh4 r54
   change (rpT (rpQ (32 * 140000 + 100))).Is h4 v54 (cenZ [((([] : List (T3 Rat)) ++ p16).getD 0 (T3.mk (0 : Rat) 0 0)), ((([] : List (T3 Rat)) ++ p16).getD (p16.length - 1) (T3.mk (0 : Rat) 0 0))]) at r54
   replace r54 := Rp.Is.le r54 (Le.t (Le.q (l := 4480100) (by omega)))
   refine w_ts rfl (uU (fun X => yW (ρ := (rpT (rpQ 4480100))) (m := 1) (xs := [cenZ [((([] : List (T3 Rat)) ++ p16).getD 0 (T3.mk (0 : Rat) 0 0)), ((([] : List (T3 Rat)) ++ p16).getD (p16.length - 1) (T3.mk (0 : Rat) 0 0))]]) (ps' := [(0, _)]) Tryz.underlying27 yB rfl rfl rfl (wI (wD (by decide))) ⟨rfl, rfl, trivial⟩ (yU rfl (Pc.arr (Pc.here _) (T3.mk (0 : Rat) 0 0) 0 (by decide)) r54 xY) (show 1 * 9 ≤ 16777216 from by decide) (show 0 < 9 from by decide)) rfl ?_)
   intro v55 q55 hq55
   obtain ⟨cs55, rfl, rl55⟩ := hq55
   refine w_ts rfl (xL (A := []) (ρ := (rpT (rpQ 4480100))) rl55 (xM (by first | (simp; done) | grind)) ?_)
   intro h5 hh5 rs_17
   replace rl20 := rl20.mono ((hh3.trans hh4).trans hh5)
   have rw_18 := (Le.t (Le.q (l := 4480100) (by decide))).rl rl20
   refine uC (A := []) (fun X => yM (ρ := (rpT (rpQ 4480100))) (bytes := 168) Tryz.underlying27 yB rfl rfl rfl rfl (show 0 < 9 from by decide) rfl rfl rw_18 rs_17 (by first | omega | (simp only [List.length_append, List.length_cons, List.length_nil, List.length_replicate, List.length_set]; omega)) (by first | omega | (simp only [List.length_append, List.length_cons, List.length_nil, List.length_replicate, List.length_set]; omega))) rfl (xF (by first | (simp; done) | grind)) ?_
   intro v56 q56 hq56
   obtain ⟨cs56, rfl, rl56⟩ := hq56
   refine w_ts rfl (s_val (fun X => zY rfl) rfl (xB (yV ?_)))
   refine yN (((([] : List (T3 Rat)) ++ p16) ++ [cenZ [((([] : List (T3 Rat)) ++ p16).getD 0 (T3.mk (0 : Rat) 0 0)), ((([] : List (T3 Rat)) ++ p16).getD (p16.length - 1) (T3.mk (0 : Rat) 0 0))]]), v56, cs56, k22, h5) ?_ ⟨rfl, rfl, rfl, rfl, trivial⟩ rfl rfl
   refine ⟨(((hg22.trans hh3).trans hh4).trans hh5), ?_⟩
   refine ⟨((Le.t (Le.q (l := 9000000) (by decide))).rl rl56), (by omega), ?_⟩
   exact (by simp only [List.length_set, List.length_append, List.length_cons, List.length_nil, List.nil_append]; omega)
  refine wH (e' := [(3, _), (5, _), (4, _), (6, _)]) ⟨rfl, rfl, rfl, rfl, trivial⟩ (zL (yV ?_))
  refine yN ((([] : List (T3 Rat)) ++ p16), v20, cs20, k22, g22) ?_ ⟨rfl, rfl, rfl, rfl, trivial⟩ rfl rfl
  refine ⟨hg22, ?_⟩
  replace rl20 := rl20.mono hg22
  refine ⟨((Le.t (Le.q (l := 9000000) (by decide))).rl rl20), (by omega), ?_⟩
  exact (by simp only [List.length_set, List.length_append, List.length_cons, List.length_nil, List.nil_append]; omega)
 intro x hx
 obtain ⟨Y, s6_5, cs_6, kd_8, mc⟩ := x
 obtain ⟨hmmc, hY⟩ := hx
 show GC _ _ _ _ _ _ [(3, vP b13 0), (4, u16_0), (5, vP b5 0), (6, s6_5)] [.gs 32 9 s6_5 Y.length cs_6, .var b5 34 cs_2, .var b13 65 [vl, vI ↑kd_8]] mc
 obtain ⟨rl_7, hkd_9, hY⟩ := hY
 refine zC (zA (mv rfl rfl ?_))
 replace hl := hl.mono (hg16.trans hmmc)
 refine xW (A := [_, _]) (vs := [_]) Tryz.call13 ⟨rfl, trivial⟩ (fun X w hs => rV hl (by first | omega | exact Nat.zero_le _) hs) rfl ?_
 intro v58 g58 q58 hg58 hr58
 obtain ⟨k58, p58, rfl, hk58, hr58⟩ := hr58
 refine zK (yZ (ρ := (rpP (rpT (rpQ 1)) (rpQ 1))) (X := ((T3.mk (0 : Rat) 0 0), (0 : Rat))) rA rfl rfl (eH (wI (wD (by decide))) (wD (by decide)))) rfl rfl rfl ?_
 intro v7 q7 hq7
 obtain ⟨b7, cs7, rfl, rfl, rb7⟩ := hq7
 have rw_19 := (Le.p (Le.t (Le.q (l := 2) (by decide))) (Le.q (l := 2) (by decide))).R rb7
 refine wE (A := []) (F := fun c_ => (rpP (rpT (rpQ 2)) (rpQ 2)).R g58 c_ p58) (yG Tryz.sizeOf34 (Pc.here _) rfl rfl rfl rw_19 hr58 rfl) ?_
 intro cs_20 rb_21
 refine zD (zB (zC ?_))
 replace rl_7 := rl_7.mono hg58
 refine gc_freezex (A := [_]) (ρ := (rpT (rpQ 9000000))) rl_7 ?_
 intro h3 hh3 rs_22
 refine yI 31 _ [] [(0, .q), (1, .q), (2, .c), (3, .q), (4, .q), (5, .q), (7, .q), (8, .q), (6, .c), (9, .c), (10, .q), (11, .q), (12, .q), (13, .q), (14, .q), (16, .q), (17, .q), (15, .c), (18, .c), (19, .q), (20, .q), (21, .q), (22, .q), (23, .q), (24, .c), (25, .q), (26, .q), (27, .q), (28, .c), (29, .q), (30, .q)] xI (fun x hx => by cases hx) (gD [0, 0, 3, 4, 8, 8, 56, 8, 8, 456, 584, 1032, 2560, 4096, 4096, 28672, 4096, 4096, 233472, 299008, 528384, 1310720, 2097152, 2097152, 14680064, 18874368, 35651584, 83886080, 134217728, 402653184, 1073741823] [2147483647, 2147483647, 2147483644, 2147483643, 2147483639, 2147483639, 2147483591, 2147483639, 2147483639, 2147483255, 2147483063, 2147482615, 2147481599, 2147479551, 2147479551, 2147454975, 2147479551, 2147479551, 2147282943, 2147184639, 2146955263, 2146435071, 2145386495, 2145386495, 2132803583, 2128609279, 2111832063, 2080374783, 2013265919, 1744830463, 1610612735] (by kernel_rfl)) (fun x hx => by cases hx) (fun r hr => hr) (w_q rfl (fun h' L' hh hR => zG rfl) rfl ?_)
 replace rb_3 := rb_3.mono ((hmmc.trans hg58).trans hh3)
 refine yR (F := fun v_ => (rpP (rpT (rpQ 2)) (rpQ 2)).Is h3 v_ s16) rfl (zE kE (Pc.here _) rfl rfl rb_3 rfl) (yF (.tail _ (.head _))) rfl ?_
 intro v60 r60
 refine w_c rfl ?_
 replace ra16 := ra16.mono ((hmmc.trans hg58).trans hh3)
 refine yD (vs := [_, _]) Tryz.call34 ⟨rfl, rfl, trivial⟩ (fun w hs => rW hs ra16 r60 (by decide) (by decide) (by decide) (by first | omega | exact Nat.le_trans hx16.2 (by decide))) rfl ?_
 intro v61 h4 hh4 r61
 obtain rfl : v61 = .bool true := by rw [show v61 = vB (fN s16 p16) from r61, xS (by exact hx16.1)]
 refine w_q rfl (fun h' L' hh hR => zG rfl) rfl (uO rfl rfl rfl (fun h' L' hh hR => zG rfl) rfl ?_)
 replace rb_3 := rb_3.mono hh4
 refine tR (F := fun v_ => (rpP (rpT (rpQ 2)) (rpQ 2)).Is h4 v_ s16) rfl rfl rfl (zE kE (Pc.here _) rfl rfl rb_3 rfl) (yF (.tail _ (.head _))) rfl ?_
 intro v64 r64
 refine uO rfl rfl rfl (fun h' L' hh hR => zG rfl) rfl (tR (F := fun v_ => (rpP (rpT (rpQ 2)) (rpQ 2)).Is h4 v_ s16) rfl rfl rfl (zE kE (Pc.here _) rfl rfl rb_3 rfl) (yF (.tail _ (.head _))) rfl ?_)
 intro v67 r67
 refine w_c rfl (eO rfl rfl ?_)
 replace rs_22 := rs_22.mono hh4
 refine yD (vs := [_, _]) Tryz.call34 ⟨rfl, rfl, trivial⟩ (fun w hs => rW hs rs_22 r64 (by decide) (by decide) (by decide) (by omega)) rfl ?_
 intro v65 h5 hh5 r65
 obtain rfl : v65 = vB (fN s16 Y) := r65
 refine w_c rfl (eO rfl rfl ?_)
 replace rs_22 := rs_22.mono hh5
 replace r67 := r67.mono hh5
 refine yD (vs := [_, _]) Tryz.call17 ⟨rfl, rfl, trivial⟩ (fun w hs => oF hs rs_22 r67 (by decide) (by decide) (by decide) (by omega)) rfl ?_
 intro v68 h6 hh6 r68
 obtain rfl : v68 = vB (fN s16 Y) := r68
 refine uO rfl rfl rfl (fun h' L' hh hR => OpV.tr (by exact Iff.rfl) (tL Tryz.underlying4 rfl rfl)) rfl (w_q rfl (fun h' L' hh hR => xK rfl rfl) rfl (w_q rfl (fun h' L' hh hR => zG rfl) rfl (uO rfl rfl rfl (fun h' L' hh hR => zG rfl) rfl ?_)))
 replace rb_21 := rb_21.mono (((hh3.trans hh4).trans hh5).trans hh6)
 refine tR (F := fun v_ => (rpP (rpT (rpQ 2)) (rpQ 2)).Is h6 v_ p58) rfl rfl rfl (zE kE (Pc.here _) rfl rfl rb_21 rfl) (yF (.head _)) rfl ?_
 intro v73 r73
 refine uO rfl rfl rfl (fun h' L' hh hR => zG rfl) rfl (tR (F := fun v_ => (rpP (rpT (rpQ 2)) (rpQ 2)).Is h6 v_ p58) rfl rfl rfl (zE kE (Pc.here _) rfl rfl rb_21 rfl) (yF (.head _)) rfl ?_)
 intro v76 r76
 refine w_c rfl (eO rfl rfl ?_)
 replace ra16 := ra16.mono ((hh4.trans hh5).trans hh6)
 refine yD (vs := [_, _]) Tryz.call34 ⟨rfl, rfl, trivial⟩ (fun w hs => rW hs ra16 r73 (by decide) (by decide) (by decide) (by first | omega | exact Nat.le_trans hx16.2 (by decide))) rfl ?_
 intro v74 h7 hh7 r74
 obtain rfl : v74 = vB (fN p58 p16) := r74
 refine w_c rfl (eO rfl rfl ?_)
 replace ra16 := ra16.mono hh7
 replace r76 := r76.mono hh7
 refine yD (vs := [_, _]) Tryz.call17 ⟨rfl, rfl, trivial⟩ (fun w hs => oF hs ra16 r76 (by decide) (by decide) (by decide) (by first | omega | exact Nat.le_trans hx16.2 (by decide))) rfl ?_
 intro v77 h8 hh8 r77
 obtain rfl : v77 = vB (fN p58 p16) := r77
 refine uO rfl rfl rfl (fun h' L' hh hR => OpV.tr (by exact Iff.rfl) (tL Tryz.underlying4 rfl rfl)) rfl (w_q rfl (fun h' L' hh hR => xK rfl rfl) rfl (w_q rfl (fun h' L' hh hR => zG rfl) rfl (uO rfl rfl rfl (fun h' L' hh hR => zG rfl) rfl (tR (F := fun v_ => (rpP (rpT (rpQ 1)) (rpQ 1)).Is h8 v_ ((T3.mk (0 : Rat) 0 0), (0 : Rat))) rfl rfl rfl (cD (ps' := []) Tryz.underlying34 rA rfl rfl (cC Tryz.underlying34) trivial rfl (eH (wI (wD (by decide))) (wD (by decide))) xY) uH rfl ?_))))
 intro v82 r82
 refine w_c rfl (eO rfl rfl ?_)
 replace ra16 := ra16.mono hh8
 refine yD (vs := [_, _]) Tryz.call34 ⟨rfl, rfl, trivial⟩ (fun w hs => rW hs ra16 r82 (by decide) (by decide) (by decide) (by first | omega | exact Nat.le_trans hx16.2 (by decide))) rfl ?_
 intro v83 h9 hh9 r83
 obtain rfl : v83 = .bool false := by rw [show v83 = vB (fN ((T3.mk (0 : Rat) 0 0), (0 : Rat)) p16) from r83, yX (by exact conv_zero rfl)]
 refine uO rfl rfl rfl (fun h' L' hh hR => ov_not_b rfl) rfl (w_q rfl (fun h' L' hh hR => xK rfl rfl) rfl (w_q rfl (fun h' L' hh hR => zG rfl) rfl ?_))
 refine w_c rfl (eO rfl rfl ?_)
 refine yD (vs := []) Tryz.call10 trivial (fun w hs => oV hs) rfl ?_
 intro v87 h10 hh10 hr87
 subst hr87
 refine w_q rfl (fun h' L' hh hR => xK rfl rfl) rfl (w_q rfl (fun h' L' hh hR => zY rfl) rfl (xB (zJ (e' := [(2, _)]) ⟨rfl, trivial⟩ (zB (zR (yJ rfl rfl ?_))))))
 rfl
end Go.Proofs.YtghhjjmjpeehdaaGreat
