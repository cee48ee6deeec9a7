/- Texts that the proof needs, part 6. -/
import Derived.Test.YtfpjclgbieppeaaGreatK5


namespace Go.Proofs.YtfpjclgbieppeaaGreat
open Bk Go
set_option linter.unusedVariables false
set_option linter.unusedSimpArgs false
set_option maxRecDepth 10000

set_option maxHeartbeats 2000000 in
theorem o_pl_nest {w0 : World} {h0 : Mem}  (hs : MLe h0 (mem w0)) {k : Nat} {vL : Value} {L : (List (List (T3 Rat)))} (rL : (rpS (rpS (rpT (rpQ k)))).Is h0 vL L) {i : Nat} {j : Nat} (hcd0 : i < 3) (hcd1 : j < 3) (hcd2 : k ≤ 10000)  :
    Calls Tryz.prog 53 #[vL, vI ↑i, vI ↑j] w0 (Ret w0 h0 (fun h r => ∃ u0, r = .tuple #[u0, vI (nestE L i j)] ∧ (rpS rpI).Is h u0 (nestL L i j))) := by
 refine zR (n := 212) (e := [(0, vL), (1, vI ↑i), (2, vI ↑j)]) (vs := [vL, vI ↑i, vI ↑j]) Tryz.func53 rfl rfl (Nat.le_of_ble_eq_true rfl) hs ⟨rfl, rfl, rfl, trivial⟩ (zC (zA (asg rfl rfl (asg (v := vI (0)) rfl rfl (zD (zB (zC (zC (zA (mv rfl rfl (gv (ov_len_sr Tryz.underlying27 rfl rL) rfl (gv (ov_gtr_i (q := 16) rfl rfl) rfl (zD ?_)))))))))))))
 refine zB ?_
 refine zH rfl (fun hc28 => ?_) (fun hc28 => ?_)
 ·
  refine zC (zA (asg rfl rfl (asg (v := vI (2)) rfl rfl (zD (zB (zN (zO (gq_body2 rfl rfl rfl ?_))))))))
  refine ⟨_, ?_, (Rp.Is.cast (is_nil _) (by exact (show nestE L i j = 2 ∧ nestL L i j = [] from nest_2 (.inl (by omega))).2.symm))⟩
  rw [(show nestE L i j = 2 ∧ nestL L i j = [] from nest_2 (.inl (by omega))).1]
 refine zI (zB (zC (zC (zA (mv rfl rfl (gv (ov_len_sr Tryz.underlying27 rfl rL) rfl (mv (v := vI (0)) rfl rfl (zD (zB (zQ ?_))))))))))
 refine gc_loop (ι := Nat × Mem) (fun (q, ma) => MLe h0 ma ∧ (q ≤ L.length ∧ ∀ u, u < q → ¬ 64 < (gl L u).length)) (fun (q, ma) => [(0, vL), (1, vI ↑i), (2, vI ↑j), (29, vL), (30, vI (↑(L).length : Int)), (31, vI ↑q)]) (fun (q, ma) => []) (fun (q, ma) => ma) (fun (q, ma) => L.length - q) (0, h0) ?_ ⟨rfl, rfl, rfl, rfl, rfl, rfl, trivial⟩ rfl rfl ?_
 ·
  refine ⟨MLe.refl _, ?_⟩
  exact ⟨by omega, fun u h => by omega⟩
 intro x hx
 obtain ⟨q, ma⟩ := x
 obtain ⟨hmma, hinv⟩ := hx
 show GC _ _ _ _ _ _ [(0, vL), (1, vI ↑i), (2, vI ↑j), (29, vL), (30, vI (↑(L).length : Int)), (31, vI ↑q)] [] ma
 obtain ⟨hq1, hq2⟩ := hinv
 refine zC (zA (gv (yH rfl rfl) rfl (zD (zB (zC ?_)))))
 refine zH rfl (fun hc32 => ?_) (fun hc32 => ?_)
 ·
  refine zI (zB (zC (zQ (zC (zA ?_)))))
  replace rL := rL.mono hmma
  refine gl_x (F := fun v_ => AtP (rpS (rpT (rpQ k))) ma v_ (L.getD q [])) (ox_idx_s [] q Tryz.underlying27 ty36 rfl rfl rL rfl (by omega) (show 0 < 1 from by decide)) mem0 rfl ?_
  intro v33 r33
  refine gl_x (F := fun v_ => (rpS (rpT (rpQ k))).Is ma v_ (L.getD q [])) (yK ty36 rfl r33) mem0 rfl ?_
  intro v34 r34
  refine asg rfl rfl (zD (zB (zC (zA (mv rfl rfl (gv (ov_len_sr Tryz.underlying36 rfl r34) rfl (gv (ov_gtr_i (q := 64) rfl rfl) rfl (zD (zB ?_)))))))))
  refine zH rfl (fun hc37 => ?_) (fun hc37 => ?_)
  ·
   refine gc_keep (e' := []) trivial (zC (zA (asg rfl rfl (asg (v := vI (2)) rfl rfl (zD (zB (zN (gr_in (zO (zO (gr_in (zO (gq_body2 rfl rfl rfl ?_)))))))))))))
   refine ⟨_, ?_, (Rp.Is.cast (is_nil _) (by exact (show nestE L i j = 2 ∧ nestL L i j = [] from nest_2 (.inr ⟨q, by omega, (by show 64 < (L.getD q []).length; omega)⟩)).2.symm))⟩
   rw [(show nestE L i j = 2 ∧ nestL L i j = [] from nest_2 (.inr ⟨q, by omega, (by show 64 < (L.getD q []).length; omega)⟩)).1]
  refine zI (gq_in (zB (zA (gv (zV (q := 1) rfl rfl (by omega) (by omega)) rfl (mv rfl rfl (zD ?_))))))
  refine yJ ((q + 1), ma) ?_ ?_ ⟨rfl, rfl, rfl, rfl, rfl, rfl, trivial⟩ rfl rfl
  ·
   refine ⟨hmma, ?_⟩
   exact ⟨by omega, one_step (Q := fun u => ¬ 64 < (gl L u).length) hq2 (by show ¬ 64 < (L.getD q []).length; omega)⟩
  dsimp only
  omega
 have hE : ∀ u, u < L.length → ¬ 64 < (gl L u).length := fun u hu => hq2 u (by omega)
 refine gc_exit (zZ (zZ (gx_here (zB (zC (zC (zA (mv rfl rfl ?_))))))))
 replace rL := rL.mono hmma
 refine gv (ov_len_sr Tryz.underlying27 rfl rL) rfl (mv (v := vI (0)) rfl rfl (zD (zB (zQ ?_))))
 refine gc_loop (ι := Nat × Mem) (fun (s, ms) => MLe ma ms ∧ (s ≤ L.length ∧ ∀ u, u < s → simP (gl L u) i j)) (fun (s, ms) => [(0, vL), (1, vI ↑i), (2, vI ↑j), (39, vL), (40, vI (↑(L).length : Int)), (41, vI ↑s)]) (fun (s, ms) => []) (fun (s, ms) => ms) (fun (s, ms) => L.length - s) (0, ma) ?_ ⟨rfl, rfl, rfl, rfl, rfl, rfl, trivial⟩ rfl rfl ?_
 ·
  refine ⟨MLe.refl _, ?_⟩
  exact ⟨by omega, fun u h => by omega⟩
 intro x hx
 obtain ⟨s, ms⟩ := x
 obtain ⟨hmms, hinv⟩ := hx
 show GC _ _ _ _ _ _ [(0, vL), (1, vI ↑i), (2, vI ↑j), (39, vL), (40, vI (↑(L).length : Int)), (41, vI ↑s)] [] ms
 obtain ⟨hs1, hs2⟩ := hinv
 refine zC (zA (gv (yH rfl rfl) rfl (zD (zB (zC ?_)))))
 refine zH rfl (fun hc42 => ?_) (fun hc42 => ?_)
 ·
  refine zI (zB (zC (zQ (zC (zA ?_)))))
  replace rL := rL.mono hmms
  refine gl_x (F := fun v_ => AtP (rpS (rpT (rpQ k))) ms v_ (L.getD s [])) (ox_idx_s [] s Tryz.underlying27 ty36 rfl rfl rL rfl (by omega) (show 0 < 1 from by decide)) mem0 rfl ?_
  intro v43 r43
  refine gl_x (F := fun v_ => (rpS (rpT (rpQ k))).Is ms v_ (L.getD s [])) (yK ty36 rfl r43) mem0 rfl ?_
  intro v44 r44
  refine asg rfl rfl (zD (zB (zC (zA (mv rfl rfl (mv rfl rfl (mv rfl rfl ?_)))))))
  refine zJ (vs := [_, _, _]) rfl rfl rfl rfl Tryz.call49 ⟨rfl, rfl, rfl, trivial⟩ (fun w hs => o_pl_simple (i := i) (j := j) hs r44 (by first | omega | exact Nat.le_trans (Nat.not_lt.1 (hE _ (by omega))) (by decide) | exact Nat.le_trans (hF _ (by omega)) (by decide)) (by first | omega | exact Nat.le_trans (Nat.not_lt.1 (hE _ (by omega))) (by decide) | exact Nat.le_trans (hF _ (by omega)) (by decide)) (by first | omega | exact Nat.le_trans (Nat.not_lt.1 (hE _ (by omega))) (by decide) | exact Nat.le_trans (hF _ (by omega)) (by decide)) (by first | omega | exact Nat.le_trans (Nat.not_lt.1 (hE _ (by omega))) (by decide) | exact Nat.le_trans (hF _ (by omega)) (by decide))) ?_
  intro v48 h1 hh1 r48
  obtain rfl : v48 = vB (simP (L.getD s []) i j) := r48
  refine gv (ov_not rfl) rfl (zD (zB ?_))
  refine zH rfl (fun hc49 => ?_) (fun hc49 => ?_)
  ·
   refine gc_keep (e' := []) trivial (zC (zA (asg rfl rfl (asg (v := vI (8)) rfl rfl (zD (zB (zN (gr_in (zO (zO (gr_in (zO (gq_body2 rfl rfl rfl ?_)))))))))))))
   refine ⟨_, ?_, (Rp.Is.cast (is_nil _) (by exact (show nestE L i j = 8 ∧ nestL L i j = [] from nest_8 (by omega) hE ⟨s, by omega, hc49⟩).2.symm))⟩
   rw [(show nestE L i j = 8 ∧ nestL L i j = [] from nest_8 (by omega) hE ⟨s, by omega, hc49⟩).1]
  refine zI (gq_in (zB (zA (gv (zV (q := 1) rfl rfl (by omega) (by omega)) rfl (mv rfl rfl (zD ?_))))))
  refine yJ ((s + 1), h1) ?_ ?_ ⟨rfl, rfl, rfl, rfl, rfl, rfl, trivial⟩ rfl rfl
  ·
   refine ⟨(hmms.trans hh1), ?_⟩
   exact ⟨by omega, one_step (Q := fun u => simP (gl L u) i j) hs2 (Classical.not_not.1 hc49)⟩
  dsimp only
  omega
 have hS : ∀ u, u < L.length → simP (gl L u) i j := fun u hu => hs2 u (by omega)
 refine gc_exit (zZ (zZ (gx_here (zB (zC (zC (zA (mv rfl rfl ?_))))))))
 replace rL := rL.mono hmms
 refine gv (ov_len_sr Tryz.underlying27 rfl rL) rfl (mv (v := vI (0)) rfl rfl (zD (zB (zQ ?_))))
 refine gc_loop (ι := Nat × Mem) (fun (c, mc) => MLe ms mc ∧ (c ≤ L.length ∧ ∀ u v, v < c → u < v → ¬ crossesP (gl L u) (gl L v) i j)) (fun (c, mc) => [(0, vL), (1, vI ↑i), (2, vI ↑j), (52, vI (↑(L).length : Int)), (53, vI ↑c)]) (fun (c, mc) => []) (fun (c, mc) => mc) (fun (c, mc) => L.length - c) (0, ms) ?_ ⟨rfl, rfl, rfl, rfl, rfl, trivial⟩ rfl rfl ?_
 ·
  refine ⟨MLe.refl _, ?_⟩
  exact ⟨by omega, fun u v h => by omega⟩
 intro x hx
 obtain ⟨c, mc⟩ := x
 obtain ⟨hmmc, hinv⟩ := hx
 show GC _ _ _ _ _ _ [(0, vL), (1, vI ↑i), (2, vI ↑j), (52, vI (↑(L).length : Int)), (53, vI ↑c)] [] mc
 obtain ⟨hcc1, hcc2⟩ := hinv
 refine zC (zA (gv (yH rfl rfl) rfl (zD (zB (zC ?_)))))
 refine zH rfl (fun hc54 => ?_) (fun hc54 => ?_)
 ·
  refine zI (zB (zC (zQ (zC (zA (mv rfl rfl (asg rfl rfl (zD (zB (zC (zA (mv rfl rfl (mv (v := vI (0)) rfl rfl ?_)))))))))))))
  refine zD (zB (zQ ?_))
  refine gc_loop (ι := Nat × Mem) (fun (d, md) => MLe mc md ∧ (d ≤ c ∧ ∀ u, u < d → ¬ crossesP (gl L u) (gl L c) i j)) (fun (d, md) => [(0, vL), (1, vI ↑i), (2, vI ↑j), (12, vI ↑c), (52, vI (↑(L).length : Int)), (53, vI ↑c), (56, vI ↑c), (57, vI ↑d)]) (fun (d, md) => []) (fun (d, md) => md) (fun (d, md) => c - d) (0, mc) ?_ ⟨rfl, rfl, rfl, rfl, rfl, rfl, rfl, rfl, trivial⟩ rfl rfl ?_
  ·
   refine ⟨MLe.refl _, ?_⟩
   exact ⟨by omega, fun u h => by omega⟩
  intro x hx
  obtain ⟨d, md⟩ := x
  obtain ⟨hmmd, hinv⟩ := hx
  show GC _ _ _ _ _ _ [(0, vL), (1, vI ↑i), (2, vI ↑j), (12, vI ↑c), (52, vI (↑(L).length : Int)), (53, vI ↑c), (56, vI ↑c), (57, vI ↑d)] [] md
  obtain ⟨hd1, hd2⟩ := hinv
  refine zC (zA (gv (yH rfl rfl) rfl (zD (zB (zC ?_)))))
  refine zH rfl (fun hc58 => ?_) (fun hc58 => ?_)
  ·
   refine zI (zB (zC (zQ (zC (zA (mv rfl rfl (asg rfl rfl (zD (zB (zC ?_))))))))))
   refine gc_draw 11 _ [] [(0, .q), (1, .q), (2, .q), (3, .q), (4, .q), (5, .q), (6, .q), (7, .q), (8, .q), (9, .q), (10, .c)] mixed (fun x hx => by cases hx) (by kernel_rfl) (fun x hx => by cases hx) (fun r hr => hr) (w_q rfl (fun h' L' hh hR => zF rfl) rfl (w_q rfl (fun h' L' hh hR => zF rfl) rfl ?_))
   replace rL := rL.mono (hmmc.trans hmmd)
   refine w_qx (F := fun v_ => AtP (rpS (rpT (rpQ k))) md v_ (L.getD d [])) rfl (ox_idx_s [] d Tryz.underlying27 ty36 rfl rfl rL rfl (by omega) (show 0 < 1 from by decide)) mem0 rfl ?_
   intro v62 r62
   refine w_qx (F := fun v_ => (rpS (rpT (rpQ k))).Is md v_ (L.getD d [])) rfl (yK ty36 rfl r62) mem0 rfl ?_
   intro v63 r63
   refine w_q rfl (fun h' L' hh hR => zF rfl) rfl (w_q rfl (fun h' L' hh hR => zF rfl) rfl (w_qx (F := fun v_ => AtP (rpS (rpT (rpQ k))) md v_ (L.getD c [])) rfl (ox_idx_s [] c Tryz.underlying27 ty36 rfl rfl rL rfl (by omega) (show 0 < 1 from by decide)) mem0 rfl ?_))
   intro v66 r66
   refine w_qx (F := fun v_ => (rpS (rpT (rpQ k))).Is md v_ (L.getD c [])) rfl (yK ty36 rfl r66) mem0 rfl ?_
   intro v67 r67
   refine w_q rfl (fun h' L' hh hR => zF rfl) rfl (w_q rfl (fun h' L' hh hR => zF rfl) rfl ?_)
   refine w_c rfl ?_
   refine yO (vs := [_, _, _, _]) Tryz.call77 ⟨rfl, rfl, rfl, rfl, trivial⟩ (fun w hs => o_pl_crosses (i := i) (j := j) hs r63 r67 (by first | omega | exact Nat.le_trans (Nat.not_lt.1 (hE _ (by omega))) (by decide) | exact Nat.le_trans (hF _ (by omega)) (by decide)) (by first | omega | exact Nat.le_trans (Nat.not_lt.1 (hE _ (by omega))) (by decide) | exact Nat.le_trans (hF _ (by omega)) (by decide)) (by first | omega | exact Nat.le_trans (Nat.not_lt.1 (hE _ (by omega))) (by decide) | exact Nat.le_trans (hF _ (by omega)) (by decide)) (by first | omega | exact Nat.le_trans (Nat.not_lt.1 (hE _ (by omega))) (by decide) | exact Nat.le_trans (hF _ (by omega)) (by decide)) (by first | omega | exact Nat.le_trans (Nat.not_lt.1 (hE _ (by omega))) (by decide) | exact Nat.le_trans (hF _ (by omega)) (by decide))) rfl ?_
   intro v70 h1 hh1 r70
   obtain rfl : v70 = vB (crossesP (L.getD d []) (L.getD c []) i j) := r70
   refine w_nil (zL (e' := [(0, _), (1, _), (2, _), (12, _), (52, _), (53, _), (56, _), (57, _), (70, _)]) ⟨rfl, rfl, rfl, rfl, rfl, rfl, rfl, rfl, rfl, trivial⟩ (zB ?_))
   refine zH rfl (fun hc70 => ?_) (fun hc70 => ?_)
   ·
    refine zC (zA (asg rfl rfl (asg (v := vI (32)) rfl rfl (zD (zB (zN (gr_in (zO (zO (gr_in (gr_in (zO (zO ?_)))))))))))))
    refine gr_in (zO (gq_body2 rfl rfl rfl ?_))
    refine ⟨_, ?_, (Rp.Is.cast (is_nil _) (by exact (show nestE L i j = 32 ∧ nestL L i j = [] from nest_32 (by omega) hE hS ⟨d, c, by omega, by omega, hc70⟩).2.symm))⟩
    rw [(show nestE L i j = 32 ∧ nestL L i j = [] from nest_32 (by omega) hE hS ⟨d, c, by omega, by omega, hc70⟩).1]
   refine zI (gq_in (zB (zA (gv (zV (q := 1) rfl rfl (by omega) (by omega)) rfl (mv rfl rfl (zD ?_))))))
   refine yJ ((d + 1), h1) ?_ ?_ ⟨rfl, rfl, rfl, rfl, rfl, rfl, rfl, rfl, trivial⟩ rfl rfl
   ·
    refine ⟨(hmmd.trans hh1), ?_⟩
    exact ⟨by omega, one_step (Q := fun u => ¬ crossesP (gl L u) (gl L c) i j) hd2 hc70⟩
   dsimp only
   omega
  refine gc_exit (zZ (zZ (gx_here (gq_in (zB (zA (gv (zV (q := 1) rfl rfl (by omega) (by omega)) rfl (mv rfl rfl (zD ?_)))))))))
  refine yJ ((c + 1), md) ?_ ?_ ⟨rfl, rfl, rfl, rfl, rfl, trivial⟩ rfl rfl
  ·
   refine ⟨(hmmc.trans hmmd), ?_⟩
   exact ⟨by omega, tri_step hcc2 hd2 (by omega)⟩
  dsimp only
  omega
 have hX : ∀ a b, b < L.length → a < b → ¬ crossesP (gl L a) (gl L b) i j := fun a b hb ha => hcc2 a b (by omega) ha
 refine gc_exit (zZ (zZ (gx_here (zB (zC (zA (mv rfl rfl ?_)))))))
 replace rL := rL.mono hmmc
 refine gv (ov_len_sr Tryz.underlying27 rfl rL) rfl (zP (new_makex (ρ := (rpQ 1000000000)) (X := (0 : Rat)) (by' := 56) L.length Tryz.underlying96 info31 rfl rfl rfl rfl (zr_q (by decide)) rfl rfl (by rfl) (by rfl) (by omega) (by omega)) rfl rfl rfl ?_)
 intro v75 q75 hq75
 obtain ⟨cs75, rfl, rl75⟩ := hq75
 refine asg rfl rfl (zD (zB (zC (zC (zA (mv rfl rfl (gv (ov_len_sr Tryz.underlying27 rfl rL) rfl (mv (v := vI (0)) rfl rfl (zD (zB (zQ ?_)))))))))))
 refine gc_loop (ι := Nat × List Rat × Value × List Value × Mem) (fun (e, AR, s14_1, cs_2, me) => MLe mc me ∧ (RL (rpQ 1000000000) me cs_2 AR ∧ (e ≤ L.length ∧ AR.length = L.length) ∧ ∀ u, u < e → AR.getD u (0 : Rat) = arZ (gl L u) i j)) (fun (e, AR, s14_1, cs_2, me) => [(0, vL), (1, vI ↑i), (2, vI ↑j), (14, s14_1), (76, vL), (77, vI (↑(L).length : Int)), (78, vI ↑e)]) (fun (e, AR, s14_1, cs_2, me) => [.gs 31 3 s14_1 AR.length cs_2]) (fun (e, AR, s14_1, cs_2, me) => me) (fun (e, AR, s14_1, cs_2, me) => L.length - e) (0, (List.replicate L.length (0 : Rat)), v75, cs75, mc) ?_ ⟨rfl, rfl, rfl, rfl, rfl, rfl, rfl, trivial⟩ rfl rfl ?_
 ·
  refine ⟨MLe.refl _, ?_⟩
  refine ⟨rl75, ?_⟩
  exact ⟨⟨by omega, List.length_replicate⟩, fun u h => by omega⟩
 intro x hx
 obtain ⟨e, AR, s14_1, cs_2, me⟩ := x
 obtain ⟨hmme, hinv⟩ := hx
 show GC _ _ _ _ _ _ [(0, vL), (1, vI ↑i), (2, vI ↑j), (14, s14_1), (76, vL), (77, vI (↑(L).length : Int)), (78, vI ↑e)] [.gs 31 3 s14_1 AR.length cs_2] me
 obtain ⟨rl_3, hinv⟩ := hinv
 obtain ⟨⟨he1, he2⟩, he3⟩ := hinv
 refine zC (zA (gv (yH rfl rfl) rfl (zD (zB (zC ?_)))))
 refine zH rfl (fun hc79 => ?_) (fun hc79 => ?_)
 ·
  refine zI (zB (zC (zQ (zC (zA (mv rfl rfl ?_))))))
  replace rL := rL.mono hmme
  refine gl_x (F := fun v_ => AtP (rpS (rpT (rpQ k))) me v_ (L.getD e [])) (ox_idx_s [] e Tryz.underlying27 ty36 rfl rfl rL rfl (by omega) (show 0 < 1 from by decide)) mem0 rfl ?_
  intro v81 r81
  refine gl_x (F := fun v_ => (rpS (rpT (rpQ k))).Is me v_ (L.getD e [])) (yK ty36 rfl r81) mem0 rfl ?_
  intro v82 r82
  refine asg rfl rfl (asg rfl rfl (zD (zB (zA (mv rfl rfl (mv rfl rfl (mv rfl rfl (mv rfl rfl (mv rfl rfl ?_)))))))))
  refine zJ (vs := [_, _, _]) rfl rfl rfl rfl Tryz.call48 ⟨rfl, rfl, rfl, trivial⟩ (fun w hs => o_pl_area (i := i) (j := j) hs r82 (by first | omega | exact Nat.le_trans (Nat.not_lt.1 (hE _ (by omega))) (by decide) | exact Nat.le_trans (hF _ (by omega)) (by decide)) (by first | omega | exact Nat.le_trans (Nat.not_lt.1 (hE _ (by omega))) (by decide) | exact Nat.le_trans (hF _ (by omega)) (by decide)) (by first | omega | exact Nat.le_trans (Nat.not_lt.1 (hE _ (by omega))) (by decide) | exact Nat.le_trans (hF _ (by omega)) (by decide)) (by first | omega | exact Nat.le_trans (Nat.not_lt.1 (hE _ (by omega))) (by decide) | exact Nat.le_trans (hF _ (by omega)) (by decide))) ?_
  intro v88 h1 hh1 r88
  change (rpQ 1000000000).Is h1 v88 (areaTo (L.getD e []) i j (L.getD e []).length) at r88
  refine gv ((ov_index_os e (.head _) Tryz.underlying96 Tryz.sizeOf31 rfl rfl rfl (by first | omega | (simp only [List.length_append, List.length_cons, List.length_nil, List.length_replicate, List.length_set]; omega)) (by decide)).cv (show _ = elemPtr 1 s14_1 ((e * 3 + 0)) from congrArg (elemPtr 1 s14_1) (by rfl))) rfl ?_
  replace rl_3 := rl_3.mono hh1
  refine gl_updos (A := []) (F := fun c_ => RL (rpQ 1000000000) h1 c_ (AR.set e (areaTo (L.getD e []) i j (L.getD e []).length))) (upd_os Tryz.sizeOf31 (Pc.arr (Pc.here _) (0 : Rat) e (by first | omega | (simp only [List.length_append, List.length_cons, List.length_nil, List.length_replicate, List.length_set]; omega))) rfl (by decide) rfl rfl rl_3 r88 rfl) ?_
  intro cs_4 rl_5
  refine zD (gq_in (zL (e' := [(0, _), (1, _), (2, _), (14, _), (76, _), (77, _), (78, _)]) ⟨rfl, rfl, rfl, rfl, rfl, rfl, rfl, trivial⟩ (zB (zA (gv (zV (q := 1) rfl rfl (by omega) (by omega)) rfl (mv rfl rfl (zD ?_)))))))
  refine yJ ((e + 1), (AR.set e (areaTo (L.getD e []) i j (L.getD e []).length)), s14_1, cs_4, h1) ?_ ?_ ⟨rfl, rfl, rfl, rfl, rfl, rfl, rfl, trivial⟩ rfl rfl
  ·
   refine ⟨(hmme.trans hh1), ?_⟩
   refine ⟨rl_5, ?_⟩
   exact ⟨⟨by omega, by rw [List.length_set]; exact he2⟩, set_next (f := fun u => arZ (gl L u) i j) (by omega) he3 rfl⟩
  dsimp only
  omega
 have hA : ∀ u, u < L.length → AR.getD u (0 : Rat) = arZ (gl L u) i j := fun u hu => he3 u (by omega)
 refine gc_exit (zZ (zZ (gx_here (zB (zC (zA (mv rfl rfl ?_)))))))
 replace rL := rL.mono hmme
 refine gv (ov_len_sr Tryz.underlying27 rfl rL) rfl (zP (new_makex (ρ := rpI) (X := (0 : Int)) (by' := 8) L.length Tryz.underlying22 info3 rfl rfl rfl rfl zr_i rfl rfl (by rfl) (by rfl) (by omega) (by omega)) rfl rfl rfl ?_)
 intro v93 q93 hq93
 obtain ⟨cs93, rfl, rl93⟩ := hq93
 refine asg rfl rfl (zD (zB (zC (zC (zA (mv rfl rfl (gl_freezex (A := [_]) (ρ := (rpQ 1000000000)) rl_3 ?_)))))))
 intro h1 hh1 rs_6
 replace rL := rL.mono hh1
 refine gv (ov_len_sr Tryz.underlying27 rfl rL) rfl (mv (v := vI (0)) rfl rfl (zD (zB (zQ ?_))))
 refine gc_loop (ι := Nat × List Int × Value × List Value × Mem) (fun (f, OU, s17_7, cs_8, mf) => MLe h1 mf ∧ (RL rpI mf cs_8 OU ∧ ((f ≤ L.length ∧ OU.length = L.length) ∧ ∀ u, u < f → OU.getD u (0 : Int) = pZ L i j u) ∧ ∀ u, u < f → ¬ lostP L i j u)) (fun (f, OU, s17_7, cs_8, mf) => [(0, vL), (1, vI ↑i), (2, vI ↑j), (14, s14_1), (17, s17_7), (94, vL), (95, vI (↑(L).length : Int)), (96, vI ↑f)]) (fun (f, OU, s17_7, cs_8, mf) => [.gs 3 1 s17_7 OU.length cs_8]) (fun (f, OU, s17_7, cs_8, mf) => mf) (fun (f, OU, s17_7, cs_8, mf) => L.length - f) (0, (List.replicate L.length (0 : Int)), v93, cs93, h1) ?_ ⟨rfl, rfl, rfl, rfl, rfl, rfl, rfl, rfl, trivial⟩ rfl rfl ?_
 ·
  refine ⟨MLe.refl _, ?_⟩
  replace rl93 := rl93.mono hh1
  refine ⟨rl93, ?_⟩
  exact ⟨⟨⟨by omega, List.length_replicate⟩, fun u h => by omega⟩, fun u h => by omega⟩
 intro x hx
 obtain ⟨f, OU, s17_7, cs_8, mf⟩ := x
 obtain ⟨hmmf, hinv⟩ := hx
 show GC _ _ _ _ _ _ [(0, vL), (1, vI ↑i), (2, vI ↑j), (14, s14_1), (17, s17_7), (94, vL), (95, vI (↑(L).length : Int)), (96, vI ↑f)] [.gs 3 1 s17_7 OU.length cs_8] mf
 obtain ⟨rl_9, hinv⟩ := hinv
 obtain ⟨⟨⟨hf1, hf2⟩, hf3⟩, hf4⟩ := hinv
 refine zC (zA (gv (yH rfl rfl) rfl (zD (zB (zC ?_)))))
 refine zH rfl (fun hc97 => ?_) (fun hc97 => ?_)
 ·
  refine zI (zB (zC (zQ (zC (zA (mv rfl rfl ?_))))))
  replace rL := rL.mono hmmf
  refine gl_x (F := fun v_ => AtP (rpS (rpT (rpQ k))) mf v_ (L.getD f [])) (ox_idx_s [] f Tryz.underlying27 ty36 rfl rfl rL rfl (by omega) (show 0 < 1 from by decide)) mem0 rfl ?_
  intro v99 r99
  refine gl_x (F := fun v_ => (rpS (rpT (rpQ k))).Is mf v_ (L.getD f [])) (yK ty36 rfl r99) mem0 rfl ?_
  intro v100 r100
  refine asg rfl rfl (asg rfl rfl (zD (zB (zC (zA (mv rfl rfl (mv rfl rfl (gv ((ov_index_os f (.head _) Tryz.underlying22 Tryz.sizeOf3 rfl rfl rfl (by first | omega | (simp only [List.length_append, List.length_cons, List.length_nil, List.length_replicate, List.length_set]; omega)) (by decide)).cv (show _ = elemPtr 1 s17_7 ((f * 1 + 0)) from congrArg (elemPtr 1 s17_7) (by rfl))) rfl (gl_updos (A := []) (F := fun c_ => RL rpI mf c_ (OU.set f (-1 : Int))) (upd_os Tryz.sizeOf3 (Pc.arr (Pc.here _) (0 : Int) f (by first | omega | (simp only [List.length_append, List.length_cons, List.length_nil, List.length_replicate, List.length_set]; omega))) rfl (by decide) rfl rfl rl_9 (is_i (by decide) (by decide)) rfl) ?_)))))))))
  intro cs_10 rl_11
  refine zD (zB (zC (zC (zA (mv rfl rfl (mv rfl rfl ?_))))))
  replace rs_6 := rs_6.mono hmmf
  refine gl_x (F := fun v_ => AtP (rpQ 1000000000) mf v_ (AR.getD f (0 : Rat))) (ox_idx_s (0 : Rat) f Tryz.underlying96 ty31 rfl rfl rs_6 rfl (by omega) (show 0 < 3 from by decide)) mem0 rfl ?_
  intro v106 r106
  refine gl_x (F := fun v_ => (rpQ 1000000000).Is mf v_ (AR.getD f (0 : Rat))) (yK ty31 rfl r106) mem0 rfl ?_
  intro v107 r107
  refine zJ (vs := [_]) rfl rfl rfl rfl Tryz.call78 ⟨rfl, trivial⟩ (fun w hs => o_rat_sign hs r107 (by decide)) ?_
  intro v108 h2 hh2 r108
  obtain rfl : v108 = vI (sgnQ (AR.getD f (0 : Rat))) := r108
  have hsr108 := sgnQ_range (AR.getD f (0 : Rat))
  refine gv (ov_gtr_i (q := 0) rfl rfl) rfl (zD (zL (e' := [(0, _), (1, _), (2, _), (14, _), (17, _), (94, _), (95, _), (96, _), (18, _), (19, _), (109, _)]) ⟨rfl, rfl, rfl, rfl, rfl, rfl, rfl, rfl, rfl, rfl, rfl, trivial⟩ (zB ?_)))
  refine zH rfl (fun hc109 => ?_) (fun hc109 => ?_)
  ·
   have hpos : 0 < sgnQ (arZ (gl L f) i j) := by rw [← hA f (by omega)]; exact hc109
   refine gc_exit (zZ (gx_here (zB (zA (gv (zV (q := 1) rfl rfl (by omega) (by omega)) rfl (mv rfl rfl (zD ?_)))))))
   refine yJ ((f + 1), (OU.set f (-1 : Int)), s17_7, cs_10, h2) ?_ ?_ ⟨rfl, rfl, rfl, rfl, rfl, rfl, rfl, rfl, trivial⟩ rfl rfl
   ·
    refine ⟨(hmmf.trans hh2), ?_⟩
    replace rl_11 := rl_11.mono hh2
    refine ⟨rl_11, ?_⟩
    exact ⟨⟨⟨by omega, by rw [List.length_set]; exact hf2⟩, set_next (f := pZ L i j) (by omega) hf3 (by unfold pZ; rw [if_pos hpos])⟩, one_step (Q := fun u => ¬ lostP L i j u) hf4 (fun e => e.1 hpos)⟩
   dsimp only
   omega
  have hneg : ¬ 0 < sgnQ (arZ (gl L f) i j) := by rw [← hA f (by omega)]; exact hc109
  refine zI (zB (zC (zC (zA (mv rfl rfl ?_)))))
  replace rL := rL.mono hh2
  refine gv (ov_len_sr Tryz.underlying27 rfl rL) rfl (mv (v := vI (0)) rfl rfl (zD (zB (zQ ?_))))
  refine gc_loop (ι := Nat × List Int × Value × List Value × Mem) (fun (g, OV, s17_12, cs_13, mg) => MLe h2 mg ∧ (RL rpI mg cs_13 OV ∧ (((g ≤ L.length ∧ OV.length = L.length) ∧ ∀ u, u < f → OV.getD u (0 : Int) = pZ L i j u)) ∧ OV.getD f (0 : Int) = parTo L i j f g)) (fun (g, OV, s17_12, cs_13, mg) => [(0, vL), (1, vI ↑i), (2, vI ↑j), (14, s14_1), (17, s17_12), (18, vI ↑f), (19, v100), (94, vL), (95, vI (↑(L).length : Int)), (96, vI ↑f), (110, vL), (111, vI (↑(L).length : Int)), (112, vI ↑g)]) (fun (g, OV, s17_12, cs_13, mg) => [.gs 3 1 s17_12 OV.length cs_13]) (fun (g, OV, s17_12, cs_13, mg) => mg) (fun (g, OV, s17_12, cs_13, mg) => L.length - g) (0, (OU.set f (-1 : Int)), s17_7, cs_10, h2) ?_ ⟨rfl, rfl, rfl, rfl, rfl, rfl, rfl, rfl, rfl, rfl, rfl, rfl, rfl, trivial⟩ rfl rfl ?_
  ·
   refine ⟨MLe.refl _, ?_⟩
   replace rl_11 := rl_11.mono hh2
   refine ⟨rl_11, ?_⟩
   exact ⟨⟨⟨by omega, by rw [List.length_set]; exact hf2⟩, set_keep (f := pZ L i j) (by omega) hf3⟩, by rw [set_at (by omega)]; rfl⟩
  intro x hx
  obtain ⟨g, OV, s17_12, cs_13, mg⟩ := x
  obtain ⟨hmmg, hinv⟩ := hx
  show GC _ _ _ _ _ _ [(0, vL), (1, vI ↑i), (2, vI ↑j), (14, s14_1), (17, s17_12), (18, vI ↑f), (19, v100), (94, vL), (95, vI (↑(L).length : Int)), (96, vI ↑f), (110, vL), (111, vI (↑(L).length : Int)), (112, vI ↑g)] [.gs 3 1 s17_12 OV.length cs_13] mg
  obtain ⟨rl_14, hinv⟩ := hinv
  obtain ⟨⟨⟨hg1, hg2⟩, hg3⟩, hg4⟩ := hinv
  have hpr := par_range L i j f g
  refine zC (zA (gv (yH rfl rfl) rfl (zD (zB (zC ?_)))))
  refine zH rfl (fun hc113 => ?_) (fun hc113 => ?_)
  ·
   refine zI (zB (zC (zQ (zC (zA (mv rfl rfl ?_))))))
   replace rL := rL.mono hmmg
   refine gl_x (F := fun v_ => AtP (rpS (rpT (rpQ k))) mg v_ (L.getD g [])) (ox_idx_s [] g Tryz.underlying27 ty36 rfl rfl rL rfl (by omega) (show 0 < 1 from by decide)) mem0 rfl ?_
   intro v115 r115
   refine gl_x (F := fun v_ => (rpS (rpT (rpQ k))).Is mg v_ (L.getD g [])) (yK ty36 rfl r115) mem0 rfl ?_
   intro v116 r116
   refine asg rfl rfl (asg rfl rfl (zD (zB (zC ?_))))
   refine gc_draw 38 _ [] [(0, .q), (1, .q), (2, .q), (3, .q), (4, .c), (5, .q), (6, .q), (7, .q), (8, .q), (9, .q), (10, .q), (12, .q), (13, .q), (11, .c), (14, .q), (15, .q), (16, .q), (17, .q), (18, .q), (19, .q), (20, .q), (21, .q), (22, .q), (23, .q), (24, .q), (25, .q), (26, .q), (27, .q), (28, .q), (29, .q), (30, .q), (31, .q), (32, .q), (33, .q), (34, .c), (35, .q), (36, .q), (37, .q)] mixed (fun x hx => by cases hx) (chk_of [0, 0, 3, 4, 8, 16, 48, 64, 64, 64, 64, 1984, 64, 4160, 10304, 16448, 34816, 65536, 65536, 458752, 589824, 1114112, 2162688, 4194304, 4194304, 29360128, 37748736, 4194304, 4194304, 4194304, 809500672, 1077936128, 2285895680, 4299161600, 8661237760, 17184063488, 34363998208, 68719542272] [274877906943, 274877906943, 274877906940, 274877906939, 274877906935, 274877906927, 274877906911, 274877906879, 274877906879, 274877906879, 274877906879, 274877904959, 274877906879, 274877902783, 274877896639, 274877890495, 274877874175, 274877841407, 274877841407, 274877448191, 274877317119, 274876792831, 274875744255, 274873712639, 274873712639, 274848546815, 274840158207, 274873712639, 274873712639, 274873712639, 274068406271, 273799970815, 272592011263, 270578745343, 266216669183, 257693843455, 240513908735, 206158364671] (by kernel_rfl)) (fun x hx => by cases hx) (fun r hr => hr) (w_q rfl (fun h' L' hh hR => zF rfl) rfl (w_q rfl (fun h' L' hh hR => zF rfl) rfl ?_))
   replace rs_6 := rs_6.mono (hh2.trans hmmg)
   refine w_qx (F := fun v_ => AtP (rpQ 1000000000) mg v_ (AR.getD g (0 : Rat))) rfl (ox_idx_s (0 : Rat) g Tryz.underlying96 ty31 rfl rfl rs_6 rfl (by omega) (show 0 < 3 from by decide)) mem0 rfl ?_
   intro v119 r119
   refine w_qx (F := fun v_ => (rpQ 1000000000).Is mg v_ (AR.getD g (0 : Rat))) rfl (yK ty31 rfl r119) mem0 rfl ?_
   intro v120 r120
   refine w_c rfl ?_
   refine yO (vs := [_]) Tryz.call78 ⟨rfl, trivial⟩ (fun w hs => o_rat_sign hs r120 (by decide)) rfl ?_
   intro v121 h3 hh3 r121
   obtain rfl : v121 = vI (sgnQ (AR.getD g (0 : Rat))) := r121
   have hsr121 := sgnQ_range (AR.getD g (0 : Rat))
   refine w_q rfl (fun h' L' hh hR => ov_gtr_i (q := 0) rfl rfl) rfl (w_q rfl (fun h' L' hh hR => zF rfl) rfl ?_)
   refine prop_cases ((0 : Int) < (sgnQ (AR.getD g (0 : Rat)))) (fun hg_15 => ?_) (fun hg_15 => ?_)
   ·
    rw [yI hg_15]
    refine w_q_on rfl rfl rfl (fun h' L' hh hR => zF rfl) rfl (w_q_on rfl rfl rfl (fun h' L' hh hR => zF rfl) rfl (w_q_on rfl rfl rfl (fun h' L' hh hR => zF rfl) rfl (w_q_on rfl rfl rfl (fun h' L' hh hR => zF rfl) rfl (w_q_on rfl rfl rfl (fun h' L' hh hR => zF rfl) rfl ?_))))
    replace r100 := r100.mono ((hh2.trans hmmg).trans hh3)
    refine w_q_on rfl rfl rfl (fun h' L' hh hR => ov_len_sr Tryz.underlying36 rfl (r100.mono hh)) rfl ?_
    refine w_c rfl (s_on rfl rfl ?_)
    replace r116 := r116.mono hh3
    refine yO (vs := [_, _, _, _]) Tryz.call79 ⟨rfl, rfl, rfl, rfl, trivial⟩ (fun w hs => o_pl_within (i := i) (j := j) hs r116 r100 (by first | omega | exact Nat.le_trans (Nat.not_lt.1 (hE _ (by omega))) (by decide) | exact Nat.le_trans (hF _ (by omega)) (by decide)) (by first | omega | exact Nat.le_trans (Nat.not_lt.1 (hE _ (by omega))) (by decide) | exact Nat.le_trans (hF _ (by omega)) (by decide)) (by first | omega | exact Nat.le_trans (Nat.not_lt.1 (hE _ (by omega))) (by decide) | exact Nat.le_trans (hF _ (by omega)) (by decide)) (by first | omega | exact Nat.le_trans (Nat.not_lt.1 (hE _ (by omega))) (by decide) | exact Nat.le_trans (hF _ (by omega)) (by decide)) (by first | omega | exact Nat.le_trans (Nat.not_lt.1 (hE _ (by omega))) (by decide) | exact Nat.le_trans (hF _ (by omega)) (by decide))) rfl ?_
    intro v128 h4 hh4 r128
    obtain rfl : v128 = vI (wiZ (L.getD g []) (L.getD f []) i j) := r128
    have hwz128 := with_range (L.getD g []) (L.getD f []) i j (L.getD f []).length
    refine w_q_on rfl rfl rfl (fun h' L' hh hR => ov_eql_i rfl rfl) rfl (w_q rfl (fun h' L' hh hR => yF rfl rfl) rfl (w_q rfl (fun h' L' hh hR => zF rfl) rfl ?_))
    refine prop_cases ((wiZ (L.getD g []) (L.getD f []) i j) = (↑((L.getD f [])).length : Int)) (fun hg_16 => ?_) (fun hg_16 => ?_)
    ·
     rw [yI hg_16]
     refine w_q_on rfl rfl rfl (fun h' L' hh hR => zF rfl) rfl (w_q_on rfl rfl rfl (fun h' L' hh hR => zF rfl) rfl (w_q_on rfl rfl rfl (fun h' L' hh hR => (ov_index_os f (hR _ (.head _)) Tryz.underlying22 Tryz.sizeOf3 rfl rfl rfl (by first | omega | (simp only [List.length_append, List.length_cons, List.length_nil, List.length_replicate, List.length_set]; omega)) (by decide)).cv (show _ = elemPtr 1 s17_12 ((f * 1 + 0)) from congrArg (elemPtr 1 s17_12) (by rfl))) rfl ?_))
     replace rl_14 := rl_14.mono (hh3.trans hh4)
     refine w_qx_on (F := fun v_ => rpI.Is h4 v_ (OV.getD f (0 : Int))) rfl rfl rfl (ox_load_os ty3 (Pc.arr (Pc.here _) (0 : Int) f (by first | omega | (simp only [List.length_append, List.length_cons, List.length_nil, List.length_replicate, List.length_set]; omega))) rfl (by decide) rfl rl_14 rfl) (mem1 (.head _)) rfl ?_
     intro v137 r137
     obtain ⟨rfl, hl137, hu137⟩ := of_i r137
     refine w_q_on rfl rfl rfl (fun h' L' hh hR => yH (q := 0) rfl rfl) rfl (w_q_on rfl rfl rfl (fun h' L' hh hR => zF rfl) rfl ?_)
     refine prop_cases ((OV.getD f (0 : Int)) < (0 : Int)) (fun hg_17 => ?_) (fun hg_17 => ?_)
     ·
      rw [yI hg_17]
      refine zM rfl rfl rfl rfl rfl (zM rfl rfl rfl rfl rfl (zM rfl rfl rfl rfl rfl (zM rfl rfl rfl rfl rfl (zM rfl rfl rfl rfl rfl (zM rfl rfl rfl rfl rfl (zM rfl rfl rfl rfl rfl (zM rfl rfl rfl rfl rfl (zM rfl rfl rfl rfl rfl (zM rfl rfl rfl rfl rfl (zM rfl rfl rfl rfl rfl ?_))))))))))
      refine w_c rfl (s_off rfl rfl rfl rfl (zM rfl rfl rfl rfl rfl (w_q_on rfl rfl rfl (fun h' L' hh hR => yF rfl rfl) rfl (w_q rfl (fun h' L' hh hR => yF rfl rfl) rfl (w_nil (zL (e' := [(0, _), (1, _), (2, _), (14, _), (17, _), (18, _), (19, _), (94, _), (95, _), (96, _), (110, _), (111, _), (112, _), (20, _), (154, _)]) ⟨rfl, rfl, rfl, rfl, rfl, rfl, rfl, rfl, rfl, rfl, rfl, rfl, rfl, rfl, rfl, trivial⟩ (zB (gc_cond_t rfl (zA (mv rfl rfl (mv rfl rfl (mv rfl rfl (gv ((ov_index_os f (.head _) Tryz.underlying22 Tryz.sizeOf3 rfl rfl rfl (by first | omega | (simp only [List.length_append, List.length_cons, List.length_nil, List.length_replicate, List.length_set]; omega)) (by decide)).cv (show _ = elemPtr 1 s17_12 ((f * 1 + 0)) from congrArg (elemPtr 1 s17_12) (by rfl))) rfl ?_)))))))))))))
      refine gl_updos (A := []) (F := fun c_ => RL rpI h4 c_ (OV.set f (↑g : Int))) (upd_os Tryz.sizeOf3 (Pc.arr (Pc.here _) (0 : Int) f (by first | omega | (simp only [List.length_append, List.length_cons, List.length_nil, List.length_replicate, List.length_set]; omega))) rfl (by decide) rfl rfl rl_14 (is_i (by omega) (by omega)) rfl) ?_
      intro cs_18 rl_19
      refine zD (gq_in (zB (zA (gv (zV (q := 1) rfl rfl (by omega) (by omega)) rfl (mv rfl rfl (zD ?_))))))
      refine yJ ((g + 1), (OV.set f (↑g : Int)), s17_12, cs_18, h4) ?_ ?_ ⟨rfl, rfl, rfl, rfl, rfl, rfl, rfl, rfl, rfl, rfl, rfl, rfl, rfl, trivial⟩ rfl rfl
      ·
       refine ⟨((hmmg.trans hh3).trans hh4), ?_⟩
       refine ⟨rl_19, ?_⟩
       exact ⟨⟨⟨by omega, by rw [List.length_set]; exact hg2⟩, set_keep (f := pZ L i j) (by omega) hg3⟩, by rw [set_at (by omega)]; exact (if_pos ⟨⟨by rw [← hA g (by omega)]; assumption, by assumption⟩, .inl (by omega)⟩).symm⟩
      dsimp only
      omega
     rw [yA hg_17]
     refine w_q_on rfl rfl rfl (fun h' L' hh hR => zF rfl) rfl (w_q_on rfl rfl rfl (fun h' L' hh hR => zF rfl) rfl ?_)
     replace rs_6 := rs_6.mono (hh3.trans hh4)
     refine w_qx_on (F := fun v_ => AtP (rpQ 1000000000) h4 v_ (AR.getD g (0 : Rat))) rfl rfl rfl (ox_idx_s (0 : Rat) g Tryz.underlying96 ty31 rfl rfl rs_6 rfl (by omega) (show 0 < 3 from by decide)) mem0 rfl ?_
     intro v142 r142
     refine w_qx_on (F := fun v_ => (rpQ 1000000000).Is h4 v_ (AR.getD g (0 : Rat))) rfl rfl rfl (yK ty31 rfl r142) mem0 rfl ?_
     intro v143 r143
     refine w_q_on rfl rfl rfl (fun h' L' hh hR => zF rfl) rfl (w_q_on rfl rfl rfl (fun h' L' hh hR => zF rfl) rfl (w_q_on rfl rfl rfl (fun h' L' hh hR => zF rfl) rfl (w_q_on rfl rfl rfl (fun h' L' hh hR => (ov_index_os f (hR _ (.head _)) Tryz.underlying22 Tryz.sizeOf3 rfl rfl rfl (by first | omega | (simp only [List.length_append, List.length_cons, List.length_nil, List.length_replicate, List.length_set]; omega)) (by decide)).cv (show _ = elemPtr 1 s17_12 ((f * 1 + 0)) from congrArg (elemPtr 1 s17_12) (by rfl))) rfl (w_qx_on (F := fun v_ => rpI.Is h4 v_ (OV.getD f (0 : Int))) rfl rfl rfl (ox_load_os ty3 (Pc.arr (Pc.here _) (0 : Int) f (by first | omega | (simp only [List.length_append, List.length_cons, List.length_nil, List.length_replicate, List.length_set]; omega))) rfl (by decide) rfl rl_14 rfl) (mem1 (.head _)) rfl ?_))))
     intro v148 r148
     obtain ⟨rfl, hl148, hu148⟩ := of_i r148
     refine w_qx_on (F := fun v_ => AtP (rpQ 1000000000) h4 v_ (AR.getD ((parTo L i j f g).toNat) (0 : Rat))) rfl rfl rfl (ox_idx_s (0 : Rat) ((parTo L i j f g).toNat) Tryz.underlying96 ty31 rfl rfl rs_6 (by omega) (by omega) (show 0 < 3 from by decide)) mem0 rfl ?_
     intro v149 r149
     refine w_qx_on (F := fun v_ => (rpQ 1000000000).Is h4 v_ (AR.getD ((parTo L i j f g).toNat) (0 : Rat))) rfl rfl rfl (yK ty31 rfl r149) mem0 rfl ?_
     intro v150 r150
     refine w_c rfl (s_on rfl rfl ?_)
     refine yO (vs := [_, _]) Tryz.call68 ⟨rfl, rfl, trivial⟩ (fun w hs => o_rat_cmp hs r143 r150 (by decide)) rfl ?_
     intro v151 h5 hh5 r151
     obtain rfl : v151 = vI (cmpQ (AR.getD g (0 : Rat)) (AR.getD ((parTo L i j f g).toNat) (0 : Rat))) := r151
     have hcr151 := cmpQ_range (AR.getD g (0 : Rat)) (AR.getD ((parTo L i j f g).toNat) (0 : Rat))
     refine w_q_on rfl rfl rfl (fun h' L' hh hR => yH (q := 0) rfl rfl) rfl (w_q_on rfl rfl rfl (fun h' L' hh hR => yD rfl rfl) rfl (w_q rfl (fun h' L' hh hR => yF rfl rfl) rfl (w_nil (zL (e' := [(0, _), (1, _), (2, _), (14, _), (17, _), (18, _), (19, _), (94, _), (95, _), (96, _), (110, _), (111, _), (112, _), (20, _), (154, _)]) ⟨rfl, rfl, rfl, rfl, rfl, rfl, rfl, rfl, rfl, rfl, rfl, rfl, rfl, rfl, rfl, trivial⟩ (zB ?_)))))
     refine zH rfl (fun hc154 => ?_) (fun hc154 => ?_)
     ·
      refine zA (mv rfl rfl (mv rfl rfl (mv rfl rfl (gv ((ov_index_os f (.head _) Tryz.underlying22 Tryz.sizeOf3 rfl rfl rfl (by first | omega | (simp only [List.length_append, List.length_cons, List.length_nil, List.length_replicate, List.length_set]; omega)) (by decide)).cv (show _ = elemPtr 1 s17_12 ((f * 1 + 0)) from congrArg (elemPtr 1 s17_12) (by rfl))) rfl ?_))))
      replace rl_14 := rl_14.mono hh5
      refine gl_updos (A := []) (F := fun c_ => RL rpI h5 c_ (OV.set f (↑g : Int))) (upd_os Tryz.sizeOf3 (Pc.arr (Pc.here _) (0 : Int) f (by first | omega | (simp only [List.length_append, List.length_cons, List.length_nil, List.length_replicate, List.length_set]; omega))) rfl (by decide) rfl rfl rl_14 (is_i (by omega) (by omega)) rfl) ?_
      intro cs_20 rl_21
      refine zD (gq_in (zB (zA (gv (zV (q := 1) rfl rfl (by omega) (by omega)) rfl (mv rfl rfl (zD ?_))))))
      refine yJ ((g + 1), (OV.set f (↑g : Int)), s17_12, cs_20, h5) ?_ ?_ ⟨rfl, rfl, rfl, rfl, rfl, rfl, rfl, rfl, rfl, rfl, rfl, rfl, rfl, trivial⟩ rfl rfl
      ·
       refine ⟨(((hmmg.trans hh3).trans hh4).trans hh5), ?_⟩
       refine ⟨rl_21, ?_⟩
       exact ⟨⟨⟨by omega, by rw [List.length_set]; exact hg2⟩, set_keep (f := pZ L i j) (by omega) hg3⟩, by rw [set_at (by omega)]; exact (if_pos ⟨⟨by rw [← hA g (by omega)]; assumption, by assumption⟩, .inr (by rw [← hA g (by omega), ← hA (parTo L i j f g).toNat (by omega)]; exact hc154)⟩).symm⟩
      dsimp only
      omega
     refine zI (gq_in (zB (zA (gv (zV (q := 1) rfl rfl (by omega) (by omega)) rfl (mv rfl rfl (zD ?_))))))
     refine yJ ((g + 1), OV, s17_12, cs_13, h5) ?_ ?_ ⟨rfl, rfl, rfl, rfl, rfl, rfl, rfl, rfl, rfl, rfl, rfl, rfl, rfl, trivial⟩ rfl rfl
     ·
      refine ⟨(((hmmg.trans hh3).trans hh4).trans hh5), ?_⟩
      replace rl_14 := rl_14.mono hh5
      refine ⟨rl_14, ?_⟩
      exact ⟨⟨⟨by omega, hg2⟩, hg3⟩, by rw [hg4]; exact (if_neg (fun e => e.2.elim (fun h => by omega) (fun h => hc154 (by rw [hA g (by omega), hA (parTo L i j f g).toNat (by omega)]; exact h)))).symm⟩
     dsimp only
     omega
    rw [yA hg_16]
    refine zM rfl rfl rfl rfl rfl (zM rfl rfl rfl rfl rfl (zM rfl rfl rfl rfl rfl (zM rfl rfl rfl rfl rfl (zM rfl rfl rfl rfl rfl (zM rfl rfl rfl rfl rfl (w_q_offu rfl rfl rfl rfl (w_q_offu rfl rfl rfl rfl (w_q_offu rfl rfl rfl rfl (w_q_offu rfl rfl rfl rfl (w_q_offu rfl rfl rfl rfl (w_q_offu rfl rfl rfl rfl (w_q_offu rfl rfl rfl rfl (w_q_offu rfl rfl rfl rfl ?_)))))))))))))
    refine w_q_offu rfl rfl rfl rfl (w_q_offu rfl rfl rfl rfl (w_q_offu rfl rfl rfl rfl ?_))
    refine w_c rfl (s_offu rfl rfl rfl (w_q_offu rfl rfl rfl rfl (zM rfl rfl rfl rfl rfl (w_q rfl (fun h' L' hh hR => yD rfl rfl) rfl (w_nil (zL (e' := [(0, _), (1, _), (2, _), (14, _), (17, _), (18, _), (19, _), (94, _), (95, _), (96, _), (110, _), (111, _), (112, _), (20, _), (154, _)]) ⟨rfl, rfl, rfl, rfl, rfl, rfl, rfl, rfl, rfl, rfl, rfl, rfl, rfl, rfl, rfl, trivial⟩ (zB (gc_cond_f rfl (zI (gq_in (zB (zA (gv (zV (q := 1) rfl rfl (by omega) (by omega)) rfl ?_)))))))))))))
    refine mv rfl rfl (zD ?_)
    refine yJ ((g + 1), OV, s17_12, cs_13, h4) ?_ ?_ ⟨rfl, rfl, rfl, rfl, rfl, rfl, rfl, rfl, rfl, rfl, rfl, rfl, rfl, trivial⟩ rfl rfl
    ·
     refine ⟨((hmmg.trans hh3).trans hh4), ?_⟩
     replace rl_14 := rl_14.mono (hh3.trans hh4)
     refine ⟨rl_14, ?_⟩
     exact ⟨⟨⟨by omega, hg2⟩, hg3⟩, by rw [hg4]; exact (if_neg (fun e => absurd e.1.2 (by assumption))).symm⟩
    dsimp only
    omega
   rw [yA hg_15]
   refine zM rfl rfl rfl rfl rfl (zM rfl rfl rfl rfl rfl (zM rfl rfl rfl rfl rfl (zM rfl rfl rfl rfl rfl (zM rfl rfl rfl rfl rfl (zM rfl rfl rfl rfl rfl ?_)))))
   refine w_c rfl (s_off rfl rfl rfl rfl (zM rfl rfl rfl rfl rfl (w_q rfl (fun h' L' hh hR => yD rfl rfl) rfl (w_q rfl (fun h' L' hh hR => zF rfl) rfl (zM rfl rfl rfl rfl rfl (zM rfl rfl rfl rfl rfl (zM rfl rfl rfl rfl rfl (zM rfl rfl rfl rfl rfl (zM rfl rfl rfl rfl rfl (zM rfl rfl rfl rfl rfl (w_q_offu rfl rfl rfl rfl (w_q_offu rfl rfl rfl rfl (w_q_offu rfl rfl rfl rfl ?_)))))))))))))
   refine w_q_offu rfl rfl rfl rfl (w_q_offu rfl rfl rfl rfl (w_q_offu rfl rfl rfl rfl (w_q_offu rfl rfl rfl rfl (w_q_offu rfl rfl rfl rfl (w_q_offu rfl rfl rfl rfl (w_q_offu rfl rfl rfl rfl (w_q_offu rfl rfl rfl rfl ?_)))))))
   refine w_c rfl (s_offu rfl rfl rfl (w_q_offu rfl rfl rfl rfl (zM rfl rfl rfl rfl rfl (w_q rfl (fun h' L' hh hR => yD rfl rfl) rfl (w_nil (zL (e' := [(0, _), (1, _), (2, _), (14, _), (17, _), (18, _), (19, _), (94, _), (95, _), (96, _), (110, _), (111, _), (112, _), (20, _), (154, _)]) ⟨rfl, rfl, rfl, rfl, rfl, rfl, rfl, rfl, rfl, rfl, rfl, rfl, rfl, rfl, rfl, trivial⟩ (zB (gc_cond_f rfl (zI (gq_in (zB (zA (gv (zV (q := 1) rfl rfl (by omega) (by omega)) rfl ?_)))))))))))))
   refine mv rfl rfl (zD ?_)
   refine yJ ((g + 1), OV, s17_12, cs_13, h3) ?_ ?_ ⟨rfl, rfl, rfl, rfl, rfl, rfl, rfl, rfl, rfl, rfl, rfl, rfl, rfl, trivial⟩ rfl rfl
   ·
    refine ⟨(hmmg.trans hh3), ?_⟩
    replace rl_14 := rl_14.mono hh3
    refine ⟨rl_14, ?_⟩
    exact ⟨⟨⟨by omega, hg2⟩, hg3⟩, by rw [hg4]; exact (if_neg (fun e => absurd e.1.1 (by rw [← hA g (by omega)]; assumption))).symm⟩
   dsimp only
   omega
  have eg : g = L.length := by omega
  refine gc_exit (zZ (zZ (gx_here (zB (zC (zA (mv rfl rfl (mv rfl rfl (gv ((ov_index_os f (.head _) Tryz.underlying22 Tryz.sizeOf3 rfl rfl rfl (by first | omega | (simp only [List.length_append, List.length_cons, List.length_nil, List.length_replicate, List.length_set]; omega)) (by decide)).cv (show _ = elemPtr 1 s17_12 ((f * 1 + 0)) from congrArg (elemPtr 1 s17_12) (by rfl))) rfl (gl_x (F := fun v_ => rpI.Is mg v_ (OV.getD f (0 : Int))) (ox_load_os ty3 (Pc.arr (Pc.here _) (0 : Int) f (by first | omega | (simp only [List.length_append, List.length_cons, List.length_nil, List.length_replicate, List.length_set]; omega))) rfl (by decide) rfl rl_14 rfl) (mem1 (.head _)) rfl ?_))))))))))
  intro v163 r163
  obtain ⟨rfl, hl163, hu163⟩ := of_i r163
  refine gv (yH (q := 0) rfl rfl) rfl (zD (zL (e' := [(0, _), (1, _), (2, _), (14, _), (17, _), (94, _), (95, _), (96, _), (164, _)]) ⟨rfl, rfl, rfl, rfl, rfl, rfl, rfl, rfl, rfl, trivial⟩ (zB ?_)))
  refine zH rfl (fun hc164 => ?_) (fun hc164 => ?_)
  ·
   refine zC (zA (asg rfl rfl (asg (v := vI (33)) rfl rfl (zD (zB (zN (gr_in (zO (zO (gr_in (zO (gq_body2 rfl rfl rfl ?_))))))))))))
   refine ⟨_, ?_, (Rp.Is.cast (is_nil _) (by exact (show nestE L i j = 33 ∧ nestL L i j = [] from nest_33 (by omega) hE hS hX (.inl ⟨f, by omega, hneg, by rw [← eg, ← hg4]; exact hc164⟩)).2.symm))⟩
   rw [(show nestE L i j = 33 ∧ nestL L i j = [] from nest_33 (by omega) hE hS hX (.inl ⟨f, by omega, hneg, by rw [← eg, ← hg4]; exact hc164⟩)).1]
  refine zI (gq_in (zB (zA (gv (zV (q := 1) rfl rfl (by omega) (by omega)) rfl (mv rfl rfl (zD ?_))))))
  refine yJ ((f + 1), OV, s17_12, cs_13, mg) ?_ ?_ ⟨rfl, rfl, rfl, rfl, rfl, rfl, rfl, rfl, trivial⟩ rfl rfl
  ·
   refine ⟨((hmmf.trans hh2).trans hmmg), ?_⟩
   refine ⟨rl_14, ?_⟩
   exact ⟨⟨⟨by omega, hg2⟩, one_step (Q := fun u => OV.getD u (0 : Int) = pZ L i j u) hg3 (by rw [hg4, eg]; unfold pZ; rw [if_neg hneg])⟩, one_step (Q := fun u => ¬ lostP L i j u) hf4 (fun e => hc164 (by rw [hg4, eg]; exact e.2))⟩
  dsimp only
  omega
 have hL : ∀ u, u < L.length → ¬ lostP L i j u := fun u hu => hf4 u (by omega)
 have hO : ∀ u, u < L.length → OU.getD u (0 : Int) = pZ L i j u := fun u hu => hf3 u (by omega)
 refine gc_exit (zZ (zZ (gx_here (zB (zC (zC (zA (mv rfl rfl (gl_freezex (A := []) (ρ := rpI) rl_9 ?_)))))))))
 intro h2 hh2 rs_22
 replace rL := rL.mono (hmmf.trans hh2)
 refine gv (ov_len_sr Tryz.underlying27 rfl rL) rfl (mv (v := vI (0)) rfl rfl (zD (zB (zQ ?_))))
 refine gc_loop (ι := Nat × Mem) (fun (v, mvv) => MLe h2 mvv ∧ (v ≤ L.length ∧ ∀ a b, a < v → b < L.length → ¬ sibP L i j a b)) (fun (v, mvv) => [(0, vL), (1, vI ↑i), (2, vI ↑j), (17, s17_7), (166, vL), (167, vI (↑(L).length : Int)), (168, vI ↑v)]) (fun (v, mvv) => []) (fun (v, mvv) => mvv) (fun (v, mvv) => L.length - v) (0, h2) ?_ ⟨rfl, rfl, rfl, rfl, rfl, rfl, rfl, trivial⟩ rfl rfl ?_
 ·
  refine ⟨MLe.refl _, ?_⟩
  exact ⟨by omega, fun a b h => by omega⟩
 intro x hx
 obtain ⟨v, mvv⟩ := x
 obtain ⟨hmmvv, hinv⟩ := hx
 show GC _ _ _ _ _ _ [(0, vL), (1, vI ↑i), (2, vI ↑j), (17, s17_7), (166, vL), (167, vI (↑(L).length : Int)), (168, vI ↑v)] [] mvv
 obtain ⟨hv1, hv2⟩ := hinv
 refine zC (zA (gv (yH rfl rfl) rfl (zD (zB (zC ?_)))))
 refine zH rfl (fun hc169 => ?_) (fun hc169 => ?_)
 ·
  refine zI (zB (zC (zQ (zC (zA (mv rfl rfl ?_))))))
  replace rL := rL.mono hmmvv
  refine gl_x (F := fun v_ => AtP (rpS (rpT (rpQ k))) mvv v_ (L.getD v [])) (ox_idx_s [] v Tryz.underlying27 ty36 rfl rfl rL rfl (by omega) (show 0 < 1 from by decide)) mem0 rfl ?_
  intro v171 r171
  refine gl_x (F := fun v_ => (rpS (rpT (rpQ k))).Is mvv v_ (L.getD v [])) (yK ty36 rfl r171) mem0 rfl ?_
  intro v172 r172
  refine asg rfl rfl (asg rfl rfl (zD (zB (zC (zA (mv rfl rfl (gv (ov_len_sr Tryz.underlying27 rfl rL) rfl (mv (v := vI (0)) rfl rfl (zD (zB (zQ ?_)))))))))))
  refine gc_loop (ι := Nat × Mem) (fun (w, mw) => MLe mvv mw ∧ (w ≤ L.length ∧ ∀ b, b < w → ¬ sibP L i j v b)) (fun (w, mw) => [(0, vL), (1, vI ↑i), (2, vI ↑j), (17, s17_7), (22, vI ↑v), (23, v172), (166, vL), (167, vI (↑(L).length : Int)), (168, vI ↑v), (173, vL), (174, vI (↑(L).length : Int)), (175, vI ↑w)]) (fun (w, mw) => []) (fun (w, mw) => mw) (fun (w, mw) => L.length - w) (0, mvv) ?_ ⟨rfl, rfl, rfl, rfl, rfl, rfl, rfl, rfl, rfl, rfl, rfl, rfl, trivial⟩ rfl rfl ?_
  ·
   refine ⟨MLe.refl _, ?_⟩
   exact ⟨by omega, fun b h => by omega⟩
  intro x hx
  obtain ⟨w, mw⟩ := x
  obtain ⟨hmmw, hinv⟩ := hx
  show GC _ _ _ _ _ _ [(0, vL), (1, vI ↑i), (2, vI ↑j), (17, s17_7), (22, vI ↑v), (23, v172), (166, vL), (167, vI (↑(L).length : Int)), (168, vI ↑v), (173, vL), (174, vI (↑(L).length : Int)), (175, vI ↑w)] [] mw
  obtain ⟨hw1, hw2⟩ := hinv
  refine zC (zA (gv (yH rfl rfl) rfl (zD (zB (zC ?_)))))
  refine zH rfl (fun hc176 => ?_) (fun hc176 => ?_)
  ·
   refine zI (zB (zC (zQ (zC (zA (mv rfl rfl ?_))))))
   replace rL := rL.mono hmmw
   refine gl_x (F := fun v_ => AtP (rpS (rpT (rpQ k))) mw v_ (L.getD w [])) (ox_idx_s [] w Tryz.underlying27 ty36 rfl rfl rL rfl (by omega) (show 0 < 1 from by decide)) mem0 rfl ?_
   intro v178 r178
   refine gl_x (F := fun v_ => (rpS (rpT (rpQ k))).Is mw v_ (L.getD w [])) (yK ty36 rfl r178) mem0 rfl ?_
   intro v179 r179
   refine asg rfl rfl (asg rfl rfl (zD (zB (zC ?_))))
   refine gc_draw 29 _ [] [(0, .q), (1, .q), (2, .q), (3, .q), (4, .q), (5, .q), (6, .q), (7, .q), (8, .q), (9, .q), (10, .q), (11, .q), (12, .q), (13, .q), (14, .q), (15, .q), (16, .q), (17, .q), (18, .q), (19, .q), (20, .q), (21, .q), (22, .q), (23, .q), (24, .q), (25, .q), (26, .c), (27, .q), (28, .q)] mixed (fun x hx => by cases hx) (chk_of [0, 0, 3, 4, 8, 8, 56, 72, 136, 264, 520, 1024, 1024, 7168, 9216, 1024, 1024, 99328, 132096, 279552, 525312, 1049600, 2097152, 2097152, 2097152, 2097152, 65011712, 69206016, 136314880] [536870911, 536870911, 536870908, 536870907, 536870903, 536870903, 536870855, 536870839, 536870775, 536870647, 536870399, 536869887, 536869887, 536863743, 536861695, 536869887, 536869887, 536771583, 536738815, 536591359, 536345599, 535822335, 534773759, 534773759, 534773759, 534773759, 471859199, 467664895, 400556031] (by kernel_rfl)) (fun x hx => by cases hx) (fun r hr => hr) (w_q rfl (fun h' L' hh hR => zF rfl) rfl (w_q rfl (fun h' L' hh hR => zF rfl) rfl (w_q rfl (fun h' L' hh hR => ov_neq_i rfl rfl) rfl (w_q rfl (fun h' L' hh hR => zF rfl) rfl ?_))))
   refine prop_cases ((↑w : Int) ≠ (↑v : Int)) (fun hg_23 => ?_) (fun hg_23 => ?_)
   ·
    rw [yI hg_23]
    refine w_q_on rfl rfl rfl (fun h' L' hh hR => zF rfl) rfl (w_q_on rfl rfl rfl (fun h' L' hh hR => zF rfl) rfl ?_)
    replace rs_22 := rs_22.mono (hmmvv.trans hmmw)
    refine w_qx_on (F := fun v_ => AtP rpI mw v_ (OU.getD v (0 : Int))) rfl rfl rfl (ox_idx_s (0 : Int) v Tryz.underlying22 ty3 rfl rfl rs_22 rfl (by omega) (show 0 < 1 from by decide)) mem0 rfl ?_
    intro v186 r186
    refine w_qx_on (F := fun v_ => rpI.Is mw v_ (OU.getD v (0 : Int))) rfl rfl rfl (yK ty3 rfl r186) mem0 rfl ?_
    intro v187 r187
    obtain ⟨rfl, hl187, hu187⟩ := of_i r187
    refine w_q_on rfl rfl rfl (fun h' L' hh hR => ov_geq_i (q := 0) rfl rfl) rfl (w_q rfl (fun h' L' hh hR => yF rfl rfl) rfl (w_q rfl (fun h' L' hh hR => zF rfl) rfl ?_))
    refine prop_cases ((0 : Int) ≤ (OU.getD v (0 : Int))) (fun hg_24 => ?_) (fun hg_24 => ?_)
    ·
     rw [yI hg_24]
     refine w_q_on rfl rfl rfl (fun h' L' hh hR => zF rfl) rfl (w_q_on rfl rfl rfl (fun h' L' hh hR => zF rfl) rfl (w_qx_on (F := fun v_ => AtP rpI mw v_ (OU.getD w (0 : Int))) rfl rfl rfl (ox_idx_s (0 : Int) w Tryz.underlying22 ty3 rfl rfl rs_22 rfl (by omega) (show 0 < 1 from by decide)) mem0 rfl ?_))
     intro v193 r193
     refine w_qx_on (F := fun v_ => rpI.Is mw v_ (OU.getD w (0 : Int))) rfl rfl rfl (yK ty3 rfl r193) mem0 rfl ?_
     intro v194 r194
     obtain ⟨rfl, hl194, hu194⟩ := of_i r194
     refine w_q_on rfl rfl rfl (fun h' L' hh hR => zF rfl) rfl (w_q_on rfl rfl rfl (fun h' L' hh hR => zF rfl) rfl (w_qx_on (F := fun v_ => AtP rpI mw v_ (OU.getD v (0 : Int))) rfl rfl rfl (ox_idx_s (0 : Int) v Tryz.underlying22 ty3 rfl rfl rs_22 rfl (by omega) (show 0 < 1 from by decide)) mem0 rfl ?_))
     intro v197 r197
     refine w_qx_on (F := fun v_ => rpI.Is mw v_ (OU.getD v (0 : Int))) rfl rfl rfl (yK ty3 rfl r197) mem0 rfl ?_
     intro v198 r198
     obtain ⟨rfl, hl198, hu198⟩ := of_i r198
     refine w_q_on rfl rfl rfl (fun h' L' hh hR => ov_eql_i rfl rfl) rfl (w_q rfl (fun h' L' hh hR => yF rfl rfl) rfl (w_q rfl (fun h' L' hh hR => zF rfl) rfl ?_))
     refine prop_cases ((OU.getD w (0 : Int)) = (OU.getD v (0 : Int))) (fun hg_25 => ?_) (fun hg_25 => ?_)
     ·
      rw [yI hg_25]
      refine w_q_on rfl rfl rfl (fun h' L' hh hR => zF rfl) rfl (w_q_on rfl rfl rfl (fun h' L' hh hR => zF rfl) rfl (w_q_on rfl rfl rfl (fun h' L' hh hR => zF rfl) rfl (w_q_on rfl rfl rfl (fun h' L' hh hR => zF rfl) rfl ?_)))
      refine w_c rfl (s_on rfl rfl ?_)
      replace r172 := r172.mono hmmw
      refine yO (vs := [_, _, _, _]) Tryz.call79 ⟨rfl, rfl, rfl, rfl, trivial⟩ (fun w hs => o_pl_within (i := i) (j := j) hs r179 r172 (by first | omega | exact Nat.le_trans (Nat.not_lt.1 (hE _ (by omega))) (by decide) | exact Nat.le_trans (hF _ (by omega)) (by decide)) (by first | omega | exact Nat.le_trans (Nat.not_lt.1 (hE _ (by omega))) (by decide) | exact Nat.le_trans (hF _ (by omega)) (by decide)) (by first | omega | exact Nat.le_trans (Nat.not_lt.1 (hE _ (by omega))) (by decide) | exact Nat.le_trans (hF _ (by omega)) (by decide)) (by first | omega | exact Nat.le_trans (Nat.not_lt.1 (hE _ (by omega))) (by decide) | exact Nat.le_trans (hF _ (by omega)) (by decide)) (by first | omega | exact Nat.le_trans (Nat.not_lt.1 (hE _ (by omega))) (by decide) | exact Nat.le_trans (hF _ (by omega)) (by decide))) rfl ?_
      intro v206 h3 hh3 r206
      obtain rfl : v206 = vI (wiZ (L.getD w []) (L.getD v []) i j) := r206
      have hwz206 := with_range (L.getD w []) (L.getD v []) i j (L.getD v []).length
      refine w_q_on rfl rfl rfl (fun h' L' hh hR => ov_gtr_i (q := 0) rfl rfl) rfl (w_q rfl (fun h' L' hh hR => yF rfl rfl) rfl (w_nil (zL (e' := [(0, _), (1, _), (2, _), (17, _), (22, _), (23, _), (166, _), (167, _), (168, _), (173, _), (174, _), (175, _), (208, _)]) ⟨rfl, rfl, rfl, rfl, rfl, rfl, rfl, rfl, rfl, rfl, rfl, rfl, rfl, trivial⟩ (zB ?_))))
      refine zH rfl (fun hc208 => ?_) (fun hc208 => ?_)
      ·
       have hsib : sibP L i j v w := ⟨⟨⟨by omega, by rw [← hO v (by omega)]; assumption⟩, by rw [← hO w (by omega), ← hO v (by omega)]; assumption⟩, hc208⟩
       refine gc_keep (e' := []) trivial (zC (zA (asg rfl rfl (asg (v := vI (33)) rfl rfl (zD (zB (zN (gr_in (zO (zO (gr_in (gr_in (zO ?_)))))))))))))
       refine zO (gr_in (zO (gq_body2 rfl rfl rfl ?_)))
       refine ⟨_, ?_, (Rp.Is.cast (is_nil _) (by exact (show nestE L i j = 33 ∧ nestL L i j = [] from nest_33 (by omega) hE hS hX (.inr ⟨v, w, by omega, by omega, hsib⟩)).2.symm))⟩
       rw [(show nestE L i j = 33 ∧ nestL L i j = [] from nest_33 (by omega) hE hS hX (.inr ⟨v, w, by omega, by omega, hsib⟩)).1]
      refine zI (gq_in (zB (zA (gv (zV (q := 1) rfl rfl (by omega) (by omega)) rfl (mv rfl rfl (zD ?_))))))
      refine yJ ((w + 1), h3) ?_ ?_ ⟨rfl, rfl, rfl, rfl, rfl, rfl, rfl, rfl, rfl, rfl, rfl, rfl, trivial⟩ rfl rfl
      ·
       refine ⟨(hmmw.trans hh3), ?_⟩
       exact ⟨by omega, one_step (Q := fun b => ¬ sibP L i j v b) hw2 (fun e => hc208 e.2)⟩
      dsimp only
      omega
     rw [yA hg_25]
     refine zM rfl rfl rfl rfl rfl (zM rfl rfl rfl rfl rfl (zM rfl rfl rfl rfl rfl (zM rfl rfl rfl rfl rfl ?_)))
     refine w_c rfl (s_off rfl rfl rfl rfl (zM rfl rfl rfl rfl rfl (w_q rfl (fun h' L' hh hR => yD rfl rfl) rfl (w_nil (zL (e' := [(0, _), (1, _), (2, _), (17, _), (22, _), (23, _), (166, _), (167, _), (168, _), (173, _), (174, _), (175, _), (208, _)]) ⟨rfl, rfl, rfl, rfl, rfl, rfl, rfl, rfl, rfl, rfl, rfl, rfl, rfl, trivial⟩ (zB (gc_cond_f rfl (zI (gq_in (zB (zA (gv (zV (q := 1) rfl rfl (by omega) (by omega)) rfl (mv rfl rfl ?_)))))))))))))
     refine zD ?_
     refine yJ ((w + 1), mw) ?_ ?_ ⟨rfl, rfl, rfl, rfl, rfl, rfl, rfl, rfl, rfl, rfl, rfl, rfl, trivial⟩ rfl rfl
     ·
      refine ⟨hmmw, ?_⟩
      exact ⟨by omega, one_step (Q := fun b => ¬ sibP L i j v b) hw2 (fun e => absurd e.1.2 (by rw [← hO w (by omega), ← hO v (by omega)]; assumption))⟩
     dsimp only
     omega
    rw [yA hg_24]
    refine zM rfl rfl rfl rfl rfl (zM rfl rfl rfl rfl rfl (zM rfl rfl rfl rfl rfl (zM rfl rfl rfl rfl rfl (zM rfl rfl rfl rfl rfl (zM rfl rfl rfl rfl rfl (zM rfl rfl rfl rfl rfl (zM rfl rfl rfl rfl rfl (zM rfl rfl rfl rfl rfl (w_q rfl (fun h' L' hh hR => yD rfl rfl) rfl (w_q rfl (fun h' L' hh hR => zF rfl) rfl (zM rfl rfl rfl rfl rfl (zM rfl rfl rfl rfl rfl (zM rfl rfl rfl rfl rfl ?_)))))))))))))
    refine zM rfl rfl rfl rfl rfl ?_
    refine w_c rfl (s_off rfl rfl rfl rfl (zM rfl rfl rfl rfl rfl (w_q rfl (fun h' L' hh hR => yD rfl rfl) rfl (w_nil (zL (e' := [(0, _), (1, _), (2, _), (17, _), (22, _), (23, _), (166, _), (167, _), (168, _), (173, _), (174, _), (175, _), (208, _)]) ⟨rfl, rfl, rfl, rfl, rfl, rfl, rfl, rfl, rfl, rfl, rfl, rfl, rfl, trivial⟩ (zB (gc_cond_f rfl (zI (gq_in (zB (zA (gv (zV (q := 1) rfl rfl (by omega) (by omega)) rfl (mv rfl rfl ?_)))))))))))))
    refine zD ?_
    refine yJ ((w + 1), mw) ?_ ?_ ⟨rfl, rfl, rfl, rfl, rfl, rfl, rfl, rfl, rfl, rfl, rfl, rfl, trivial⟩ rfl rfl
    ·
     refine ⟨hmmw, ?_⟩
     exact ⟨by omega, one_step (Q := fun b => ¬ sibP L i j v b) hw2 (fun e => absurd e.1.1.2 (by rw [← hO v (by omega)]; assumption))⟩
    dsimp only
    omega
   rw [yA hg_23]
   refine zM rfl rfl rfl rfl rfl (zM rfl rfl rfl rfl rfl (zM rfl rfl rfl rfl rfl (zM rfl rfl rfl rfl rfl (zM rfl rfl rfl rfl rfl (w_q rfl (fun h' L' hh hR => yD rfl rfl) rfl (w_q rfl (fun h' L' hh hR => zF rfl) rfl (zM rfl rfl rfl rfl rfl (zM rfl rfl rfl rfl rfl (zM rfl rfl rfl rfl rfl (zM rfl rfl rfl rfl rfl (zM rfl rfl rfl rfl rfl (zM rfl rfl rfl rfl rfl (zM rfl rfl rfl rfl rfl ?_)))))))))))))
   refine zM rfl rfl rfl rfl rfl (zM rfl rfl rfl rfl rfl (w_q rfl (fun h' L' hh hR => yD rfl rfl) rfl (w_q rfl (fun h' L' hh hR => zF rfl) rfl (zM rfl rfl rfl rfl rfl (zM rfl rfl rfl rfl rfl (zM rfl rfl rfl rfl rfl (zM rfl rfl rfl rfl rfl ?_)))))))
   refine w_c rfl (s_off rfl rfl rfl rfl (zM rfl rfl rfl rfl rfl (w_q rfl (fun h' L' hh hR => yD rfl rfl) rfl (w_nil (zL (e' := [(0, _), (1, _), (2, _), (17, _), (22, _), (23, _), (166, _), (167, _), (168, _), (173, _), (174, _), (175, _), (208, _)]) ⟨rfl, rfl, rfl, rfl, rfl, rfl, rfl, rfl, rfl, rfl, rfl, rfl, rfl, trivial⟩ (zB (gc_cond_f rfl (zI (gq_in (zB (zA (gv (zV (q := 1) rfl rfl (by omega) (by omega)) rfl (mv rfl rfl ?_)))))))))))))
   refine zD ?_
   refine yJ ((w + 1), mw) ?_ ?_ ⟨rfl, rfl, rfl, rfl, rfl, rfl, rfl, rfl, rfl, rfl, rfl, rfl, trivial⟩ rfl rfl
   ·
    refine ⟨hmmw, ?_⟩
    exact ⟨by omega, one_step (Q := fun b => ¬ sibP L i j v b) hw2 (fun e => absurd e.1.1.1 (by omega))⟩
   dsimp only
   omega
  refine gc_exit (zZ (zZ (gx_here (gq_in (zB (zA (gv (zV (q := 1) rfl rfl (by omega) (by omega)) rfl (mv rfl rfl (zD ?_)))))))))
  refine yJ ((v + 1), mw) ?_ ?_ ⟨rfl, rfl, rfl, rfl, rfl, rfl, rfl, trivial⟩ rfl rfl
  ·
   refine ⟨(hmmvv.trans hmmw), ?_⟩
   exact ⟨by omega, rect_step hv2 hw2 (by omega)⟩
  dsimp only
  omega
 have hB : ∀ a b, a < L.length → b < L.length → ¬ sibP L i j a b := fun a b ha hb => hv2 a b (by omega) hb
 refine gc_exit (zZ (zZ (gx_here (zB (zC (zA (mv rfl rfl (asg rfl rfl (asg (v := vI (0)) rfl rfl (zD (zB (zN (gq_body2 rfl rfl rfl ?_)))))))))))))
 replace rs_22 := rs_22.mono hmmvv
 refine ⟨_, ?_, (Rp.Is.cast rs_22 (by exact (show nestE L i j = 0 ∧ nestL L i j = OU from nest_0 (by omega) hE hS hX hL hB hf2 hO).2.symm))⟩
 rw [(show nestE L i j = 0 ∧ nestL L i j = OU from nest_0 (by omega) hE hS hX hL hB hf2 hO).1]

theorem o_pg_nest {w0 : World} {h0 : Mem}  (hs : MLe h0 (mem w0)) {k : Nat} {vL : Value} {L : (List (List (T3 Rat)))} (rL : (rpS (rpS (rpT (rpQ k)))).Is h0 vL L) (hcd0 : k ≤ 10000)  :
    Calls Tryz.prog 29 #[vL] w0 (Ret w0 h0 (fun h r => ∃ u0, r = .tuple #[u0, vI (nestE L 0 1)] ∧ (rpS rpI).Is h u0 (nestL L 0 1))) := by
 refine zR (n := 8) (e := [(0, vL)]) (vs := [vL]) Tryz.func29 rfl rfl (Nat.le_of_ble_eq_true rfl) hs ⟨rfl, trivial⟩ (zC (zA (asg rfl rfl (asg (v := vI (0)) rfl rfl (zD (zB (zC (zA (mv rfl rfl ?_)))))))))
 refine zJ (vs := [_, vI (0), vI (1)]) rfl rfl rfl rfl Tryz.call53 ⟨rfl, rfl, rfl, trivial⟩ (fun w hs => o_pl_nest (i := 0) (j := 1) hs rL (by decide) (by decide) (by omega)) ?_
 intro v5 h1 hh1 r5
 obtain ⟨v5_0, rfl, r5_0⟩ := r5
 change (rpS rpI).Is h1 v5_0 (nestL L 0 1) at r5_0
 refine gv (yB (vs := [_, _]) rfl rfl) rfl (gv (yB (vs := [_, _]) rfl rfl) rfl (asg rfl rfl (asg rfl rfl (zD (zB (zN (gq_body2 rfl rfl rfl ?_)))))))
 refine ⟨_, ?_, r5_0⟩
 rfl

end Go.Proofs.YtfpjclgbieppeaaGreat


namespace Bk
set_option linter.unusedVariables false
set_option linter.unusedSimpArgs false
open Classical
theorem cuts_R {a b : List Pt} {p q : Nat} : 2 ≤ touchR (edgeA a 0 1 p) (edgeB a 0 1 p) (edgeA b 0 1 q) (edgeB b 0 1 q) ↔ cutsP a b 0 1 p q := by
  unfold cutsP
  rw [touch_eq]
  omega
theorem cuts_comm {a b : List Pt} {p q : Nat} (h : cutsP a b 0 1 p q) : cutsP b a 0 1 q p := by
  unfold cutsP at *
  rw [touch_comm]
  exact h
theorem crosses_comm {a b : List Pt} (h : crossesP a b 0 1) : crossesP b a 0 1 := by
  obtain ⟨p, q, hp, hq, h⟩ := h
  exact ⟨q, p, hq, hp, cuts_comm h⟩
theorem mid_r (a b : Pt) : pr (T3.mk (midQ a.x b.x) (midQ a.y b.y) (0 : Rat)) 0 1 = mid2 (pr a 0 1) (pr b 0 1) := rfl
theorem fine_sgn {l : List Pt} (hf : fineL l) (hs : simP l 0 1) : ¬ sgnQ (arZ l 0 1) = 0 := fun e => hf hs (sgn_zero.1 e)
theorem fine_gl {L : List (List Pt)} (h : ∀ x, x ∈ L → fineL x) (m : Nat) : fineL (gl L m) := by
  show fineL (L.getD m [])
  rw [List.getD_eq_getElem?_getD]
  rcases Nat.lt_or_ge m L.length with h1 | h1
  · rw [List.getElem?_eq_getElem h1]
    exact h _ (List.getElem_mem h1)
  · rw [List.getElem?_eq_none h1]
    exact fun e => absurd e.1 (by decide)
theorem pZ_neg {L : List (List Pt)} {m : Nat} (h : sgnQ (areaTo (gl L m) 0 1 (gl L m).length) < 0) : parTo L 0 1 m L.length = pZ L 0 1 m := by
  have h1 : sgnQ (arZ (gl L m) 0 1) < 0 := h
  unfold pZ
  rw [if_neg (by omega)]
theorem pos_of {L : List (List Pt)} {m : Nat} (hf : ∀ x, x ∈ L → fineL x) (hs : simP (gl L m) 0 1) (h : ¬ sgnQ (areaTo (gl L m) 0 1 (gl L m).length) < 0) : 0 < sgnQ (arZ (gl L m) 0 1) := by
  have h1 : ¬ sgnQ (arZ (gl L m) 0 1) < 0 := h
  have h2 := fine_sgn (fine_gl hf m) hs
  omega
theorem pZ_pos {L : List (List Pt)} {m : Nat} (hf : ∀ x, x ∈ L → fineL x) (hs : simP (gl L m) 0 1) (h : ¬ sgnQ (areaTo (gl L m) 0 1 (gl L m).length) < 0) : -1 = pZ L 0 1 m := by
  unfold pZ
  rw [if_pos (pos_of hf hs h)]
theorem fill_next {O : List Int} {m : Nat} {f : Nat → Int} {p : Int} (hl : O.length = m) (h : ∀ q, q < m → O.getD q 0 = f q) (hp : p = f m) : (O ++ [p]).length = m + 1 ∧ ∀ q, q < m + 1 → (O ++ [p]).getD q 0 = f q := by
  refine ⟨by rw [List.length_append, hl]; rfl, fun q hq => ?_⟩
  rw [List.getD_eq_getElem?_getD]
  by_cases e : q = m
  · subst e
    rw [List.getElem?_append_right (by omega), hl, Nat.sub_self]
    exact hp
  · rw [List.getElem?_append_left (by omega), ← List.getD_eq_getElem?_getD]
    exact h q (by omega)
theorem no_sib {L : List (List Pt)} {a : Nat} (h : 0 < sgnQ (arZ (gl L a) 0 1)) : ¬ lostP L 0 1 a ∧ ∀ b, b < L.length → ¬ sibP L 0 1 a b := by
  refine ⟨fun e => e.1 h, fun b _ e => ?_⟩
  have h1 := e.1.1.2
  have h2 : pZ L 0 1 a = -1 := by unfold pZ; rw [if_pos h]
  omega
theorem ge_pos {L : List (List Pt)} {m : Nat} (hf : ∀ x, x ∈ L → fineL x) (hs : simP (gl L m) 0 1) (h : 0 ≤ sgnQ (areaTo (gl L m) 0 1 (gl L m).length)) : 0 < sgnQ (arZ (gl L m) 0 1) := pos_of hf hs (by omega)
theorem lost_of {L : List (List Pt)} {a : Nat} {o : Int} (h : ¬ 0 ≤ sgnQ (areaTo (gl L a) 0 1 (gl L a).length)) (ho : o = pZ L 0 1 a) (h1 : o < 0) : lostP L 0 1 a := by
  have h2 : sgnQ (arZ (gl L a) 0 1) < 0 := Int.not_le.1 h
  refine ⟨by omega, ?_⟩
  rw [ho] at h1
  unfold pZ at h1
  rw [if_neg (by omega)] at h1
  exact h1
theorem not_lost {L : List (List Pt)} {a : Nat} {o : Int} (ho : o = pZ L 0 1 a) (h1 : ¬ o < 0) : ¬ lostP L 0 1 a := fun e => by
  rw [ho] at h1
  unfold pZ at h1
  rw [if_neg e.1] at h1
  exact h1 e.2
theorem nestL_len (L : List (List Pt)) (i j : Nat) : (nestL L i j).length ≤ 16 := by
  unfold nestL
  split
  · rename_i h
    rw [List.length_map, List.length_range]
    refine Classical.byContradiction fun h1 => ?_
    rw [(nest_2 (i := i) (j := j) (.inl (by omega))).1] at h
    exact absurd h (by decide)
  · exact Nat.zero_le _
theorem getD_fine {M : List (List (List Pt))} (h : ∀ X, X ∈ M → ∀ x, x ∈ X → fineL x) (i : Nat) : ∀ x, x ∈ M.getD i [] → fineL x := by
  rw [List.getD_eq_getElem?_getD]
  rcases Nat.lt_or_ge i M.length with h1 | h1
  · rw [List.getElem?_eq_getElem h1]
    exact h _ (List.getElem_mem h1)
  · rw [List.getElem?_eq_none h1]
    exact fun x hx => absurd hx List.not_mem_nil
theorem fine_rep {n : Nat} : ∀ x, x ∈ List.replicate n ([] : List Pt) → fineL x := fun x hx => by
  rw [List.eq_of_mem_replicate hx]
  exact fun e => absurd e.1 (by decide)
end Bk


namespace Go.Proofs.YtfpjclgbieppeaaGreat
open Bk Go
set_option linter.unusedVariables false
set_option linter.unusedSimpArgs false
set_option maxRecDepth 10000

theorem o_r5_crossed {w0 : World} {h0 : Mem}  (hs : MLe h0 (mem w0)) {k : Nat} {va : Value} {a : (List (T3 Rat))} (ra : (rpS (rpT (rpQ k))).Is h0 va a) {vb : Value} {b : (List (T3 Rat))} (rb : (rpS (rpT (rpQ k))).Is h0 vb b) (hcd0 : k ≤ 5000) (hcd1 : a.length ≤ 1000) (hcd2 : b.length ≤ 1000)  :
    Calls Tryz.prog 54 #[va, vb] w0 (Ret w0 h0 (fun _ r => r = vB (crossesP a b 0 1))) := by
 refine zR (n := 45) (e := [(0, va), (1, vb)]) (vs := [va, vb]) Tryz.func54 rfl rfl (Nat.le_of_ble_eq_true rfl) hs ⟨rfl, rfl, trivial⟩ (zC (zA (asg rfl rfl (zD (zB (zC (zC (zA (asg (v := vI (0)) rfl rfl (zD (zB (zQ ?_))))))))))))
 refine gc_loop (ι := Nat × Mem) (fun (p, mp) => MLe h0 mp ∧ (p ≤ a.length ∧ ∀ u v, u < p → v < b.length → ¬ cutsP a b 0 1 u v)) (fun (p, mp) => [(0, va), (1, vb), (5, vI ↑p)]) (fun (p, mp) => []) (fun (p, mp) => mp) (fun (p, mp) => a.length - p) (0, h0) ?_ ⟨rfl, rfl, rfl, trivial⟩ rfl rfl ?_
 ·
  refine ⟨MLe.refl _, ?_⟩
  exact ⟨by omega, fun u v h => by omega⟩
 intro x hx
 obtain ⟨p, mp⟩ := x
 obtain ⟨hmmp, hinv⟩ := hx
 show GC _ _ _ _ _ _ [(0, va), (1, vb), (5, vI ↑p)] [] mp
 obtain ⟨hp1, hp2⟩ := hinv
 refine zC (zC (zA (mv rfl rfl (mv rfl rfl ?_))))
 replace ra := ra.mono hmmp
 refine gv (ov_len_sr Tryz.underlying36 rfl ra) rfl (gv (yH rfl rfl) rfl (zD (zB ?_)))
 refine zH rfl (fun hc10 => ?_) (fun hc10 => ?_)
 ·
  refine zI (zB (zC (zQ (zC (zA (asg (v := vI (0)) rfl rfl (zD (zB (zQ ?_)))))))))
  refine gc_loop (ι := Nat × Mem) (fun (q, mq) => MLe mp mq ∧ (q ≤ b.length ∧ ∀ v, v < q → ¬ cutsP a b 0 1 p v)) (fun (q, mq) => [(0, va), (1, vb), (5, vI ↑p), (6, vI ↑q)]) (fun (q, mq) => []) (fun (q, mq) => mq) (fun (q, mq) => b.length - q) (0, mp) ?_ ⟨rfl, rfl, rfl, rfl, trivial⟩ rfl rfl ?_
  ·
   refine ⟨MLe.refl _, ?_⟩
   exact ⟨by omega, fun v h => by omega⟩
  intro x hx
  obtain ⟨q, mq⟩ := x
  obtain ⟨hmmq, hinv⟩ := hx
  show GC _ _ _ _ _ _ [(0, va), (1, vb), (5, vI ↑p), (6, vI ↑q)] [] mq
  obtain ⟨hq1, hq2⟩ := hinv
  refine zC (zC (zA (mv rfl rfl (mv rfl rfl ?_))))
  replace rb := rb.mono (hmmp.trans hmmq)
  refine gv (ov_len_sr Tryz.underlying36 rfl rb) rfl (gv (yH rfl rfl) rfl (zD (zB ?_)))
  refine zH rfl (fun hc16 => ?_) (fun hc16 => ?_)
  ·
   refine zI (zB (zC (zQ (zC ?_))))
   refine gc_draw 26 _ [] [(0, .q), (1, .q), (2, .q), (3, .q), (4, .q), (5, .q), (6, .q), (7, .q), (8, .q), (9, .q), (10, .q), (11, .q), (12, .q), (13, .q), (14, .q), (15, .q), (16, .q), (17, .q), (18, .q), (19, .q), (20, .q), (21, .q), (22, .q), (23, .q), (24, .c), (25, .q)] mixed (fun x hx => by cases hx) (chk_of [0, 0, 3, 4, 0, 0, 32, 0, 128, 320, 528, 1024, 0, 0, 12288, 16384, 0, 0, 131072, 0, 524288, 1310720, 2162688, 4194304, 8423432, 16777216] [67108863, 67108863, 67108860, 67108859, 67108863, 67108863, 67108831, 67108863, 67108735, 67108543, 67108335, 67107839, 67108863, 67108863, 67096575, 67092479, 67108863, 67108863, 66977791, 67108863, 66584575, 65798143, 64946175, 62914559, 58685431, 50331647] (by kernel_rfl)) (fun x hx => by cases hx) (fun r hr => hr) (w_q rfl (fun h' L' hh hR => zF rfl) rfl (w_q rfl (fun h' L' hh hR => zF rfl) rfl ?_))
   replace ra := ra.mono hmmq
   refine w_qx (F := fun v_ => AtP (rpT (rpQ k)) mq v_ (a.getD p (T3.mk (0 : Rat) (0 : Rat) (0 : Rat)))) rfl (ox_idx_s (T3.mk (0 : Rat) (0 : Rat) (0 : Rat)) p Tryz.underlying36 ty33 rfl rfl ra rfl (by omega) (show 0 < 9 from by decide)) mem0 rfl ?_
   intro v21 r21
   refine w_qx (F := fun v_ => (rpT (rpQ k)).Is mq v_ (a.getD p (T3.mk (0 : Rat) (0 : Rat) (0 : Rat)))) rfl (yK ty33 rfl r21) mem0 rfl ?_
   intro v22 r22
   refine w_q rfl (fun h' L' hh hR => zF rfl) rfl (w_q rfl (fun h' L' hh hR => zF rfl) rfl (w_q rfl (fun h' L' hh hR => zV (q := 1) rfl rfl (by omega) (by omega)) rfl (w_q rfl (fun h' L' hh hR => zF rfl) rfl (w_q rfl (fun h' L' hh hR => ov_len_sr Tryz.underlying36 rfl (ra.mono hh)) rfl (w_q rfl (fun h' L' hh hR => ov_rem_i rfl rfl (by omega) (by omega)) rfl (w_qx (F := fun v_ => AtP (rpT (rpQ k)) mq v_ (a.getD ((p + 1) % a.length) (T3.mk (0 : Rat) (0 : Rat) (0 : Rat)))) rfl (ox_idx_s (T3.mk (0 : Rat) (0 : Rat) (0 : Rat)) ((p + 1) % a.length) Tryz.underlying36 ty33 rfl rfl ra (by first | rfl | (push_cast; rfl)) (by exact Nat.mod_lt _ (by omega)) (show 0 < 9 from by decide)) mem0 rfl ?_))))))
   intro v29 r29
   refine w_qx (F := fun v_ => (rpT (rpQ k)).Is mq v_ (a.getD ((p + 1) % a.length) (T3.mk (0 : Rat) (0 : Rat) (0 : Rat)))) rfl (yK ty33 rfl r29) mem0 rfl ?_
   intro v30 r30
   refine w_q rfl (fun h' L' hh hR => zF rfl) rfl (w_q rfl (fun h' L' hh hR => zF rfl) rfl (w_qx (F := fun v_ => AtP (rpT (rpQ k)) mq v_ (b.getD q (T3.mk (0 : Rat) (0 : Rat) (0 : Rat)))) rfl (ox_idx_s (T3.mk (0 : Rat) (0 : Rat) (0 : Rat)) q Tryz.underlying36 ty33 rfl rfl rb rfl (by omega) (show 0 < 9 from by decide)) mem0 rfl ?_))
   intro v33 r33
   refine w_qx (F := fun v_ => (rpT (rpQ k)).Is mq v_ (b.getD q (T3.mk (0 : Rat) (0 : Rat) (0 : Rat)))) rfl (yK ty33 rfl r33) mem0 rfl ?_
   intro v34 r34
   refine w_q rfl (fun h' L' hh hR => zF rfl) rfl (w_q rfl (fun h' L' hh hR => zF rfl) rfl (w_q rfl (fun h' L' hh hR => zV (q := 1) rfl rfl (by omega) (by omega)) rfl (w_q rfl (fun h' L' hh hR => zF rfl) rfl (w_q rfl (fun h' L' hh hR => ov_len_sr Tryz.underlying36 rfl (rb.mono hh)) rfl (w_q rfl (fun h' L' hh hR => ov_rem_i rfl rfl (by omega) (by omega)) rfl (w_qx (F := fun v_ => AtP (rpT (rpQ k)) mq v_ (b.getD ((q + 1) % b.length) (T3.mk (0 : Rat) (0 : Rat) (0 : Rat)))) rfl (ox_idx_s (T3.mk (0 : Rat) (0 : Rat) (0 : Rat)) ((q + 1) % b.length) Tryz.underlying36 ty33 rfl rfl rb (by first | rfl | (push_cast; rfl)) (by exact Nat.mod_lt _ (by omega)) (show 0 < 9 from by decide)) mem0 rfl ?_))))))
   intro v41 r41
   refine w_qx (F := fun v_ => (rpT (rpQ k)).Is mq v_ (b.getD ((q + 1) % b.length) (T3.mk (0 : Rat) (0 : Rat) (0 : Rat)))) rfl (yK ty33 rfl r41) mem0 rfl ?_
   intro v42 r42
   refine w_c rfl ?_
   refine yO (vs := [_, _, _, _]) Tryz.call51 ⟨rfl, rfl, rfl, rfl, trivial⟩ (fun w hs => o_r5_touch hs r22 r30 r34 r42 (by omega)) rfl ?_
   intro v43 h1 hh1 r43
   obtain rfl : v43 = vI (touchR (pr (a.getD p (T3.mk (0 : Rat) (0 : Rat) (0 : Rat))) 0 1) (pr (a.getD ((p + 1) % a.length) (T3.mk (0 : Rat) (0 : Rat) (0 : Rat))) 0 1) (pr (b.getD q (T3.mk (0 : Rat) (0 : Rat) (0 : Rat))) 0 1) (pr (b.getD ((q + 1) % b.length) (T3.mk (0 : Rat) (0 : Rat) (0 : Rat))) 0 1)) := r43
   refine w_q rfl (fun h' L' hh hR => ov_geq_i (q := 2) rfl rfl) rfl (w_nil (zL (e' := [(0, _), (1, _), (5, _), (6, _), (44, _)]) ⟨rfl, rfl, rfl, rfl, rfl, trivial⟩ (zB ?_)))
   refine zH rfl (fun hc44 => ?_) (fun hc44 => ?_)
   ·
    refine zC (zA (asg rfl rfl (zD (zB (zN (gr_in (zO (zO (gr_in (gr_in (zO (zO (gr_in ?_)))))))))))))
    refine zO (zW rfl rfl ?_)
    exact (yI ⟨p, q, by omega, by omega, (cuts_R.1 hc44)⟩).symm
   refine zI (gq_in (zB (zA (mv rfl rfl (gv (zV (q := 1) rfl rfl (by omega) (by omega)) rfl (asg rfl rfl (zD ?_)))))))
   refine yJ ((q + 1), h1) ?_ ?_ ⟨rfl, rfl, rfl, rfl, trivial⟩ rfl rfl
   ·
    refine ⟨(hmmq.trans hh1), ?_⟩
    exact ⟨by omega, row_step (n := 0) (Q := cutsP a b 0 1) hq2 (fun e => hc44 (cuts_R.2 e))⟩
   dsimp only
   omega
  refine gc_exit (zZ (zZ (gx_here (gq_in (zB (zA (mv rfl rfl (gv (zV (q := 1) rfl rfl (by omega) (by omega)) rfl (asg rfl rfl (zD ?_))))))))))
  refine yJ ((p + 1), mq) ?_ ?_ ⟨rfl, rfl, rfl, trivial⟩ rfl rfl
  ·
   refine ⟨(hmmp.trans hmmq), ?_⟩
   exact ⟨by omega, rect_step hp2 hq2 (by omega)⟩
  dsimp only
  omega
 refine gc_exit (zZ (zZ (gx_here (zB (zC (zA (asg rfl rfl (zD (zB (zN (zW rfl rfl ?_)))))))))))
 exact (yA (fun ⟨u, v, h1, h2, h3⟩ => hp2 u v (by omega) h2 h3)).symm

theorem o_r5_middle {w0 : World} {h0 : Mem}  (hs : MLe h0 (mem w0)) {k : Nat} {vp : Value} {p : (T3 Rat)} (rp : (rpT (rpQ k)).Is h0 vp p) {vq : Value} {q : (T3 Rat)} (rq : (rpT (rpQ k)).Is h0 vq q) (hcd0 : k ≤ 100000)  :
    Calls Tryz.prog 80 #[vp, vq] w0 (Ret w0 h0 (fun h r => (rpT (rpQ (2 * k + 2))).Is h r (T3.mk (midQ p.x q.x) (midQ p.y q.y) (0 : Rat)))) := by
 refine zR (n := 16) (e := [(0, vp), (1, vq)]) (vs := [vp, vq]) Tryz.func80 rfl rfl (Nat.le_of_ble_eq_true rfl) hs ⟨rfl, rfl, trivial⟩ (zC (zA (zP (new_boxx (ρ := (rpT (rpQ k))) rfl rp) rfl rfl rfl ?_)))
 intro v2 q2 hq2
 obtain ⟨b2, cs2, rfl, rfl, rb2⟩ := hq2
 refine zP (new_boxx (ρ := (rpT (rpQ k))) rfl rq) rfl rfl rfl ?_
 intro v3 q3 hq3
 obtain ⟨b3, cs3, rfl, rfl, rb3⟩ := hq3
 refine zP (new_allocx (ρ := (rpT (rpQ (2 * k + 2)))) (X := (T3.mk (0 : Rat) (0 : Rat) (0 : Rat))) info33 rfl rfl (zr_t (zr_q (by omega)))) rfl rfl rfl ?_
 intro v4 q4 hq4
 obtain ⟨b4, cs4, rfl, rfl, rb4⟩ := hq4
 refine zD (zB (zC ?_))
 refine gc_draw 11 _ [] [(0, .q), (1, .q), (2, .q), (3, .q), (5, .q), (6, .q), (7, .q), (8, .q), (4, .c), (9, .c), (10, .q), (11, .t)] mixed (fun x hx => by cases hx) (chk_of [0, 1, 0, 4, 10, 0, 32, 0, 128, 336, 528, 2047] [4095, 4094, 4095, 4091, 4085, 4095, 4063, 4095, 3967, 3775, 3567, 3071] (by kernel_rfl)) (fun x hx => by cases hx) (fun r hr => hr) (w_q rfl (fun h' L' hh hR => (zY (sz := 3) (q := 0) 0 Tryz.underlying33 Tryz.sizeOf31 rfl rfl rfl (by decide)).cv (show _ = vP b2 0 from congrArg (vP b2) (by rfl))) rfl (w_qx (F := fun v_ => (rpQ k).Is h0 v_ p.x) rfl (zE ty31 (Pc.tx (Pc.here _)) rfl rfl rb2 rfl) (mem1 (.tail _ (.tail _ (.head _)))) rfl ?_))
 intro v6 r6
 refine w_q rfl (fun h' L' hh hR => (zY (sz := 3) (q := 0) 0 Tryz.underlying33 Tryz.sizeOf31 rfl rfl rfl (by decide)).cv (show _ = vP b3 0 from congrArg (vP b3) (by rfl))) rfl (w_qx (F := fun v_ => (rpQ k).Is h0 v_ q.x) rfl (zE ty31 (Pc.tx (Pc.here _)) rfl rfl rb3 rfl) (mem1 (.tail _ (.head _))) rfl ?_)
 intro v8 r8
 refine w_q rfl (fun h' L' hh hR => (zY (sz := 3) (q := 1) 1 Tryz.underlying33 Tryz.sizeOf31 rfl rfl rfl (by decide)).cv (show _ = vP b2 3 from congrArg (vP b2) (by rfl))) rfl (w_qx (F := fun v_ => (rpQ k).Is h0 v_ p.y) rfl (zE ty31 (Pc.ty (Pc.here _)) rfl rfl rb2 rfl) (mem1 (.tail _ (.tail _ (.head _)))) rfl ?_)
 intro v11 r11
 refine w_q rfl (fun h' L' hh hR => (zY (sz := 3) (q := 1) 1 Tryz.underlying33 Tryz.sizeOf31 rfl rfl rfl (by decide)).cv (show _ = vP b3 3 from congrArg (vP b3) (by rfl))) rfl (w_qx (F := fun v_ => (rpQ k).Is h0 v_ q.y) rfl (zE ty31 (Pc.ty (Pc.here _)) rfl rfl rb3 rfl) (mem1 (.tail _ (.head _))) rfl ?_)
 intro v13 r13
 refine w_c rfl ?_
 refine yO (vs := [_, _]) Tryz.call101 ⟨rfl, rfl, trivial⟩ (fun w hs => o_rref_mid hs r6 r8 (by omega)) rfl ?_
 intro v9 h1 hh1 r9
 change (rpQ (k + k + 2)).Is h1 v9 (midQ p.x q.x) at r9
 replace r9 := Rp.Is.le r9 (Le.q (l := 2 * k + 2) (by omega))
 refine w_c rfl ?_
 replace r11 := r11.mono hh1
 replace r13 := r13.mono hh1
 refine yO (vs := [_, _]) Tryz.call101 ⟨rfl, rfl, trivial⟩ (fun w hs => o_rref_mid hs r11 r13 (by omega)) rfl ?_
 intro v14 h2 hh2 r14
 change (rpQ (k + k + 2)).Is h2 v14 (midQ p.y q.y) at r14
 replace r14 := Rp.Is.le r14 (Le.q (l := 2 * k + 2) (by omega))
 replace r9 := r9.mono hh2
 refine w_qx (F := fun v_ => (rpT (rpQ (2 * k + 2))).Is h2 v_ (T3.mk (midQ p.x q.x) (midQ p.y q.y) (0 : Rat))) rfl (ox_build_arr (ps' := [(0, _), (1, _)]) Tryz.underlying33 info33 rfl rfl Tryz.sizeOf31 ⟨rfl, rfl, rfl, rfl, trivial⟩ rfl (zr_t (zr_q (by omega))) (fx_one rfl (Pc.tx (Pc.here _)) r9 (fx_one rfl (Pc.ty (Pc.here _)) r14 fx_nil))) mem0 rfl ?_
 intro v15 r15
 replace rb4 := rb4.mono (hh1.trans hh2)
 refine w_tx_upd (A := []) (F := fun c_ => (rpT (rpQ (2 * k + 2))).R h2 c_ (T3.mk (midQ p.x q.x) (midQ p.y q.y) (0 : Rat))) rfl (upd_box Tryz.sizeOf33 (Pc.here _) rfl rfl rfl rb4 r15 rfl) ?_
 intro cs_1 rb_2
 refine w_nil (zL (e' := [(4, _)]) ⟨rfl, trivial⟩ (zB (zN (gq_exv (rv_o (t := 4) ty33 (.head _) rfl rb_2) ?_))))
 intro w_3 hvw_3 rr_4
 refine gq_res (fun E S => run_res1 rfl hvw_3 E S) ?_
 exact rr_4

theorem o_r5_within {w0 : World} {h0 : Mem}  (hs : MLe h0 (mem w0)) {k : Nat} {va : Value} {a : (List (T3 Rat))} (ra : (rpS (rpT (rpQ k))).Is h0 va a) {vb : Value} {b : (List (T3 Rat))} (rb : (rpS (rpT (rpQ k))).Is h0 vb b) (hcd0 : k ≤ 2000) (hcd1 : a.length ≤ 1000) (hcd2 : b.length ≤ 1000)  :
    Calls Tryz.prog 57 #[va, vb] w0 (Ret w0 h0 (fun _ r => r = vI (wiZ a b 0 1))) := by
 refine zR (n := 32) (e := [(0, va), (1, vb)]) (vs := [va, vb]) Tryz.func57 rfl rfl (Nat.le_of_ble_eq_true rfl) hs ⟨rfl, rfl, trivial⟩ (zC (zA (asg (v := vI (0)) rfl rfl (zD (zB (zC (zA (asg (v := vI (0)) rfl rfl (zD (zB (zC (zC (zA ?_)))))))))))))
 refine asg (v := vI (0)) rfl rfl (zD (zB (zQ ?_)))
 refine gc_loop (ι := Nat × Mem) (fun (m, ma) => MLe h0 ma ∧ (m ≤ b.length)) (fun (m, ma) => [(0, va), (1, vb), (5, vI (withTo a b 0 1 m)), (6, vI ↑m)]) (fun (m, ma) => []) (fun (m, ma) => ma) (fun (m, ma) => b.length - m) (0, h0) ?_ ⟨rfl, rfl, rfl, rfl, trivial⟩ rfl rfl ?_
 ·
  refine ⟨MLe.refl _, ?_⟩
  exact (by omega)
 intro x hx
 obtain ⟨m, ma⟩ := x
 obtain ⟨hmma, hinv⟩ := hx
 show GC _ _ _ _ _ _ [(0, va), (1, vb), (5, vI (withTo a b 0 1 m)), (6, vI ↑m)] [] ma
 have hm1 := hinv
 have hwr := with_range a b 0 1 m
 refine zC (zC (zA (mv rfl rfl (mv rfl rfl ?_))))
 replace rb := rb.mono hmma
 refine gv (ov_len_sr Tryz.underlying36 rfl rb) rfl (gv (yH rfl rfl) rfl (zD (zB ?_)))
 refine zH rfl (fun hc10 => ?_) (fun hc10 => ?_)
 ·
  refine zI (zB (zC (zQ (zC ?_))))
  refine gc_draw 16 _ [] [(0, .q), (1, .q), (2, .q), (3, .q), (4, .q), (5, .q), (6, .q), (7, .q), (8, .q), (9, .q), (10, .q), (11, .q), (12, .q), (13, .c), (14, .c), (15, .q)] mixed (fun x hx => by cases hx) (chk_of [0, 0, 0, 6, 8, 0, 0, 64, 0, 256, 640, 1056, 2048, 4112, 8193, 16384] [65535, 65535, 65535, 65529, 65527, 65535, 65535, 65471, 65535, 65279, 64895, 64479, 63487, 61423, 57342, 49151] (by kernel_rfl)) (fun x hx => by cases hx) (fun r hr => hr) (w_q rfl (fun h' L' hh hR => zF rfl) rfl (w_q rfl (fun h' L' hh hR => zF rfl) rfl (w_q rfl (fun h' L' hh hR => zF rfl) rfl (w_qx (F := fun v_ => AtP (rpT (rpQ k)) ma v_ (b.getD m (T3.mk (0 : Rat) (0 : Rat) (0 : Rat)))) rfl (ox_idx_s (T3.mk (0 : Rat) (0 : Rat) (0 : Rat)) m Tryz.underlying36 ty33 rfl rfl rb rfl (by omega) (show 0 < 9 from by decide)) mem0 rfl ?_))))
  intro v16 r16
  refine w_qx (F := fun v_ => (rpT (rpQ k)).Is ma v_ (b.getD m (T3.mk (0 : Rat) (0 : Rat) (0 : Rat)))) rfl (yK ty33 rfl r16) mem0 rfl ?_
  intro v17 r17
  refine w_q rfl (fun h' L' hh hR => zF rfl) rfl (w_q rfl (fun h' L' hh hR => zF rfl) rfl (w_q rfl (fun h' L' hh hR => zV (q := 1) rfl rfl (by omega) (by omega)) rfl (w_q rfl (fun h' L' hh hR => zF rfl) rfl (w_q rfl (fun h' L' hh hR => ov_len_sr Tryz.underlying36 rfl (rb.mono hh)) rfl (w_q rfl (fun h' L' hh hR => ov_rem_i rfl rfl (by omega) (by omega)) rfl (w_qx (F := fun v_ => AtP (rpT (rpQ k)) ma v_ (b.getD ((m + 1) % b.length) (T3.mk (0 : Rat) (0 : Rat) (0 : Rat)))) rfl (ox_idx_s (T3.mk (0 : Rat) (0 : Rat) (0 : Rat)) ((m + 1) % b.length) Tryz.underlying36 ty33 rfl rfl rb (by first | rfl | (push_cast; rfl)) (by exact Nat.mod_lt _ (by omega)) (show 0 < 9 from by decide)) mem0 rfl ?_))))))
  intro v24 r24
  refine w_qx (F := fun v_ => (rpT (rpQ k)).Is ma v_ (b.getD ((m + 1) % b.length) (T3.mk (0 : Rat) (0 : Rat) (0 : Rat)))) rfl (yK ty33 rfl r24) mem0 rfl ?_
  intro v25 r25
  refine w_c rfl ?_
  refine yO (vs := [_, _]) Tryz.call80 ⟨rfl, rfl, trivial⟩ (fun w hs => o_r5_middle hs r17 r25 (by omega)) rfl ?_
  intro v26 h1 hh1 r26
  change (rpT (rpQ (2 * k + 2))).Is h1 v26 (T3.mk (midQ (b.getD m (T3.mk (0 : Rat) (0 : Rat) (0 : Rat))).x (b.getD ((m + 1) % b.length) (T3.mk (0 : Rat) (0 : Rat) (0 : Rat))).x) (midQ (b.getD m (T3.mk (0 : Rat) (0 : Rat) (0 : Rat))).y (b.getD ((m + 1) % b.length) (T3.mk (0 : Rat) (0 : Rat) (0 : Rat))).y) (0 : Rat)) at r26
  refine w_c rfl ?_
  replace ra := ra.mono (hmma.trans hh1)
  refine yO (vs := [_, _]) Tryz.call20 ⟨rfl, rfl, trivial⟩ (fun w hs => o_r5_inside hs (ra.le (Le.s (Le.t (Le.q (l := 2 * k + 2) (by omega))))) r26 (by omega) (by omega)) rfl ?_
  intro v27 h2 hh2 r27
  obtain rfl : v27 = vI (insZ a (pr (T3.mk (midQ (b.getD m (T3.mk (0 : Rat) (0 : Rat) (0 : Rat))).x (b.getD ((m + 1) % b.length) (T3.mk (0 : Rat) (0 : Rat) (0 : Rat))).x) (midQ (b.getD m (T3.mk (0 : Rat) (0 : Rat) (0 : Rat))).y (b.getD ((m + 1) % b.length) (T3.mk (0 : Rat) (0 : Rat) (0 : Rat))).y) (0 : Rat)) 0 1) 0 1) := r27
  refine w_q rfl (fun h' L' hh hR => ov_eql_i (q := 1) rfl rfl) rfl (w_nil (zL (e' := [(0, _), (1, _), (5, _), (6, _), (28, _)]) ⟨rfl, rfl, rfl, rfl, rfl, trivial⟩ (zB ?_)))
  refine zH rfl (fun hc28 => ?_) (fun hc28 => ?_)
  ·
   refine zA (mv rfl rfl (gv (zV (q := 1) rfl rfl (by omega) (by omega)) rfl (asg rfl rfl (zD (gq_in (zB (zA (mv rfl rfl (gv (zV (q := 1) rfl rfl (by omega) (by omega)) rfl (asg rfl rfl (zD ?_)))))))))))
   refine yJ ((m + 1), h2) ?_ ?_ ⟨rfl, rfl, ?_, rfl, trivial⟩ rfl rfl
   ·
    refine ⟨((hmma.trans hh1).trans hh2), ?_⟩
    exact (by omega)
   ·
    dsimp only
    omega
   · exact congrArg (fun z => some (vI z)) (with_t (mid_r _ _) hc28)
  refine zI (gq_in (zB (zA (mv rfl rfl (gv (zV (q := 1) rfl rfl (by omega) (by omega)) rfl (asg rfl rfl (zD ?_)))))))
  refine yJ ((m + 1), h2) ?_ ?_ ⟨rfl, rfl, ?_, rfl, trivial⟩ rfl rfl
  ·
   refine ⟨((hmma.trans hh1).trans hh2), ?_⟩
   exact (by omega)
  ·
   dsimp only
   omega
  · exact congrArg (fun z => some (vI z)) (with_f (mid_r _ _) hc28)
 refine gc_exit (zZ (zZ (gx_here (zB (zC (zA (mv rfl rfl (asg rfl rfl (zD (zB (zN (zW rfl rfl ?_))))))))))))
 have em : m = b.length := by omega
 subst em
 rfl

theorem o_r5_parent {w0 : World} {h0 : Mem}  (hs : MLe h0 (mem w0)) {k : Nat} {vL : Value} {L : (List (List (T3 Rat)))} (rL : (rpS (rpS (rpT (rpQ k)))).Is h0 vL L) {f : Nat} (hcd0 : f < L.length) (hcd1 : L.length ≤ 16) (hcd2 : k ≤ 2000) (hcd3 : ∀ u, u < L.length → ¬ 64 < (gl L u).length)  :
    Calls Tryz.prog 56 #[vL, vI ↑f] w0 (Ret w0 h0 (fun _ r => r = vI (parTo L 0 1 f L.length))) := by
 have hE := hcd3
 refine zR (n := 55) (e := [(0, vL), (1, vI ↑f)]) (vs := [vL, vI ↑f]) Tryz.func56 rfl rfl (Nat.le_of_ble_eq_true rfl) hs ⟨rfl, rfl, trivial⟩ (zC (zA (asg (v := vI (0)) rfl rfl (zD (zB (zC (zA (asg (v := vI (-1)) rfl rfl (zD (zB (zC (zC (zA ?_)))))))))))))
 refine asg (v := vI (0)) rfl rfl (zD (zB (zQ ?_)))
 refine gc_loop (ι := Nat × Mem) (fun (g, ma) => MLe h0 ma ∧ (g ≤ L.length)) (fun (g, ma) => [(0, vL), (1, vI ↑f), (5, vI (parTo L 0 1 f g)), (6, vI ↑g)]) (fun (g, ma) => []) (fun (g, ma) => ma) (fun (g, ma) => L.length - g) (0, h0) ?_ ⟨rfl, rfl, rfl, rfl, trivial⟩ rfl rfl ?_
 ·
  refine ⟨MLe.refl _, ?_⟩
  exact (by omega)
 intro x hx
 obtain ⟨g, ma⟩ := x
 obtain ⟨hmma, hinv⟩ := hx
 show GC _ _ _ _ _ _ [(0, vL), (1, vI ↑f), (5, vI (parTo L 0 1 f g)), (6, vI ↑g)] [] ma
 have hg1 := hinv
 have hpr := par_range L 0 1 f g
 refine zC (zC (zA (mv rfl rfl (mv rfl rfl ?_))))
 replace rL := rL.mono hmma
 refine gv (ov_len_sr Tryz.underlying27 rfl rL) rfl (gv (yH rfl rfl) rfl (zD (zB ?_)))
 refine zH rfl (fun hc10 => ?_) (fun hc10 => ?_)
 ·
  refine zI (zB (zC (zQ (zC (zC ?_)))))
  refine gc_draw 24 _ [] [(0, .q), (1, .q), (2, .q), (3, .q), (4, .c), (5, .c), (6, .q), (7, .q), (8, .q), (9, .q), (10, .q), (11, .q), (12, .q), (13, .q), (14, .q), (15, .q), (17, .q), (18, .q), (19, .q), (20, .q), (21, .q), (16, .c), (22, .q), (23, .q)] mixed (fun x hx => by cases hx) (chk_of [0, 0, 3, 4, 8, 16, 32, 96, 128, 128, 896, 1152, 128, 128, 12416, 16512, 34944, 128, 128, 393344, 524416, 1048704, 2162816, 4194432] [16777215, 16777215, 16777212, 16777211, 16777207, 16777199, 16777183, 16777151, 16777087, 16777087, 16776319, 16776063, 16777087, 16777087, 16764799, 16760703, 16742271, 16777087, 16777087, 16383871, 16252799, 15728511, 14614399, 12582783] (by kernel_rfl)) (fun x hx => by cases hx) (fun r hr => hr) (w_q rfl (fun h' L' hh hR => zF rfl) rfl (w_q rfl (fun h' L' hh hR => zF rfl) rfl (w_qx (F := fun v_ => AtP (rpS (rpT (rpQ k))) ma v_ (L.getD g [])) rfl (ox_idx_s [] g Tryz.underlying27 ty36 rfl rfl rL rfl (by omega) (show 0 < 1 from by decide)) mem0 rfl ?_)))
  intro v15 r15
  refine w_qx (F := fun v_ => (rpS (rpT (rpQ k))).Is ma v_ (L.getD g [])) rfl (yK ty36 rfl r15) mem0 rfl ?_
  intro v16 r16
  refine w_c rfl ?_
  refine yO (vs := [_]) Tryz.call25 ⟨rfl, trivial⟩ (fun w hs => o_r5_area hs r16 (by first | omega | exact Nat.le_trans (Nat.not_lt.1 (hE _ (by omega))) (by decide) | exact Nat.le_trans (hF _ (by omega)) (by decide)) (by first | omega | exact Nat.le_trans (Nat.not_lt.1 (hE _ (by omega))) (by decide) | exact Nat.le_trans (hF _ (by omega)) (by decide))) rfl ?_
  intro v17 h1 hh1 r17
  change (rpQ 1000000000).Is h1 v17 (areaTo (L.getD g []) 0 1 (L.getD g []).length) at r17
  refine w_c rfl ?_
  refine yO (vs := [_]) Tryz.call55 ⟨rfl, trivial⟩ (fun w hs => o_rref_sign hs r17 (by decide)) rfl ?_
  intro v18 h2 hh2 r18
  obtain rfl : v18 = vI (sgnQ (areaTo (L.getD g []) 0 1 (L.getD g []).length)) := r18
  have hsr18 := sgnQ_range (areaTo (L.getD g []) 0 1 (L.getD g []).length)
  refine w_q rfl (fun h' L' hh hR => ov_leq_i (q := 0) rfl rfl) rfl (w_q rfl (fun h' L' hh hR => zF rfl) rfl ?_)
  refine prop_cases ((sgnQ (areaTo (L.getD g []) 0 1 (L.getD g []).length)) ≤ (0 : Int)) (fun hg_5 => ?_) (fun hg_5 => ?_)
  ·
   rw [yI hg_5]
   refine zM rfl rfl rfl rfl rfl (zM rfl rfl rfl rfl rfl (zM rfl rfl rfl rfl rfl (zM rfl rfl rfl rfl rfl (zM rfl rfl rfl rfl rfl (zM rfl rfl rfl rfl rfl (zM rfl rfl rfl rfl rfl (zM rfl rfl rfl rfl rfl (zM rfl rfl rfl rfl rfl (zM rfl rfl rfl rfl rfl (zM rfl rfl rfl rfl rfl (zM rfl rfl rfl rfl rfl (zM rfl rfl rfl rfl rfl ?_))))))))))))
   refine w_c rfl (s_off rfl rfl rfl rfl (zM rfl rfl rfl rfl rfl (w_q rfl (fun h' L' hh hR => yF rfl rfl) rfl (w_nil (zL (e' := [(0, _), (1, _), (5, _), (6, _), (36, _)]) ⟨rfl, rfl, rfl, rfl, rfl, trivial⟩ (zB (gc_cond_t rfl (gc_exit (zZ (gx_here (zB (zA (mv rfl rfl ?_)))))))))))))
   refine gv (zV (q := 1) rfl rfl (by omega) (by omega)) rfl (asg rfl rfl (zD ?_))
   refine yJ ((g + 1), h2) ?_ ?_ ⟨rfl, rfl, ?_, rfl, trivial⟩ rfl rfl
   ·
    refine ⟨((hmma.trans hh1).trans hh2), ?_⟩
    exact (by omega)
   ·
    dsimp only
    omega
   · exact congrArg (fun z => some (vI z)) ((if_neg (fun e => absurd e.1.1 (Int.not_lt.2 (by assumption)))).symm)
  rw [yA hg_5]
  refine w_q_on rfl rfl rfl (fun h' L' hh hR => zF rfl) rfl (w_q_on rfl rfl rfl (fun h' L' hh hR => zF rfl) rfl ?_)
  replace rL := rL.mono (hh1.trans hh2)
  refine w_qx_on (F := fun v_ => AtP (rpS (rpT (rpQ k))) h2 v_ (L.getD g [])) rfl rfl rfl (ox_idx_s [] g Tryz.underlying27 ty36 rfl rfl rL rfl (by omega) (show 0 < 1 from by decide)) mem0 rfl ?_
  intro v23 r23
  refine w_qx_on (F := fun v_ => (rpS (rpT (rpQ k))).Is h2 v_ (L.getD g [])) rfl rfl rfl (yK ty36 rfl r23) mem0 rfl ?_
  intro v24 r24
  refine w_q_on rfl rfl rfl (fun h' L' hh hR => zF rfl) rfl (w_q_on rfl rfl rfl (fun h' L' hh hR => zF rfl) rfl (w_qx_on (F := fun v_ => AtP (rpS (rpT (rpQ k))) h2 v_ (L.getD f [])) rfl rfl rfl (ox_idx_s [] f Tryz.underlying27 ty36 rfl rfl rL rfl (by omega) (show 0 < 1 from by decide)) mem0 rfl ?_))
  intro v27 r27
  refine w_qx_on (F := fun v_ => (rpS (rpT (rpQ k))).Is h2 v_ (L.getD f [])) rfl rfl rfl (yK ty36 rfl r27) mem0 rfl ?_
  intro v28 r28
  refine w_q_on rfl rfl rfl (fun h' L' hh hR => zF rfl) rfl (w_q_on rfl rfl rfl (fun h' L' hh hR => zF rfl) rfl (w_qx_on (F := fun v_ => AtP (rpS (rpT (rpQ k))) h2 v_ (L.getD f [])) rfl rfl rfl (ox_idx_s [] f Tryz.underlying27 ty36 rfl rfl rL rfl (by omega) (show 0 < 1 from by decide)) mem0 rfl ?_))
  intro v32 r32
  refine w_qx_on (F := fun v_ => (rpS (rpT (rpQ k))).Is h2 v_ (L.getD f [])) rfl rfl rfl (yK ty36 rfl r32) mem0 rfl ?_
  intro v33 r33
  refine w_q_on rfl rfl rfl (fun h' L' hh hR => ov_len_sr Tryz.underlying36 rfl (r33.mono hh)) rfl ?_
  refine w_c rfl (s_on rfl rfl ?_)
  refine yO (vs := [_, _]) Tryz.call57 ⟨rfl, rfl, trivial⟩ (fun w hs => o_r5_within hs r24 r28 (by first | omega | exact Nat.le_trans (Nat.not_lt.1 (hE _ (by omega))) (by decide) | exact Nat.le_trans (hF _ (by omega)) (by decide)) (by first | omega | exact Nat.le_trans (Nat.not_lt.1 (hE _ (by omega))) (by decide) | exact Nat.le_trans (hF _ (by omega)) (by decide)) (by first | omega | exact Nat.le_trans (Nat.not_lt.1 (hE _ (by omega))) (by decide) | exact Nat.le_trans (hF _ (by omega)) (by decide))) rfl ?_
  intro v29 h3 hh3 r29
  obtain rfl : v29 = vI (wiZ (L.getD g []) (L.getD f []) 0 1) := r29
  have hwz29 := with_range (L.getD g []) (L.getD f []) 0 1 (L.getD f []).length
  refine w_q_on rfl rfl rfl (fun h' L' hh hR => ov_neq_i rfl rfl) rfl (w_q rfl (fun h' L' hh hR => yD rfl rfl) rfl (w_nil (zL (e' := [(0, _), (1, _), (5, _), (6, _), (36, _)]) ⟨rfl, rfl, rfl, rfl, rfl, trivial⟩ (zB ?_))))
  refine zH rfl (fun hc36 => ?_) (fun hc36 => ?_)
  ·
   refine gc_exit (zZ (gx_here (zB (zA (mv rfl rfl (gv (zV (q := 1) rfl rfl (by omega) (by omega)) rfl (asg rfl rfl (zD ?_))))))))
   refine yJ ((g + 1), h3) ?_ ?_ ⟨rfl, rfl, ?_, rfl, trivial⟩ rfl rfl
   ·
    refine ⟨(((hmma.trans hh1).trans hh2).trans hh3), ?_⟩
    exact (by omega)
   ·
    dsimp only
    omega
   · exact congrArg (fun z => some (vI z)) ((if_neg (fun e => hc36 e.1.2)).symm)
  refine zI (zB (zC ?_))
  refine gc_draw 16 _ [] [(0, .q), (1, .q), (2, .q), (3, .q), (4, .q), (5, .q), (6, .q), (8, .q), (9, .q), (10, .q), (11, .q), (7, .c), (12, .c), (13, .c), (14, .q), (15, .q)] mixed (fun x hx => by cases hx) (chk_of [0, 1, 2, 4, 4, 28, 36, 68, 4, 4, 772, 1028, 2180, 4228, 8196, 16388] [65535, 65534, 65533, 65531, 65531, 65507, 65499, 65467, 65531, 65531, 64763, 64507, 63483, 61307, 57339, 49147] (by kernel_rfl)) (fun x hx => by cases hx) (fun r hr => hr) (w_q rfl (fun h' L' hh hR => zF rfl) rfl (w_q rfl (fun h' L' hh hR => yH (q := 0) rfl rfl) rfl (w_q rfl (fun h' L' hh hR => zF rfl) rfl ?_)))
  refine prop_cases ((parTo L 0 1 f g) < (0 : Int)) (fun hg_6 => ?_) (fun hg_6 => ?_)
  ·
   rw [yI hg_6]
   refine zM rfl rfl rfl rfl rfl (zM rfl rfl rfl rfl rfl (zM rfl rfl rfl rfl rfl (zM rfl rfl rfl rfl rfl (zM rfl rfl rfl rfl rfl (zM rfl rfl rfl rfl rfl (zM rfl rfl rfl rfl rfl (zM rfl rfl rfl rfl rfl ?_)))))))
   refine w_c rfl (s_off rfl rfl rfl rfl ?_)
   refine w_c rfl (s_off rfl rfl rfl rfl ?_)
   refine w_c rfl (s_off rfl rfl rfl rfl (zM rfl rfl rfl rfl rfl (w_q rfl (fun h' L' hh hR => yF rfl rfl) rfl (w_nil (zL (e' := [(0, _), (1, _), (5, _), (6, _), (52, _)]) ⟨rfl, rfl, rfl, rfl, rfl, trivial⟩ (zB (gc_cond_t rfl (zA (mv rfl rfl (asg rfl rfl (zD (gq_in (zB ?_)))))))))))))
   refine zA (mv rfl rfl (gv (zV (q := 1) rfl rfl (by omega) (by omega)) rfl (asg rfl rfl (zD ?_))))
   refine yJ ((g + 1), h3) ?_ ?_ ⟨rfl, rfl, ?_, rfl, trivial⟩ rfl rfl
   ·
    refine ⟨(((hmma.trans hh1).trans hh2).trans hh3), ?_⟩
    exact (by omega)
   ·
    dsimp only
    omega
   · exact congrArg (fun z => some (vI z)) ((if_pos ⟨⟨Int.not_le.1 (by assumption), Classical.not_not.1 hc36⟩, .inl (by assumption)⟩).symm)
  rw [yA hg_6]
  refine w_q_on rfl rfl rfl (fun h' L' hh hR => zF rfl) rfl (w_q_on rfl rfl rfl (fun h' L' hh hR => zF rfl) rfl ?_)
  replace rL := rL.mono hh3
  refine w_qx_on (F := fun v_ => AtP (rpS (rpT (rpQ k))) h3 v_ (L.getD g [])) rfl rfl rfl (ox_idx_s [] g Tryz.underlying27 ty36 rfl rfl rL rfl (by omega) (show 0 < 1 from by decide)) mem0 rfl ?_
  intro v42 r42
  refine w_qx_on (F := fun v_ => (rpS (rpT (rpQ k))).Is h3 v_ (L.getD g [])) rfl rfl rfl (yK ty36 rfl r42) mem0 rfl ?_
  intro v43 r43
  refine w_q_on rfl rfl rfl (fun h' L' hh hR => zF rfl) rfl (w_q_on rfl rfl rfl (fun h' L' hh hR => zF rfl) rfl (w_qx_on (F := fun v_ => AtP (rpS (rpT (rpQ k))) h3 v_ (L.getD ((parTo L 0 1 f g).toNat) [])) rfl rfl rfl (ox_idx_s [] ((parTo L 0 1 f g).toNat) Tryz.underlying27 ty36 rfl rfl rL (by omega) (by omega) (show 0 < 1 from by decide)) mem0 rfl ?_))
  intro v47 r47
  refine w_qx_on (F := fun v_ => (rpS (rpT (rpQ k))).Is h3 v_ (L.getD ((parTo L 0 1 f g).toNat) [])) rfl rfl rfl (yK ty36 rfl r47) mem0 rfl ?_
  intro v48 r48
  refine w_c rfl (s_on rfl rfl ?_)
  refine yO (vs := [_]) Tryz.call25 ⟨rfl, trivial⟩ (fun w hs => o_r5_area hs r43 (by first | omega | exact Nat.le_trans (Nat.not_lt.1 (hE _ (by omega))) (by decide) | exact Nat.le_trans (hF _ (by omega)) (by decide)) (by first | omega | exact Nat.le_trans (Nat.not_lt.1 (hE _ (by omega))) (by decide) | exact Nat.le_trans (hF _ (by omega)) (by decide))) rfl ?_
  intro v44 h4 hh4 r44
  change (rpQ 1000000000).Is h4 v44 (areaTo (L.getD g []) 0 1 (L.getD g []).length) at r44
  refine w_c rfl (s_on rfl rfl ?_)
  replace r48 := r48.mono hh4
  refine yO (vs := [_]) Tryz.call25 ⟨rfl, trivial⟩ (fun w hs => o_r5_area hs r48 (by first | omega | exact Nat.le_trans (Nat.not_lt.1 (hE _ (by omega))) (by decide) | exact Nat.le_trans (hF _ (by omega)) (by decide)) (by first | omega | exact Nat.le_trans (Nat.not_lt.1 (hE _ (by omega))) (by decide) | exact Nat.le_trans (hF _ (by omega)) (by decide))) rfl ?_
  intro v49 h5 hh5 r49
  change (rpQ 1000000000).Is h5 v49 (areaTo (L.getD ((parTo L 0 1 f g).toNat) []) 0 1 (L.getD ((parTo L 0 1 f g).toNat) []).length) at r49
  refine w_c rfl (s_on rfl rfl ?_)
  replace r44 := r44.mono hh5
  refine yO (vs := [_, _]) Tryz.call44 ⟨rfl, rfl, trivial⟩ (fun w hs => o_rref_cmp hs r44 r49 (by decide)) rfl ?_
  intro v50 h6 hh6 r50
  obtain rfl : v50 = vI (cmpQ (areaTo (L.getD g []) 0 1 (L.getD g []).length) (areaTo (L.getD ((parTo L 0 1 f g).toNat) []) 0 1 (L.getD ((parTo L 0 1 f g).toNat) []).length)) := r50
  have hcr50 := cmpQ_range (areaTo (L.getD g []) 0 1 (L.getD g []).length) (areaTo (L.getD ((parTo L 0 1 f g).toNat) []) 0 1 (L.getD ((parTo L 0 1 f g).toNat) []).length)
  refine w_q_on rfl rfl rfl (fun h' L' hh hR => yH (q := 0) rfl rfl) rfl (w_q rfl (fun h' L' hh hR => yD rfl rfl) rfl (w_nil (zL (e' := [(0, _), (1, _), (5, _), (6, _), (52, _)]) ⟨rfl, rfl, rfl, rfl, rfl, trivial⟩ (zB ?_))))
  refine zH rfl (fun hc52 => ?_) (fun hc52 => ?_)
  ·
   refine zA (mv rfl rfl (asg rfl rfl (zD (gq_in (zB (zA (mv rfl rfl (gv (zV (q := 1) rfl rfl (by omega) (by omega)) rfl (asg rfl rfl (zD ?_))))))))))
   refine yJ ((g + 1), h6) ?_ ?_ ⟨rfl, rfl, ?_, rfl, trivial⟩ rfl rfl
   ·
    refine ⟨((((((hmma.trans hh1).trans hh2).trans hh3).trans hh4).trans hh5).trans hh6), ?_⟩
    exact (by omega)
   ·
    dsimp only
    omega
   · exact congrArg (fun z => some (vI z)) ((if_pos ⟨⟨Int.not_le.1 (by assumption), Classical.not_not.1 hc36⟩, .inr hc52⟩).symm)
  refine zI (gq_in (zB (zA (mv rfl rfl (gv (zV (q := 1) rfl rfl (by omega) (by omega)) rfl (asg rfl rfl (zD ?_)))))))
  refine yJ ((g + 1), h6) ?_ ?_ ⟨rfl, rfl, ?_, rfl, trivial⟩ rfl rfl
  ·
   refine ⟨((((((hmma.trans hh1).trans hh2).trans hh3).trans hh4).trans hh5).trans hh6), ?_⟩
   exact (by omega)
  ·
   dsimp only
   omega
  · exact congrArg (fun z => some (vI z)) ((if_neg (fun e => e.2.elim (fun h => absurd h (by assumption)) hc52)).symm)
 refine gc_exit (zZ (zZ (gx_here (zB (zC (zA (mv rfl rfl (asg rfl rfl (zD (zB (zN (zW rfl rfl ?_))))))))))))
 have eg : g = L.length := by omega
 rw [eg]

end Go.Proofs.YtfpjclgbieppeaaGreat


namespace Go.Proofs.YtfpjclgbieppeaaGreat
open Bk Go
set_option linter.unusedVariables false
set_option linter.unusedSimpArgs false
set_option maxRecDepth 10000

set_option maxHeartbeats 2000000 in
theorem o_r5_nest {w0 : World} {h0 : Mem}  (hs : MLe h0 (mem w0)) {k : Nat} {vL : Value} {L : (List (List (T3 Rat)))} (rL : (rpS (rpS (rpT (rpQ k)))).Is h0 vL L) (hcd0 : k ≤ 2000) (hcd1 : ∀ x, x ∈ L → fineL x)  :
    Calls Tryz.prog 30 #[vL] w0 (Ret w0 h0 (fun h r => ∃ u0, r = .tuple #[u0, vI (nestE L 0 1)] ∧ (rpS rpI).Is h u0 (nestL L 0 1))) := by
 have hF := hcd1
 refine zR (n := 133) (e := [(0, vL)]) (vs := [vL]) Tryz.func30 rfl rfl (Nat.le_of_ble_eq_true rfl) hs ⟨rfl, trivial⟩ (zC (zA (asg rfl rfl (asg (v := vI (0)) rfl rfl (zD (zB (zC (zC (zA (mv rfl rfl (gv (ov_len_sr Tryz.underlying27 rfl rL) rfl (gv (ov_gtr_i (q := 16) rfl rfl) rfl (zD ?_)))))))))))))
 refine zB ?_
 refine zH rfl (fun hc15 => ?_) (fun hc15 => ?_)
 ·
  refine zC (zA (asg rfl rfl (asg (v := vI (2)) rfl rfl (zD (zB (zN (zO (gq_body2 rfl rfl rfl ?_))))))))
  refine ⟨_, ?_, (Rp.Is.cast (is_nil _) (by exact (show nestE L 0 1 = 2 ∧ nestL L 0 1 = [] from nest_2 (.inl (by omega))).2.symm))⟩
  rw [(show nestE L 0 1 = 2 ∧ nestL L 0 1 = [] from nest_2 (.inl (by omega))).1]
 refine zI (zB (zC (zC (zA (asg (v := vI (0)) rfl rfl (zD (zB (zQ ?_))))))))
 refine gc_loop (ι := Nat × Mem) (fun (q, ma) => MLe h0 ma ∧ (q ≤ L.length ∧ ∀ u, u < q → ¬ 64 < (gl L u).length)) (fun (q, ma) => [(0, vL), (4, vI ↑q)]) (fun (q, ma) => []) (fun (q, ma) => ma) (fun (q, ma) => L.length - q) (0, h0) ?_ ⟨rfl, rfl, trivial⟩ rfl rfl ?_
 ·
  refine ⟨MLe.refl _, ?_⟩
  exact ⟨by omega, fun u h => by omega⟩
 intro x hx
 obtain ⟨q, ma⟩ := x
 obtain ⟨hmma, hinv⟩ := hx
 show GC _ _ _ _ _ _ [(0, vL), (4, vI ↑q)] [] ma
 obtain ⟨hq1, hq2⟩ := hinv
 refine zC (zC (zA (mv rfl rfl (mv rfl rfl ?_))))
 replace rL := rL.mono hmma
 refine gv (ov_len_sr Tryz.underlying27 rfl rL) rfl (gv (yH rfl rfl) rfl (zD (zB ?_)))
 refine zH rfl (fun hc19 => ?_) (fun hc19 => ?_)
 ·
  refine zI (zB (zC (zQ (zC (zA (mv rfl rfl (mv rfl rfl (gl_x (F := fun v_ => AtP (rpS (rpT (rpQ k))) ma v_ (L.getD q [])) (ox_idx_s [] q Tryz.underlying27 ty36 rfl rfl rL rfl (by omega) (show 0 < 1 from by decide)) mem0 rfl ?_))))))))
  intro v24 r24
  refine gl_x (F := fun v_ => (rpS (rpT (rpQ k))).Is ma v_ (L.getD q [])) (yK ty36 rfl r24) mem0 rfl ?_
  intro v25 r25
  refine gv (ov_len_sr Tryz.underlying36 rfl r25) rfl (gv (ov_gtr_i (q := 64) rfl rfl) rfl (zD (zB ?_)))
  refine zH rfl (fun hc27 => ?_) (fun hc27 => ?_)
  ·
   refine gc_keep (e' := []) trivial (zC (zA (asg rfl rfl (asg (v := vI (2)) rfl rfl (zD (zB (zN (gr_in (zO (zO (gr_in (zO (gq_body2 rfl rfl rfl ?_)))))))))))))
   refine ⟨_, ?_, (Rp.Is.cast (is_nil _) (by exact (show nestE L 0 1 = 2 ∧ nestL L 0 1 = [] from nest_2 (.inr ⟨q, by omega, (by show 64 < (L.getD q []).length; omega)⟩)).2.symm))⟩
   rw [(show nestE L 0 1 = 2 ∧ nestL L 0 1 = [] from nest_2 (.inr ⟨q, by omega, (by show 64 < (L.getD q []).length; omega)⟩)).1]
  refine gc_keep (e' := [(0, _), (4, _)]) ⟨rfl, rfl, trivial⟩ (zI (gq_in (zB (zA (mv rfl rfl (gv (zV (q := 1) rfl rfl (by omega) (by omega)) rfl (asg rfl rfl (zD ?_))))))))
  refine yJ ((q + 1), ma) ?_ ?_ ⟨rfl, rfl, trivial⟩ rfl rfl
  ·
   refine ⟨hmma, ?_⟩
   exact ⟨by omega, one_step (Q := fun u => ¬ 64 < (gl L u).length) hq2 (by show ¬ 64 < (L.getD q []).length; omega)⟩
  dsimp only
  omega
 have hE : ∀ u, u < L.length → ¬ 64 < (gl L u).length := fun u hu => hq2 u (by omega)
 refine gc_exit (zZ (zZ (gx_here (zB (zC (zC (zA (asg (v := vI (0)) rfl rfl (zD (zB (zQ ?_)))))))))))
 refine gc_loop (ι := Nat × Mem) (fun (s, ms) => MLe ma ms ∧ (s ≤ L.length ∧ ∀ u, u < s → simP (gl L u) 0 1)) (fun (s, ms) => [(0, vL), (5, vI ↑s)]) (fun (s, ms) => []) (fun (s, ms) => ms) (fun (s, ms) => L.length - s) (0, ma) ?_ ⟨rfl, rfl, trivial⟩ rfl rfl ?_
 ·
  refine ⟨MLe.refl _, ?_⟩
  exact ⟨by omega, fun u h => by omega⟩
 intro x hx
 obtain ⟨s, ms⟩ := x
 obtain ⟨hmms, hinv⟩ := hx
 show GC _ _ _ _ _ _ [(0, vL), (5, vI ↑s)] [] ms
 obtain ⟨hs1, hs2⟩ := hinv
 refine zC (zC (zA (mv rfl rfl (mv rfl rfl ?_))))
 replace rL := rL.mono hmms
 refine gv (ov_len_sr Tryz.underlying27 rfl rL) rfl (gv (yH rfl rfl) rfl (zD (zB ?_)))
 refine zH rfl (fun hc31 => ?_) (fun hc31 => ?_)
 ·
  refine zI (zB (zC (zQ (zC (zA (mv rfl rfl (mv rfl rfl (gl_x (F := fun v_ => AtP (rpS (rpT (rpQ k))) ms v_ (L.getD s [])) (ox_idx_s [] s Tryz.underlying27 ty36 rfl rfl rL rfl (by omega) (show 0 < 1 from by decide)) mem0 rfl ?_))))))))
  intro v36 r36
  refine gl_x (F := fun v_ => (rpS (rpT (rpQ k))).Is ms v_ (L.getD s [])) (yK ty36 rfl r36) mem0 rfl ?_
  intro v37 r37
  refine zJ (vs := [_]) rfl rfl rfl rfl Tryz.call27 ⟨rfl, trivial⟩ (fun w hs => o_r5_simple hs r37 (by first | omega | assumption | exact Nat.le_trans (Nat.not_lt.1 (hE _ (by omega))) (by decide)) (by first | omega | assumption | exact Nat.le_trans (Nat.not_lt.1 (hE _ (by omega))) (by decide))) ?_
  intro v38 h1 hh1 r38
  obtain rfl : v38 = vB (simP (L.getD s []) 0 1) := r38
  refine gv (ov_not rfl) rfl (zD (zB ?_))
  refine zH rfl (fun hc39 => ?_) (fun hc39 => ?_)
  ·
   refine gc_keep (e' := []) trivial (zC (zA (asg rfl rfl (asg (v := vI (8)) rfl rfl (zD (zB (zN (gr_in (zO (zO (gr_in (zO (gq_body2 rfl rfl rfl ?_)))))))))))))
   refine ⟨_, ?_, (Rp.Is.cast (is_nil _) (by exact (show nestE L 0 1 = 8 ∧ nestL L 0 1 = [] from nest_8 (by omega) hE ⟨s, by omega, hc39⟩).2.symm))⟩
   rw [(show nestE L 0 1 = 8 ∧ nestL L 0 1 = [] from nest_8 (by omega) hE ⟨s, by omega, hc39⟩).1]
  refine gc_keep (e' := [(0, _), (5, _)]) ⟨rfl, rfl, trivial⟩ (zI (gq_in (zB (zA (mv rfl rfl (gv (zV (q := 1) rfl rfl (by omega) (by omega)) rfl (asg rfl rfl (zD ?_))))))))
  refine yJ ((s + 1), h1) ?_ ?_ ⟨rfl, rfl, trivial⟩ rfl rfl
  ·
   refine ⟨(hmms.trans hh1), ?_⟩
   exact ⟨by omega, one_step (Q := fun u => simP (gl L u) 0 1) hs2 (Classical.not_not.1 hc39)⟩
  dsimp only
  omega
 have hS : ∀ u, u < L.length → simP (gl L u) 0 1 := fun u hu => hs2 u (by omega)
 refine gc_exit (zZ (zZ (gx_here (zB (zC (zC (zA (asg (v := vI (0)) rfl rfl (zD (zB (zQ ?_)))))))))))
 refine gc_loop (ι := Nat × Mem) (fun (c, mc) => MLe ms mc ∧ (c ≤ L.length ∧ ∀ u v, v < c → u < v → ¬ crossesP (gl L u) (gl L v) 0 1)) (fun (c, mc) => [(0, vL), (6, vI ↑c)]) (fun (c, mc) => []) (fun (c, mc) => mc) (fun (c, mc) => L.length - c) (0, ms) ?_ ⟨rfl, rfl, trivial⟩ rfl rfl ?_
 ·
  refine ⟨MLe.refl _, ?_⟩
  exact ⟨by omega, fun u v h => by omega⟩
 intro x hx
 obtain ⟨c, mc⟩ := x
 obtain ⟨hmmc, hinv⟩ := hx
 show GC _ _ _ _ _ _ [(0, vL), (6, vI ↑c)] [] mc
 obtain ⟨hcc1, hcc2⟩ := hinv
 refine zC (zC (zA (mv rfl rfl (mv rfl rfl ?_))))
 replace rL := rL.mono hmmc
 refine gv (ov_len_sr Tryz.underlying27 rfl rL) rfl (gv (yH rfl rfl) rfl (zD (zB ?_)))
 refine zH rfl (fun hc43 => ?_) (fun hc43 => ?_)
 ·
  refine zI (zB (zC (zQ (zC (zA (asg (v := vI (0)) rfl rfl (zD (zB (zQ ?_)))))))))
  refine gc_loop (ι := Nat × Mem) (fun (d, md) => MLe mc md ∧ (d ≤ c ∧ ∀ u, u < d → ¬ crossesP (gl L u) (gl L c) 0 1)) (fun (d, md) => [(0, vL), (6, vI ↑c), (7, vI ↑d)]) (fun (d, md) => []) (fun (d, md) => md) (fun (d, md) => c - d) (0, mc) ?_ ⟨rfl, rfl, rfl, trivial⟩ rfl rfl ?_
  ·
   refine ⟨MLe.refl _, ?_⟩
   exact ⟨by omega, fun u h => by omega⟩
  intro x hx
  obtain ⟨d, md⟩ := x
  obtain ⟨hmmd, hinv⟩ := hx
  show GC _ _ _ _ _ _ [(0, vL), (6, vI ↑c), (7, vI ↑d)] [] md
  obtain ⟨hd1, hd2⟩ := hinv
  refine zC (zC (zA (mv rfl rfl (mv rfl rfl (gv (yH rfl rfl) rfl (zD (zB ?_)))))))
  refine zH rfl (fun hc48 => ?_) (fun hc48 => ?_)
  ·
   refine zI (zB (zC (zQ (zC ?_))))
   refine gc_draw 9 _ [] [(0, .q), (1, .q), (2, .q), (3, .q), (4, .q), (5, .q), (6, .q), (7, .q), (8, .c)] mixed (fun x hx => by cases hx) (by kernel_rfl) (fun x hx => by cases hx) (fun r hr => hr) (w_q rfl (fun h' L' hh hR => zF rfl) rfl (w_q rfl (fun h' L' hh hR => zF rfl) rfl ?_))
   replace rL := rL.mono hmmd
   refine w_qx (F := fun v_ => AtP (rpS (rpT (rpQ k))) md v_ (L.getD c [])) rfl (ox_idx_s [] c Tryz.underlying27 ty36 rfl rfl rL rfl (by omega) (show 0 < 1 from by decide)) mem0 rfl ?_
   intro v53 r53
   refine w_qx (F := fun v_ => (rpS (rpT (rpQ k))).Is md v_ (L.getD c [])) rfl (yK ty36 rfl r53) mem0 rfl ?_
   intro v54 r54
   refine w_q rfl (fun h' L' hh hR => zF rfl) rfl (w_q rfl (fun h' L' hh hR => zF rfl) rfl (w_qx (F := fun v_ => AtP (rpS (rpT (rpQ k))) md v_ (L.getD d [])) rfl (ox_idx_s [] d Tryz.underlying27 ty36 rfl rfl rL rfl (by omega) (show 0 < 1 from by decide)) mem0 rfl ?_))
   intro v57 r57
   refine w_qx (F := fun v_ => (rpS (rpT (rpQ k))).Is md v_ (L.getD d [])) rfl (yK ty36 rfl r57) mem0 rfl ?_
   intro v58 r58
   refine w_c rfl ?_
   refine yO (vs := [_, _]) Tryz.call54 ⟨rfl, rfl, trivial⟩ (fun w hs => o_r5_crossed hs r54 r58 (by first | omega | assumption | exact Nat.le_trans (Nat.not_lt.1 (hE _ (by omega))) (by decide)) (by first | omega | assumption | exact Nat.le_trans (Nat.not_lt.1 (hE _ (by omega))) (by decide)) (by first | omega | assumption | exact Nat.le_trans (Nat.not_lt.1 (hE _ (by omega))) (by decide))) rfl ?_
   intro v59 h1 hh1 r59
   obtain rfl : v59 = vB (crossesP (L.getD c []) (L.getD d []) 0 1) := r59
   refine w_nil (zL (e' := [(0, _), (6, _), (7, _), (59, _)]) ⟨rfl, rfl, rfl, rfl, trivial⟩ (zB ?_))
   refine zH rfl (fun hc59 => ?_) (fun hc59 => ?_)
   ·
    refine zC (zA (asg rfl rfl (asg (v := vI (32)) rfl rfl (zD (zB (zN (gr_in (zO (zO (gr_in (gr_in (zO (zO ?_)))))))))))))
    refine gr_in (zO (gq_body2 rfl rfl rfl ?_))
    refine ⟨_, ?_, (Rp.Is.cast (is_nil _) (by exact (show nestE L 0 1 = 32 ∧ nestL L 0 1 = [] from nest_32 (by omega) hE hS ⟨d, c, by omega, by omega, crosses_comm hc59⟩).2.symm))⟩
    rw [(show nestE L 0 1 = 32 ∧ nestL L 0 1 = [] from nest_32 (by omega) hE hS ⟨d, c, by omega, by omega, crosses_comm hc59⟩).1]
   refine zI (gq_in (zB (zA (mv rfl rfl (gv (zV (q := 1) rfl rfl (by omega) (by omega)) rfl (asg rfl rfl (zD ?_)))))))
   refine yJ ((d + 1), h1) ?_ ?_ ⟨rfl, rfl, rfl, trivial⟩ rfl rfl
   ·
    refine ⟨(hmmd.trans hh1), ?_⟩
    exact ⟨by omega, one_step (Q := fun u => ¬ crossesP (gl L u) (gl L c) 0 1) hd2 (fun e => hc59 (crosses_comm e))⟩
   dsimp only
   omega
  refine gc_exit (zZ (zZ (gx_here (gq_in (zB (zA (mv rfl rfl (gv (zV (q := 1) rfl rfl (by omega) (by omega)) rfl (asg rfl rfl (zD ?_))))))))))
  refine yJ ((c + 1), md) ?_ ?_ ⟨rfl, rfl, trivial⟩ rfl rfl
  ·
   refine ⟨(hmmc.trans hmmd), ?_⟩
   exact ⟨by omega, tri_step hcc2 hd2 (by omega)⟩
  dsimp only
  omega
 have hX : ∀ a b, b < L.length → a < b → ¬ crossesP (gl L a) (gl L b) 0 1 := fun a b hb ha => hcc2 a b (by omega) ha
 refine gc_exit (zZ (zZ (gx_here (zB (zC (zA (asg rfl rfl (zD (zB (zC (zC (zA (asg (v := vI (0)) rfl rfl ?_)))))))))))))
 refine zD (zB (zQ (gc_nilown 3 1 ?_)))
 have rl_1 : RL rpI mc [] ([] : List Int) := RL.nil
 refine gc_loop (ι := Nat × List Int × Value × List Value × Mem) (fun (f, OU, s8_2, cs_3, mf) => MLe mc mf ∧ (RL rpI mf cs_3 OU ∧ (f ≤ L.length ∧ OU.length = f) ∧ ∀ u, u < f → OU.getD u (0 : Int) = pZ L 0 1 u)) (fun (f, OU, s8_2, cs_3, mf) => [(0, vL), (8, s8_2), (9, vI ↑f)]) (fun (f, OU, s8_2, cs_3, mf) => [.gs 3 1 s8_2 OU.length cs_3]) (fun (f, OU, s8_2, cs_3, mf) => mf) (fun (f, OU, s8_2, cs_3, mf) => L.length - f) (0, ([] : List Int), (.slice none 0 0), [], mc) ?_ ⟨rfl, rfl, rfl, trivial⟩ rfl rfl ?_
 ·
  refine ⟨MLe.refl _, ?_⟩
  refine ⟨rl_1, ?_⟩
  exact ⟨⟨by omega, rfl⟩, fun u h => by omega⟩
 intro x hx
 obtain ⟨f, OU, s8_2, cs_3, mf⟩ := x
 obtain ⟨hmmf, hinv⟩ := hx
 show GC _ _ _ _ _ _ [(0, vL), (8, s8_2), (9, vI ↑f)] [.gs 3 1 s8_2 OU.length cs_3] mf
 obtain ⟨rl_4, hinv⟩ := hinv
 obtain ⟨⟨hf1, hf2⟩, hf3⟩ := hinv
 refine zC (zC (zA (mv rfl rfl (mv rfl rfl ?_))))
 replace rL := rL.mono hmmf
 refine gv (ov_len_sr Tryz.underlying27 rfl rL) rfl (gv (yH rfl rfl) rfl (zD (zB ?_)))
 refine zH rfl (fun hc63 => ?_) (fun hc63 => ?_)
 ·
  refine zI (zB (zC (zQ (zC (zA (asg (v := vI (-1)) rfl rfl (zD (zB ?_))))))))
  refine gc_cut (ι := Int × Mem) (fun (p, mp) => MLe mf mp ∧ ((-1 ≤ p ∧ p < 9223372036854775808) ∧ p = pZ L 0 1 f)) (fun (p, mp) => [(0, vL), (8, s8_2), (9, vI ↑f), (10, vI p)]) (fun (p, mp) => [.gs 3 1 s8_2 OU.length cs_3]) (fun (p, mp) => mp) ?_ ?_
  ·
   refine zC (zA (mv rfl rfl (mv rfl rfl (gl_x (F := fun v_ => AtP (rpS (rpT (rpQ k))) mf v_ (L.getD f [])) (ox_idx_s [] f Tryz.underlying27 ty36 rfl rfl rL rfl (by omega) (show 0 < 1 from by decide)) mem0 rfl ?_))))
   intro v68 r68
   refine gl_x (F := fun v_ => (rpS (rpT (rpQ k))).Is mf v_ (L.getD f [])) (yK ty36 rfl r68) mem0 rfl ?_
   intro v69 r69
   refine zJ (vs := [_]) rfl rfl rfl rfl Tryz.call25 ⟨rfl, trivial⟩ (fun w hs => o_r5_area hs r69 (by first | omega | assumption | exact Nat.le_trans (Nat.not_lt.1 (hE _ (by omega))) (by decide)) (by first | omega | assumption | exact Nat.le_trans (Nat.not_lt.1 (hE _ (by omega))) (by decide))) ?_
   intro v70 h1 hh1 r70
   change (rpQ 1000000000).Is h1 v70 (areaTo (L.getD f []) 0 1 (L.getD f []).length) at r70
   refine zJ (vs := [_]) rfl rfl rfl rfl Tryz.call55 ⟨rfl, trivial⟩ (fun w hs => o_rref_sign hs r70 (by decide)) ?_
   intro v71 h2 hh2 r71
   obtain rfl : v71 = vI (sgnQ (areaTo (L.getD f []) 0 1 (L.getD f []).length)) := r71
   have hsr71 := sgnQ_range (areaTo (L.getD f []) 0 1 (L.getD f []).length)
   refine gv (yH (q := 0) rfl rfl) rfl (zD (zL (e' := [(0, _), (8, _), (9, _), (10, _), (72, _)]) ⟨rfl, rfl, rfl, rfl, rfl, trivial⟩ (zB ?_)))
   refine zH rfl (fun hc72 => ?_) (fun hc72 => ?_)
   ·
    refine zA (mv rfl rfl (mv rfl rfl ?_))
    replace rL := rL.mono (hh1.trans hh2)
    refine zJ (vs := [_, _]) rfl rfl rfl rfl Tryz.call56 ⟨rfl, rfl, trivial⟩ (fun w hs => o_r5_parent (f := f) hs rL (by first | omega | assumption | exact Nat.le_trans (Nat.not_lt.1 (hE _ (by omega))) (by decide)) (by first | omega | assumption | exact Nat.le_trans (Nat.not_lt.1 (hE _ (by omega))) (by decide)) (by first | omega | assumption | exact Nat.le_trans (Nat.not_lt.1 (hE _ (by omega))) (by decide)) (by first | omega | assumption | exact Nat.le_trans (Nat.not_lt.1 (hE _ (by omega))) (by decide))) ?_
    intro v75 h3 hh3 r75
    obtain rfl : v75 = vI (parTo L 0 1 f L.length) := r75
    have hpr75 := par_range L 0 1 f L.length
    refine asg rfl rfl (zD ?_)
    refine zU ((parTo L 0 1 f L.length), h3) ?_ ⟨rfl, rfl, rfl, rfl, trivial⟩ rfl rfl
    refine ⟨((hh1.trans hh2).trans hh3), ?_⟩
    exact ⟨⟨by omega, by omega⟩, pZ_neg hc72⟩
   refine zI ?_
   refine zU ((-1 : Int), h2) ?_ ⟨rfl, rfl, rfl, rfl, trivial⟩ rfl rfl
   refine ⟨(hh1.trans hh2), ?_⟩
   exact ⟨⟨by omega, by omega⟩, pZ_pos hF (hS f (by omega)) hc72⟩
  intro x hx
  obtain ⟨p, mp⟩ := x
  obtain ⟨hmmp, hcut⟩ := hx
  show GC _ _ _ _ _ _ [(0, vL), (8, s8_2), (9, vI ↑f), (10, vI p)] [.gs 3 1 s8_2 OU.length cs_3] mp
  obtain ⟨hp1, hpz⟩ := hcut
  refine zA (mv rfl rfl (mv rfl rfl (zP (new_buildx (ρ := rpI) (m := 1) (xs := [p]) (ps' := [(0, _)]) Tryz.underlying22 info3 rfl rfl rfl zr_i ⟨rfl, rfl, trivial⟩ (fx_one rfl (Pc.arr (Pc.here _) (0 : Int) 0 (by decide)) (is_i (by omega) (by omega)) fx_nil) (show 1 * 1 ≤ 16777216 from by decide) (show 0 < 1 from by decide)) rfl rfl rfl ?_)))
  intro v78 q78 hq78
  obtain ⟨cs78, rfl, rl78⟩ := hq78
  refine gl_freezex (A := []) (ρ := rpI) rl78 ?_
  intro h1 hh1 rs_5
  replace rl_4 := rl_4.mono (hmmp.trans hh1)
  refine gl_repop (A := []) (rep_appendx (ρ := rpI) (bytes := 8) Tryz.underlying22 info3 rfl rfl rfl rfl (by decide) rfl rfl rl_4 rs_5 (by first | omega | (simp only [List.length_append, List.length_cons, List.length_nil, List.length_replicate, List.length_set]; omega)) (by first | omega | (simp only [List.length_append, List.length_cons, List.length_nil, List.length_replicate, List.length_set]; omega))) rfl rfl rfl ?_
  intro v79 q79 hq79
  obtain ⟨cs79, rfl, rl79⟩ := hq79
  refine asg rfl rfl (zD (gq_in (zB (zA (mv rfl rfl (gv (zV (q := 1) rfl rfl (by omega) (by omega)) rfl (asg rfl rfl (zD ?_))))))))
  refine yJ ((f + 1), (OU ++ [p]), v79, cs79, h1) ?_ ?_ ⟨rfl, rfl, rfl, trivial⟩ rfl rfl
  ·
   refine ⟨((hmmf.trans hmmp).trans hh1), ?_⟩
   refine ⟨rl79, ?_⟩
   exact ⟨⟨by omega, (fill_next hf2 hf3 hpz).1⟩, (fill_next hf2 hf3 hpz).2⟩
  dsimp only
  omega
 have hO : ∀ u, u < L.length → OU.getD u (0 : Int) = pZ L 0 1 u := fun u hu => hf3 u (by omega)
 have hlo : OU.length = L.length := by omega
 refine gc_exit (zZ (zZ (gx_here (zB (zC (zC (zA (asg (v := vI (0)) rfl rfl (zD (zB (zQ ?_)))))))))))
 refine gc_loop (ι := Nat × Mem) (fun (v, mvv) => MLe mf mvv ∧ (v ≤ L.length ∧ ∀ a, a < v → ¬ lostP L 0 1 a ∧ ∀ b, b < L.length → ¬ sibP L 0 1 a b)) (fun (v, mvv) => [(0, vL), (8, s8_2), (11, vI ↑v)]) (fun (v, mvv) => [.gs 3 1 s8_2 OU.length cs_3]) (fun (v, mvv) => mvv) (fun (v, mvv) => L.length - v) (0, mf) ?_ ⟨rfl, rfl, rfl, trivial⟩ rfl rfl ?_
 ·
  refine ⟨MLe.refl _, ?_⟩
  exact ⟨by omega, fun a h => by omega⟩
 intro x hx
 obtain ⟨v, mvv⟩ := x
 obtain ⟨hmmvv, hinv⟩ := hx
 show GC _ _ _ _ _ _ [(0, vL), (8, s8_2), (11, vI ↑v)] [.gs 3 1 s8_2 OU.length cs_3] mvv
 obtain ⟨hv1, hv2⟩ := hinv
 refine zC (zC (zA (mv rfl rfl (mv rfl rfl ?_))))
 replace rL := rL.mono hmmvv
 refine gv (ov_len_sr Tryz.underlying27 rfl rL) rfl (gv (yH rfl rfl) rfl (zD (zB ?_)))
 refine zH rfl (fun hc83 => ?_) (fun hc83 => ?_)
 ·
  refine zI (zB (zC (zQ (zC (zC (zA (mv rfl rfl (mv rfl rfl (gl_x (F := fun v_ => AtP (rpS (rpT (rpQ k))) mvv v_ (L.getD v [])) (ox_idx_s [] v Tryz.underlying27 ty36 rfl rfl rL rfl (by omega) (show 0 < 1 from by decide)) mem0 rfl ?_)))))))))
  intro v88 r88
  refine gl_x (F := fun v_ => (rpS (rpT (rpQ k))).Is mvv v_ (L.getD v [])) (yK ty36 rfl r88) mem0 rfl ?_
  intro v89 r89
  refine zJ (vs := [_]) rfl rfl rfl rfl Tryz.call25 ⟨rfl, trivial⟩ (fun w hs => o_r5_area hs r89 (by first | omega | assumption | exact Nat.le_trans (Nat.not_lt.1 (hE _ (by omega))) (by decide)) (by first | omega | assumption | exact Nat.le_trans (Nat.not_lt.1 (hE _ (by omega))) (by decide))) ?_
  intro v90 h1 hh1 r90
  change (rpQ 1000000000).Is h1 v90 (areaTo (L.getD v []) 0 1 (L.getD v []).length) at r90
  refine zJ (vs := [_]) rfl rfl rfl rfl Tryz.call55 ⟨rfl, trivial⟩ (fun w hs => o_rref_sign hs r90 (by decide)) ?_
  intro v91 h2 hh2 r91
  obtain rfl : v91 = vI (sgnQ (areaTo (L.getD v []) 0 1 (L.getD v []).length)) := r91
  have hsr91 := sgnQ_range (areaTo (L.getD v []) 0 1 (L.getD v []).length)
  refine gv (ov_geq_i (q := 0) rfl rfl) rfl (zD (zL (e' := [(0, _), (8, _), (11, _), (92, _)]) ⟨rfl, rfl, rfl, rfl, trivial⟩ (zB ?_)))
  refine zH rfl (fun hc92 => ?_) (fun hc92 => ?_)
  ·
   refine gc_exit (zZ (gx_here (zB (zA (mv rfl rfl (gv (zV (q := 1) rfl rfl (by omega) (by omega)) rfl (asg rfl rfl (zD ?_))))))))
   refine yJ ((v + 1), h2) ?_ ?_ ⟨rfl, rfl, rfl, trivial⟩ rfl rfl
   ·
    refine ⟨((hmmvv.trans hh1).trans hh2), ?_⟩
    exact ⟨by omega, one_step (Q := fun a => ¬ lostP L 0 1 a ∧ ∀ b, b < L.length → ¬ sibP L 0 1 a b) hv2 (no_sib (ge_pos hF (hS v (by omega)) hc92))⟩
   dsimp only
   omega
  refine zI (zB (zC (zA (asg (v := vI (0)) rfl rfl (zD (zB (zQ ?_)))))))
  refine gc_loop (ι := Nat × Mem) (fun (w, mw) => MLe h2 mw ∧ ((w ≤ L.length ∧ (0 < w → ¬ lostP L 0 1 v)) ∧ ∀ b, b < w → ¬ sibP L 0 1 v b)) (fun (w, mw) => [(0, vL), (8, s8_2), (11, vI ↑v), (12, vI ↑w)]) (fun (w, mw) => [.gs 3 1 s8_2 OU.length cs_3]) (fun (w, mw) => mw) (fun (w, mw) => L.length - w) (0, h2) ?_ ⟨rfl, rfl, rfl, rfl, trivial⟩ rfl rfl ?_
  ·
   refine ⟨MLe.refl _, ?_⟩
   exact ⟨⟨by omega, fun h => by omega⟩, fun b h => by omega⟩
  intro x hx
  obtain ⟨w, mw⟩ := x
  obtain ⟨hmmw, hinv⟩ := hx
  show GC _ _ _ _ _ _ [(0, vL), (8, s8_2), (11, vI ↑v), (12, vI ↑w)] [.gs 3 1 s8_2 OU.length cs_3] mw
  obtain ⟨⟨hw1, hw3⟩, hw2⟩ := hinv
  refine zC (zC (zA (mv rfl rfl (mv rfl rfl ?_))))
  replace rL := rL.mono ((hh1.trans hh2).trans hmmw)
  refine gv (ov_len_sr Tryz.underlying27 rfl rL) rfl (gv (yH rfl rfl) rfl (zD (zB ?_)))
  refine zH rfl (fun hc96 => ?_) (fun hc96 => ?_)
  ·
   refine zI (zB (zC (zQ (zC ?_))))
   refine gc_draw 33 _ [] [(0, .q), (1, .q), (2, .q), (3, .q), (4, .q), (5, .q), (6, .q), (7, .q), (8, .q), (9, .q), (10, .q), (11, .q), (12, .q), (13, .q), (14, .q), (15, .q), (16, .q), (17, .q), (18, .q), (19, .q), (20, .q), (21, .q), (22, .q), (23, .q), (24, .q), (25, .q), (26, .q), (27, .q), (28, .q), (29, .c), (30, .q), (31, .q), (32, .q)] mixed (fun x hx => by cases hx) (chk_of [0, 0, 3, 4, 8, 16, 32, 32, 224, 288, 512, 512, 3584, 4608, 512, 512, 49664, 66048, 139776, 262688, 524832, 1048576, 1048576, 7340032, 9437184, 1048576, 1048576, 101711872, 135266304, 286261248, 537919488, 1074790432, 2147483680] [8589934591, 8589934591, 8589934588, 8589934587, 8589934583, 8589934575, 8589934559, 8589934559, 8589934367, 8589934303, 8589934079, 8589934079, 8589931007, 8589929983, 8589934079, 8589934079, 8589884927, 8589868543, 8589794815, 8589671903, 8589410271, 8588886015, 8588886015, 8582594559, 8580497407, 8588886015, 8588886015, 8488222719, 8454668287, 8303673343, 8052015103, 7515144159, 6442450911] (by kernel_rfl)) (fun x hx => by cases hx) (fun r hr => hr) (w_q rfl (fun h' L' hh hR => zF rfl) rfl (w_q rfl (fun h' L' hh hR => zF rfl) rfl (w_q rfl (fun h' L' hh hR => (ov_index_os v (hR _ (.head _)) Tryz.underlying22 Tryz.sizeOf3 rfl rfl rfl (by first | omega | (simp only [List.length_append, List.length_cons, List.length_nil, List.length_replicate, List.length_set]; omega)) (by decide)).cv (show _ = elemPtr 1 s8_2 ((v * 1 + 0)) from congrArg (elemPtr 1 s8_2) (by rfl))) rfl ?_)))
   replace rl_4 := rl_4.mono (((hmmvv.trans hh1).trans hh2).trans hmmw)
   refine w_qx (F := fun v_ => rpI.Is mw v_ (OU.getD v (0 : Int))) rfl (ox_load_os ty3 (Pc.arr (Pc.here _) (0 : Int) v (by first | omega | (simp only [List.length_append, List.length_cons, List.length_nil, List.length_replicate, List.length_set]; omega))) rfl (by decide) rfl rl_4 rfl) (mem1 (.head _)) rfl ?_
   intro v102 r102
   obtain ⟨rfl, hl102, hu102⟩ := of_i r102
   refine w_q rfl (fun h' L' hh hR => yH (q := 0) rfl rfl) rfl (w_q rfl (fun h' L' hh hR => zF rfl) rfl ?_)
   refine prop_cases ((OU.getD v (0 : Int)) < (0 : Int)) (fun hg_6 => ?_) (fun hg_6 => ?_)
   ·
    rw [yI hg_6]
    refine zM rfl rfl rfl rfl rfl (zM rfl rfl rfl rfl rfl (zM rfl rfl rfl rfl rfl (zM rfl rfl rfl rfl rfl (w_q_offu rfl rfl rfl rfl (w_q_offu rfl rfl rfl rfl (w_q_offu rfl rfl rfl rfl (w_q_offu rfl rfl rfl rfl (w_q_offu rfl rfl rfl rfl (w_q_offu rfl rfl rfl rfl (w_q_offu rfl rfl rfl rfl (w_q_offu rfl rfl rfl rfl (w_q_offu rfl rfl rfl rfl (zM rfl rfl rfl rfl rfl ?_)))))))))))))
    refine zM rfl rfl rfl rfl rfl (w_q_offu rfl rfl rfl rfl (w_q_offu rfl rfl rfl rfl (w_q_offu rfl rfl rfl rfl (w_q_offu rfl rfl rfl rfl (w_q_offu rfl rfl rfl rfl (w_q_offu rfl rfl rfl rfl (w_q_offu rfl rfl rfl rfl (w_q_offu rfl rfl rfl rfl ?_))))))))
    refine w_c rfl (s_offu rfl rfl rfl (w_q_offu rfl rfl rfl rfl (zM rfl rfl rfl rfl rfl (w_q rfl (fun h' L' hh hR => yF rfl rfl) rfl (w_nil (zL (e' := [(0, _), (8, _), (11, _), (12, _), (131, _)]) ⟨rfl, rfl, rfl, rfl, rfl, trivial⟩ (zB (gc_cond_t rfl (zC (zA (asg rfl rfl (asg (v := vI (33)) rfl rfl (zD ?_)))))))))))))
    refine zB (zN (gr_in (zO (zO (gr_in (gr_in (zO (zO (gr_in (zO (gq_body2 rfl rfl rfl ?_)))))))))))
    refine ⟨_, ?_, (Rp.Is.cast (is_nil _) (by exact (show nestE L 0 1 = 33 ∧ nestL L 0 1 = [] from nest_33 (by omega) hE hS hX (.inl ⟨v, by omega, lost_of hc92 (hO v (by omega)) (by assumption)⟩)).2.symm))⟩
    rw [(show nestE L 0 1 = 33 ∧ nestL L 0 1 = [] from nest_33 (by omega) hE hS hX (.inl ⟨v, by omega, lost_of hc92 (hO v (by omega)) (by assumption)⟩)).1]
   rw [yA hg_6]
   refine w_q_on rfl rfl rfl (fun h' L' hh hR => zF rfl) rfl (w_q_on rfl rfl rfl (fun h' L' hh hR => zF rfl) rfl (w_q_on rfl rfl rfl (fun h' L' hh hR => ov_neq_i rfl rfl) rfl (w_q_on rfl rfl rfl (fun h' L' hh hR => zF rfl) rfl ?_)))
   refine prop_cases ((↑w : Int) ≠ (↑v : Int)) (fun hg_7 => ?_) (fun hg_7 => ?_)
   ·
    rw [yI hg_7]
    refine w_q_on rfl rfl rfl (fun h' L' hh hR => zF rfl) rfl (w_q_on rfl rfl rfl (fun h' L' hh hR => zF rfl) rfl (w_q_on rfl rfl rfl (fun h' L' hh hR => (ov_index_os w (hR _ (.head _)) Tryz.underlying22 Tryz.sizeOf3 rfl rfl rfl (by first | omega | (simp only [List.length_append, List.length_cons, List.length_nil, List.length_replicate, List.length_set]; omega)) (by decide)).cv (show _ = elemPtr 1 s8_2 ((w * 1 + 0)) from congrArg (elemPtr 1 s8_2) (by rfl))) rfl (w_qx_on (F := fun v_ => rpI.Is mw v_ (OU.getD w (0 : Int))) rfl rfl rfl (ox_load_os ty3 (Pc.arr (Pc.here _) (0 : Int) w (by first | omega | (simp only [List.length_append, List.length_cons, List.length_nil, List.length_replicate, List.length_set]; omega))) rfl (by decide) rfl rl_4 rfl) (mem1 (.head _)) rfl ?_)))
    intro v112 r112
    obtain ⟨rfl, hl112, hu112⟩ := of_i r112
    refine w_q_on rfl rfl rfl (fun h' L' hh hR => zF rfl) rfl (w_q_on rfl rfl rfl (fun h' L' hh hR => zF rfl) rfl (w_q_on rfl rfl rfl (fun h' L' hh hR => (ov_index_os v (hR _ (.head _)) Tryz.underlying22 Tryz.sizeOf3 rfl rfl rfl (by first | omega | (simp only [List.length_append, List.length_cons, List.length_nil, List.length_replicate, List.length_set]; omega)) (by decide)).cv (show _ = elemPtr 1 s8_2 ((v * 1 + 0)) from congrArg (elemPtr 1 s8_2) (by rfl))) rfl (w_qx_on (F := fun v_ => rpI.Is mw v_ (OU.getD v (0 : Int))) rfl rfl rfl (ox_load_os ty3 (Pc.arr (Pc.here _) (0 : Int) v (by first | omega | (simp only [List.length_append, List.length_cons, List.length_nil, List.length_replicate, List.length_set]; omega))) rfl (by decide) rfl rl_4 rfl) (mem1 (.head _)) rfl ?_)))
    intro v116 r116
    obtain ⟨rfl, hl116, hu116⟩ := of_i r116
    refine w_q_on rfl rfl rfl (fun h' L' hh hR => ov_eql_i rfl rfl) rfl (w_q_on rfl rfl rfl (fun h' L' hh hR => yF rfl rfl) rfl (w_q_on rfl rfl rfl (fun h' L' hh hR => zF rfl) rfl ?_))
    refine prop_cases ((OU.getD w (0 : Int)) = (OU.getD v (0 : Int))) (fun hg_8 => ?_) (fun hg_8 => ?_)
    ·
     rw [yI hg_8]
     refine w_q_on rfl rfl rfl (fun h' L' hh hR => zF rfl) rfl (w_q_on rfl rfl rfl (fun h' L' hh hR => zF rfl) rfl (w_qx_on (F := fun v_ => AtP (rpS (rpT (rpQ k))) mw v_ (L.getD w [])) rfl rfl rfl (ox_idx_s [] w Tryz.underlying27 ty36 rfl rfl rL rfl (by omega) (show 0 < 1 from by decide)) mem0 rfl ?_))
     intro v122 r122
     refine w_qx_on (F := fun v_ => (rpS (rpT (rpQ k))).Is mw v_ (L.getD w [])) rfl rfl rfl (yK ty36 rfl r122) mem0 rfl ?_
     intro v123 r123
     refine w_q_on rfl rfl rfl (fun h' L' hh hR => zF rfl) rfl (w_q_on rfl rfl rfl (fun h' L' hh hR => zF rfl) rfl (w_qx_on (F := fun v_ => AtP (rpS (rpT (rpQ k))) mw v_ (L.getD v [])) rfl rfl rfl (ox_idx_s [] v Tryz.underlying27 ty36 rfl rfl rL rfl (by omega) (show 0 < 1 from by decide)) mem0 rfl ?_))
     intro v126 r126
     refine w_qx_on (F := fun v_ => (rpS (rpT (rpQ k))).Is mw v_ (L.getD v [])) rfl rfl rfl (yK ty36 rfl r126) mem0 rfl ?_
     intro v127 r127
     refine w_c rfl (s_on rfl rfl ?_)
     refine yO (vs := [_, _]) Tryz.call57 ⟨rfl, rfl, trivial⟩ (fun w hs => o_r5_within hs r123 r127 (by first | omega | assumption | exact Nat.le_trans (Nat.not_lt.1 (hE _ (by omega))) (by decide)) (by first | omega | assumption | exact Nat.le_trans (Nat.not_lt.1 (hE _ (by omega))) (by decide)) (by first | omega | assumption | exact Nat.le_trans (Nat.not_lt.1 (hE _ (by omega))) (by decide))) rfl ?_
     intro v128 h3 hh3 r128
     obtain rfl : v128 = vI (wiZ (L.getD w []) (L.getD v []) 0 1) := r128
     have hwz128 := with_range (L.getD w []) (L.getD v []) 0 1 (L.getD v []).length
     refine w_q_on rfl rfl rfl (fun h' L' hh hR => ov_gtr_i (q := 0) rfl rfl) rfl (w_q_on rfl rfl rfl (fun h' L' hh hR => yF rfl rfl) rfl (w_q rfl (fun h' L' hh hR => yD rfl rfl) rfl (w_nil (zL (e' := [(0, _), (8, _), (11, _), (12, _), (131, _)]) ⟨rfl, rfl, rfl, rfl, rfl, trivial⟩ (zB ?_)))))
     refine zH rfl (fun hc131 => ?_) (fun hc131 => ?_)
     ·
      have hsib : sibP L 0 1 v w := ⟨⟨⟨by omega, by have := not_lost (hO v (by omega)) (by assumption); rw [← hO v (by omega)]; omega⟩, by rw [← hO w (by omega), ← hO v (by omega)]; assumption⟩, hc131⟩
      refine zC (zA (asg rfl rfl (asg (v := vI (33)) rfl rfl (zD (zB (zN (gr_in (zO (zO (gr_in (gr_in (zO (zO ?_)))))))))))))
      refine gr_in (zO (gq_body2 rfl rfl rfl ?_))
      refine ⟨_, ?_, (Rp.Is.cast (is_nil _) (by exact (show nestE L 0 1 = 33 ∧ nestL L 0 1 = [] from nest_33 (by omega) hE hS hX (.inr ⟨v, w, by omega, by omega, hsib⟩)).2.symm))⟩
      rw [(show nestE L 0 1 = 33 ∧ nestL L 0 1 = [] from nest_33 (by omega) hE hS hX (.inr ⟨v, w, by omega, by omega, hsib⟩)).1]
     refine zI (gq_in (zB (zA (mv rfl rfl (gv (zV (q := 1) rfl rfl (by omega) (by omega)) rfl (asg rfl rfl (zD ?_)))))))
     refine yJ ((w + 1), h3) ?_ ?_ ⟨rfl, rfl, rfl, rfl, trivial⟩ rfl rfl
     ·
      refine ⟨(hmmw.trans hh3), ?_⟩
      exact ⟨⟨by omega, fun _ => not_lost (hO v (by omega)) (by assumption)⟩, one_step (Q := fun b => ¬ sibP L 0 1 v b) hw2 (fun e => hc131 e.2)⟩
     dsimp only
     omega
    rw [yA hg_8]
    refine zM rfl rfl rfl rfl rfl (zM rfl rfl rfl rfl rfl (zM rfl rfl rfl rfl rfl (zM rfl rfl rfl rfl rfl (zM rfl rfl rfl rfl rfl (zM rfl rfl rfl rfl rfl (zM rfl rfl rfl rfl rfl (zM rfl rfl rfl rfl rfl ?_)))))))
    refine w_c rfl (s_off rfl rfl rfl rfl (zM rfl rfl rfl rfl rfl (w_q_on rfl rfl rfl (fun h' L' hh hR => yD rfl rfl) rfl (w_q rfl (fun h' L' hh hR => yD rfl rfl) rfl (w_nil (zL (e' := [(0, _), (8, _), (11, _), (12, _), (131, _)]) ⟨rfl, rfl, rfl, rfl, rfl, trivial⟩ (zB (gc_cond_f rfl (zI (gq_in (zB (zA (mv rfl rfl ?_)))))))))))))
    refine gv (zV (q := 1) rfl rfl (by omega) (by omega)) rfl (asg rfl rfl (zD ?_))
    refine yJ ((w + 1), mw) ?_ ?_ ⟨rfl, rfl, rfl, rfl, trivial⟩ rfl rfl
    ·
     refine ⟨hmmw, ?_⟩
     exact ⟨⟨by omega, fun _ => not_lost (hO v (by omega)) (by assumption)⟩, one_step (Q := fun b => ¬ sibP L 0 1 v b) hw2 (fun e => absurd e.1.2 (by rw [← hO w (by omega), ← hO v (by omega)]; assumption))⟩
    dsimp only
    omega
   rw [yA hg_7]
   refine zM rfl rfl rfl rfl rfl (zM rfl rfl rfl rfl rfl (zM rfl rfl rfl rfl rfl (zM rfl rfl rfl rfl rfl (zM rfl rfl rfl rfl rfl (zM rfl rfl rfl rfl rfl (zM rfl rfl rfl rfl rfl (zM rfl rfl rfl rfl rfl (zM rfl rfl rfl rfl rfl (w_q_on rfl rfl rfl (fun h' L' hh hR => yD rfl rfl) rfl (w_q_on rfl rfl rfl (fun h' L' hh hR => zF rfl) rfl (zM rfl rfl rfl rfl rfl (zM rfl rfl rfl rfl rfl (zM rfl rfl rfl rfl rfl ?_)))))))))))))
   refine zM rfl rfl rfl rfl rfl (zM rfl rfl rfl rfl rfl (zM rfl rfl rfl rfl rfl (zM rfl rfl rfl rfl rfl (zM rfl rfl rfl rfl rfl ?_))))
   refine w_c rfl (s_off rfl rfl rfl rfl (zM rfl rfl rfl rfl rfl (w_q_on rfl rfl rfl (fun h' L' hh hR => yD rfl rfl) rfl (w_q rfl (fun h' L' hh hR => yD rfl rfl) rfl (w_nil (zL (e' := [(0, _), (8, _), (11, _), (12, _), (131, _)]) ⟨rfl, rfl, rfl, rfl, rfl, trivial⟩ (zB (gc_cond_f rfl (zI (gq_in (zB (zA (mv rfl rfl ?_)))))))))))))
   refine gv (zV (q := 1) rfl rfl (by omega) (by omega)) rfl (asg rfl rfl (zD ?_))
   refine yJ ((w + 1), mw) ?_ ?_ ⟨rfl, rfl, rfl, rfl, trivial⟩ rfl rfl
   ·
    refine ⟨hmmw, ?_⟩
    exact ⟨⟨by omega, fun _ => not_lost (hO v (by omega)) (by assumption)⟩, one_step (Q := fun b => ¬ sibP L 0 1 v b) hw2 (fun e => absurd e.1.1.1 (by omega))⟩
   dsimp only
   omega
  refine gc_exit (zZ (zZ (gx_here (gq_in (zB (zA (mv rfl rfl (gv (zV (q := 1) rfl rfl (by omega) (by omega)) rfl (asg rfl rfl (zD ?_))))))))))
  refine yJ ((v + 1), mw) ?_ ?_ ⟨rfl, rfl, rfl, trivial⟩ rfl rfl
  ·
   refine ⟨(((hmmvv.trans hh1).trans hh2).trans hmmw), ?_⟩
   exact ⟨by omega, one_step (Q := fun a => ¬ lostP L 0 1 a ∧ ∀ b, b < L.length → ¬ sibP L 0 1 a b) hv2 ⟨hw3 (by omega), fun b hb => hw2 b (by omega)⟩⟩
  dsimp only
  omega
 have hB : ∀ a b, a < L.length → b < L.length → ¬ sibP L 0 1 a b := fun a b ha hb => (hv2 a (by omega)).2 b hb
 have hL : ∀ a, a < L.length → ¬ lostP L 0 1 a := fun a ha => (hv2 a (by omega)).1
 refine gc_exit (zZ (zZ (gx_here (zB (zC (zA (mv rfl rfl (asg rfl rfl (asg (v := vI (0)) rfl rfl (zD (zB (zN ?_))))))))))))
 replace rl_4 := rl_4.mono hmmvv
 refine gq_freezex (A := []) (ρ := rpI) rl_4 ?_
 intro h1 hh1 rs_9
 refine gq_body2 rfl rfl rfl ?_
 refine ⟨_, ?_, (Rp.Is.cast rs_9 (by exact (show nestE L 0 1 = 0 ∧ nestL L 0 1 = OU from nest_0 (by omega) hE hS hX hL hB hlo hO).2.symm))⟩
 rw [(show nestE L 0 1 = 0 ∧ nestL L 0 1 = OU from nest_0 (by omega) hE hS hX hL hB hlo hO).1]

end Go.Proofs.YtfpjclgbieppeaaGreat


namespace Go.Proofs.YtfpjclgbieppeaaGreat
open Bk Go
set_option linter.unusedVariables false
set_option linter.unusedSimpArgs false
set_option maxRecDepth 10000

theorem law25_polygonnests {w0 : World} {h0 : Mem}  (hs : MLe h0 (mem w0)) {vl : Value} {xsl : List Int} (hl : Is h0 vl xsl) {n : Nat} (hn : n < 256) :
    Calls Tryz.prog 5 #[vl, vU .u8 n] w0 (Ret w0 h0 (fun _ r => r = .bool true)) := by
 have hlenl := hl.lt63
 refine zR (n := 79) (e := [(0, vl), (1, vU .u8 n)]) (vs := [vl, vU .u8 n]) Tryz.func5 rfl rfl (Nat.le_of_ble_eq_true rfl) hs ⟨rfl, rfl, trivial⟩ (zC (zA (asg rfl rfl (zD (zB (zC (zC (zA (mv rfl rfl ?_)))))))))
 refine zJ (vs := [_]) rfl rfl rfl rfl Tryz.call6 ⟨rfl, trivial⟩ (fun w hs => made_light hs hl) ?_
 intro v15 h1 hh1 hr15
 subst hr15
 refine gv (ov_not rfl) rfl (zD (zB ?_))
 refine zH rfl (fun hc16 => ?_) (fun hc16 => ?_)
 ·
  refine zC (zA ?_)
  refine zJ (vs := []) rfl rfl rfl rfl Tryz.call7 trivial (fun w hs => law25_sane hs) ?_
  intro v17 h2 hh2 hr17
  subst hr17
  refine asg rfl rfl (zD (zB (zN (zO (zW rfl rfl ?_)))))
  rfl
 refine zI (zB (zC (zA (mv rfl rfl ?_))))
 replace hl := hl.mono hh1
 refine gl_call_own (vs := [_]) rfl rfl rfl rfl Tryz.call8 ⟨rfl, trivial⟩ (fun w hs => made_roll hs hl) ?_
 intro v19 h2 L19 hh2 hr19
 obtain ⟨b19, rfl, rfl⟩ := hr19
 refine asg rfl rfl (zD (zB (zC (zA (mv rfl rfl (gv (ov_rem_u (k := .u8) (q := 2) rfl rfl (by omega)) rfl (gv (ov_conv_ui (k := .u8) Tryz.underlying5 Tryz.underlying3 rfl (by omega)) rfl (gv (zV (p := 16) rfl rfl (by omega) (by omega)) rfl (zP (new_makex (ρ := (rpS (rpT (rpQ 1)))) (X := []) (by' := 24) (16 + n % 2) Tryz.underlying27 info36 rfl rfl rfl rfl zr_s rfl rfl (by omega) (by omega) (by omega) (by omega)) rfl rfl rfl ?_)))))))))
 intro v24 q24 hq24
 obtain ⟨cs24, rfl, rl24⟩ := hq24
 refine asg rfl rfl (zD (zL (e' := [(0, _), (5, _), (6, _)]) ⟨rfl, rfl, rfl, trivial⟩ (zB (zC (zC (zA (mv rfl rfl ?_)))))))
 replace hl := hl.mono hh2
 refine gl_call_mutO (A := [_]) (vs := [_]) Tryz.call9 ⟨rfl, trivial⟩ (fun X w hs => o_law_loops hl (by first | omega | exact Nat.zero_le _) hs) rfl ?_
 intro v26 g26 q26 o26 hg26 hr26
 obtain ⟨k26, p26, cs26, rfl, hk26, rfl, hx26, rl26⟩ := hr26
 refine mv rfl rfl ?_
 replace hl := hl.mono hg26
 refine gl_call_mutO (A := [_, _]) (vs := [_]) Tryz.call9 ⟨rfl, trivial⟩ (fun X w hs => o_law_loops hl (by first | omega | exact Nat.zero_le _) hs) rfl ?_
 intro v28 g28 q28 o28 hg28 hr28
 obtain ⟨k28, p28, cs28, rfl, hk28, rfl, hx28, rl28⟩ := hr28
 refine mv rfl rfl ?_
 replace hl := hl.mono hg28
 refine gl_call_mutO (A := [_, _, _]) (vs := [_]) Tryz.call28 ⟨rfl, trivial⟩ (fun X w hs => o_dice_base hl (by first | omega | exact Nat.zero_le _) hs) rfl ?_
 intro v30 g30 q30 o30 hg30 hr30
 obtain ⟨k30, p30, cs30, rfl, hk30, rfl, hx30, rl30⟩ := hr30
 refine mv rfl rfl (mv rfl rfl ?_)
 replace hl := hl.mono hg30
 refine gl_call_own (vs := [_]) rfl rfl rfl rfl Tryz.call8 ⟨rfl, trivial⟩ (fun w hs => made_roll hs hl) ?_
 intro v33 h3 L33 hh3 hr33
 obtain ⟨b33, rfl, rfl⟩ := hr33
 replace hl := hl.mono hh3
 refine gl_call_mut2 (A := []) (vs := [_]) Tryz.call21 ⟨rfl, trivial⟩ (fun X w hs => o_dice_loop hl (by first | omega | exact Nat.zero_le _) hs) rfl ?_
 intro v34 g34 q34 hg34 hr34
 obtain ⟨k34, p34, rfl, hk34, hx34, hr34⟩ := hr34
 refine zP (new_buildx (ρ := (rpS (rpT (rpQ 2)))) (m := 2) (xs := [p34, []]) (ps' := [(0, _), (1, _)]) Tryz.underlying27 info36 rfl rfl rfl zr_s ⟨rfl, rfl, rfl, rfl, trivial⟩ (fx_one rfl (Pc.arr (Pc.here _) [] 0 (by decide)) hr34 (fx_one rfl (Pc.arr (Pc.here _) [] 1 (by decide)) (is_nil _) fx_nil)) (show 2 * 1 ≤ 16777216 from by decide) (show 0 < 1 from by decide)) rfl rfl rfl ?_
 intro v35 q35 hq35
 obtain ⟨cs35, rfl, rl35⟩ := hq35
 replace rl26 := rl26.mono (((hg28.trans hg30).trans hh3).trans hg34)
 refine gl_freezex (A := [_, _, _, _]) (ρ := (rpS (rpT (rpQ 2)))) rl26 ?_
 intro h4 hh4 rs_1
 replace rl28 := rl28.mono (((hg30.trans hh3).trans hg34).trans hh4)
 refine gl_freezex (A := [_, _, _]) (ρ := (rpS (rpT (rpQ 2)))) rl28 ?_
 intro h5 hh5 rs_2
 replace rl30 := rl30.mono (((hh3.trans hg34).trans hh4).trans hh5)
 refine gl_freezex (A := [_, _]) (ρ := (rpS (rpT (rpQ 2)))) rl30 ?_
 intro h6 hh6 rs_3
 replace rl24 := rl24.mono (((((((hg26.trans hg28).trans hg30).trans hh3).trans hg34).trans hh4).trans hh5).trans hh6)
 refine gl_freezex (A := [_, _]) (ρ := (rpS (rpT (rpQ 1)))) rl24 ?_
 intro h7 hh7 rs_4
 replace rl35 := rl35.mono (((hh4.trans hh5).trans hh6).trans hh7)
 refine gl_freezex (A := []) (ρ := (rpS (rpT (rpQ 2)))) rl35 ?_
 intro h8 hh8 rs_5
 replace rs_1 := rs_1.mono (((hh5.trans hh6).trans hh7).trans hh8)
 replace rs_2 := rs_2.mono ((hh6.trans hh7).trans hh8)
 replace rs_3 := rs_3.mono (hh7.trans hh8)
 replace rs_4 := rs_4.mono hh8
 refine zP (new_buildx (ρ := (rpS (rpS (rpT (rpQ 2))))) (m := 6) (xs := [p26, p28, p30, (List.replicate (16 + n % 2) []), [], [p34, []]]) (ps' := [(0, _), (1, _), (2, _), (3, _), (4, _), (5, _)]) Tryz.underlying48 info27 rfl rfl rfl zr_s ⟨rfl, rfl, rfl, rfl, rfl, rfl, rfl, rfl, rfl, rfl, rfl, rfl, trivial⟩ (fx_one rfl (Pc.arr (Pc.here _) [] 0 (by decide)) rs_1 (fx_one rfl (Pc.arr (Pc.here _) [] 1 (by decide)) rs_2 (fx_one rfl (Pc.arr (Pc.here _) [] 2 (by decide)) rs_3 (fx_one rfl (Pc.arr (Pc.here _) [] 3 (by decide)) (rs_4.le (Le.s (Le.s (Le.t (Le.q (l := 2) (by decide)))))) (fx_one rfl (Pc.arr (Pc.here _) [] 4 (by decide)) (is_nil _) (fx_one rfl (Pc.arr (Pc.here _) [] 5 (by decide)) rs_5 fx_nil)))))) (show 6 * 1 ≤ 16777216 from by decide) (show 0 < 1 from by decide)) rfl rfl rfl ?_
 intro v36 q36 hq36
 obtain ⟨cs36, rfl, rl36⟩ := hq36
 refine gl_freezex (A := []) (ρ := (rpS (rpS (rpT (rpQ 2))))) rl36 ?_
 intro h9 hh9 rs_6
 refine gv (ov_len_sr Tryz.underlying48 rfl rs_6) rfl (mv (v := vI (0)) rfl rfl (zD (zL (e' := [(36, _), (37, _), (38, _)]) ⟨rfl, rfl, rfl, trivial⟩ (zB (zQ ?_)))))
 refine gc_loop (ι := Nat × Nat × Nat × Mem) (fun (i, kd_7, kd_9, ma) => MLe h9 ma ∧ (kd_7 ≤ xsl.length ∧ kd_9 ≤ xsl.length ∧ i ≤ 6)) (fun (i, kd_7, kd_9, ma) => [(36, v36), (37, vI (↑([p26, p28, p30, (List.replicate (16 + n % 2) []), [], [p34, []]]).length : Int)), (38, vI ↑i)]) (fun (i, kd_7, kd_9, ma) => [.var b33 57 [vl, vI ↑kd_7], .var b19 57 [vl, vI ↑kd_9]]) (fun (i, kd_7, kd_9, ma) => ma) (fun (i, kd_7, kd_9, ma) => 6 - i) (0, k34, k30, h9) ?_ ⟨rfl, rfl, rfl, trivial⟩ rfl rfl ?_
 ·
  refine ⟨MLe.refl _, ?_⟩
  refine ⟨(by omega), (by omega), ?_⟩
  exact (by omega)
 intro x hx
 obtain ⟨i, kd_7, kd_9, ma⟩ := x
 obtain ⟨hmma, hinv⟩ := hx
 show GC _ _ _ _ _ _ [(36, v36), (37, vI (↑([p26, p28, p30, (List.replicate (16 + n % 2) []), [], [p34, []]]).length : Int)), (38, vI ↑i)] [.var b33 57 [vl, vI ↑kd_7], .var b19 57 [vl, vI ↑kd_9]] ma
 obtain ⟨hkd_8, hkd_10, hinv⟩ := hinv
 have hi1 := hinv
 have h6 : [p26, p28, p30, (List.replicate (16 + n % 2) []), [], [p34, []]].length = 6 := rfl
 have hnl := nestL_len ([p26, p28, p30, (List.replicate (16 + n % 2) []), [], [p34, []]].getD i []) 0 1
 have hall : ∀ x, x ∈ ([p26, p28, p30, (List.replicate (16 + n % 2) []), [], [p34, []]].getD i []) → fineL x := getD_fine (by intro Y hY; simp only [List.mem_cons, List.not_mem_nil, or_false] at hY; rcases hY with rfl | rfl | rfl | rfl | rfl | rfl; exact fun x hx => (hx26.2.2 x hx).2; exact fun x hx => (hx28.2.2 x hx).2; exact fun x hx => (hx30.2.2 x hx).2; exact fine_rep; exact fun x hx => absurd hx (List.not_mem_nil); intro x hx; simp only [List.mem_cons, List.not_mem_nil, or_false] at hx; rcases hx with rfl | rfl; exact hx34.2; exact fine_nil) i
 refine zC (zA (gv (yH rfl rfl) rfl (zD (zB (zC ?_)))))
 refine zH rfl (fun hc39 => ?_) (fun hc39 => ?_)
 ·
  refine zI (zB (zC (zQ (zC (zA ?_)))))
  replace rs_6 := rs_6.mono hmma
  refine gl_x (F := fun v_ => AtP (rpS (rpS (rpT (rpQ 2)))) ma v_ ([p26, p28, p30, (List.replicate (16 + n % 2) []), [], [p34, []]].getD i [])) (ox_idx_s [] i Tryz.underlying48 ty27 rfl rfl rs_6 rfl (by omega) (show 0 < 1 from by decide)) mem0 rfl ?_
  intro v40 r40
  refine gl_x (F := fun v_ => (rpS (rpS (rpT (rpQ 2)))).Is ma v_ ([p26, p28, p30, (List.replicate (16 + n % 2) []), [], [p34, []]].getD i [])) (yK ty27 rfl r40) mem0 rfl ?_
  intro v41 r41
  refine asg rfl rfl (zD (zB (zC (zA (mv rfl rfl ?_)))))
  refine zJ (vs := [_]) rfl rfl rfl rfl Tryz.call29 ⟨rfl, trivial⟩ (fun w hs => o_pg_nest hs r41 (by decide)) ?_
  intro v44 h10 hh10 r44
  obtain ⟨v44_0, rfl, r44_0⟩ := r44
  change (rpS rpI).Is h10 v44_0 (nestL ([p26, p28, p30, (List.replicate (16 + n % 2) []), [], [p34, []]].getD i []) 0 1) at r44_0
  refine mv rfl rfl (gv (yB (vs := [_, _]) rfl rfl) rfl (gv (yB (vs := [_, _]) rfl rfl) rfl (asg rfl rfl (asg rfl rfl (zD (zB (zC (zA (mv rfl rfl ?_)))))))))
  replace r41 := r41.mono hh10
  refine zJ (vs := [_]) rfl rfl rfl rfl Tryz.call30 ⟨rfl, trivial⟩ (fun w hs => o_r5_nest hs r41 (by decide) (by first | omega | exact hall)) ?_
  intro v49 h11 hh11 r49
  obtain ⟨v49_0, rfl, r49_0⟩ := r49
  change (rpS rpI).Is h11 v49_0 (nestL ([p26, p28, p30, (List.replicate (16 + n % 2) []), [], [p34, []]].getD i []) 0 1) at r49_0
  refine mv rfl rfl (gv (yB (vs := [_, _]) rfl rfl) rfl (gv (yB (vs := [_, _]) rfl rfl) rfl (asg rfl rfl (asg rfl rfl (zD (zL (e' := [(36, _), (37, _), (38, _), (9, _), (10, _), (11, _), (12, _)]) ⟨rfl, rfl, rfl, rfl, rfl, rfl, rfl, trivial⟩ (zB (zC (zC (zA (mv rfl rfl (mv rfl rfl (gv (OpV.fa (by exact fun e => e rfl) (ov_neq_i rfl rfl)) rfl ?_)))))))))))))
  refine mv rfl rfl (zT rfl rfl rfl (mv rfl rfl (zT rfl rfl rfl ?_)))
  replace r44_0 := r44_0.mono hh11
  refine gv (ov_len_sr Tryz.underlying22 rfl r44_0) rfl (zT rfl rfl rfl (mv rfl rfl (zT rfl rfl rfl (gv (ov_len_sr Tryz.underlying22 rfl r49_0) rfl (zT rfl rfl rfl (gv (OpV.fa (by exact fun e => e rfl) (ov_neq_i rfl rfl)) rfl (gv (yD rfl rfl) rfl (zD (zL (e' := [(36, _), (37, _), (38, _), (9, _), (11, _), (61, _)]) ⟨rfl, rfl, rfl, rfl, rfl, rfl, trivial⟩ (zB (gc_cond_f rfl (zI (zB ?_)))))))))))))
  refine zC (zA (mv rfl rfl (gv (ov_len_sr Tryz.underlying22 rfl r44_0) rfl (mv (v := vI (0)) rfl rfl (zD (zB (zQ ?_)))))))
  refine gc_loop (ι := Nat × Nat × Nat × Mem) (fun (j, kd_11, kd_13, mb) => MLe h11 mb ∧ (kd_11 ≤ xsl.length ∧ kd_13 ≤ xsl.length ∧ j ≤ (nestL ([p26, p28, p30, (List.replicate (16 + n % 2) []), [], [p34, []]].getD i []) 0 1).length)) (fun (j, kd_11, kd_13, mb) => [(9, v44_0), (11, v49_0), (36, v36), (37, vI (↑([p26, p28, p30, (List.replicate (16 + n % 2) []), [], [p34, []]]).length : Int)), (38, vI ↑i), (63, vI (↑(nestL ([p26, p28, p30, (List.replicate (16 + n % 2) []), [], [p34, []]].getD i []) 0 1).length : Int)), (64, vI ↑j)]) (fun (j, kd_11, kd_13, mb) => [.var b33 57 [vl, vI ↑kd_11], .var b19 57 [vl, vI ↑kd_13]]) (fun (j, kd_11, kd_13, mb) => mb) (fun (j, kd_11, kd_13, mb) => (nestL ([p26, p28, p30, (List.replicate (16 + n % 2) []), [], [p34, []]].getD i []) 0 1).length - j) (0, kd_7, kd_9, h11) ?_ ⟨rfl, rfl, rfl, rfl, rfl, rfl, rfl, trivial⟩ rfl rfl ?_
  ·
   refine ⟨MLe.refl _, ?_⟩
   refine ⟨(by omega), (by omega), ?_⟩
   exact (by omega)
  intro x hx
  obtain ⟨j, kd_11, kd_13, mb⟩ := x
  obtain ⟨hmmb, hinv⟩ := hx
  show GC _ _ _ _ _ _ [(9, v44_0), (11, v49_0), (36, v36), (37, vI (↑([p26, p28, p30, (List.replicate (16 + n % 2) []), [], [p34, []]]).length : Int)), (38, vI ↑i), (63, vI (↑(nestL ([p26, p28, p30, (List.replicate (16 + n % 2) []), [], [p34, []]].getD i []) 0 1).length : Int)), (64, vI ↑j)] [.var b33 57 [vl, vI ↑kd_11], .var b19 57 [vl, vI ↑kd_13]] mb
  obtain ⟨hkd_12, hkd_14, hinv⟩ := hinv
  have hj1 := hinv
  refine zC (zA (gv (yH rfl rfl) rfl (zD (zB (zC ?_)))))
  refine zH rfl (fun hc65 => ?_) (fun hc65 => ?_)
  ·
   refine zI (zB (zC (zQ (zC (zA (mv rfl rfl (asg rfl rfl (zD (zB (zC ?_))))))))))
   refine gc_draw 9 _ [] [(0, .q), (1, .q), (2, .q), (3, .q), (4, .q), (5, .q), (6, .q), (7, .q), (8, .q)] mixed (fun x hx => by cases hx) (by kernel_rfl) (fun x hx => by cases hx) (fun r hr => hr) (w_q rfl (fun h' L' hh hR => zF rfl) rfl (w_q rfl (fun h' L' hh hR => zF rfl) rfl ?_))
   replace r44_0 := r44_0.mono hmmb
   refine w_qx (F := fun v_ => AtP rpI mb v_ ((nestL ([p26, p28, p30, (List.replicate (16 + n % 2) []), [], [p34, []]].getD i []) 0 1).getD j (0 : Int))) rfl (ox_idx_s (0 : Int) j Tryz.underlying22 ty3 rfl rfl r44_0 rfl (by omega) (show 0 < 1 from by decide)) mem0 rfl ?_
   intro v69 r69
   refine w_qx (F := fun v_ => rpI.Is mb v_ ((nestL ([p26, p28, p30, (List.replicate (16 + n % 2) []), [], [p34, []]].getD i []) 0 1).getD j (0 : Int))) rfl (yK ty3 rfl r69) mem0 rfl ?_
   intro v70 r70
   obtain ⟨rfl, hl70, hu70⟩ := of_i r70
   refine w_q rfl (fun h' L' hh hR => zF rfl) rfl (w_q rfl (fun h' L' hh hR => zF rfl) rfl ?_)
   replace r49_0 := r49_0.mono hmmb
   refine w_qx (F := fun v_ => AtP rpI mb v_ ((nestL ([p26, p28, p30, (List.replicate (16 + n % 2) []), [], [p34, []]].getD i []) 0 1).getD j (0 : Int))) rfl (ox_idx_s (0 : Int) j Tryz.underlying22 ty3 rfl rfl r49_0 rfl (by omega) (show 0 < 1 from by decide)) mem0 rfl ?_
   intro v73 r73
   refine w_qx (F := fun v_ => rpI.Is mb v_ ((nestL ([p26, p28, p30, (List.replicate (16 + n % 2) []), [], [p34, []]].getD i []) 0 1).getD j (0 : Int))) rfl (yK ty3 rfl r73) mem0 rfl ?_
   intro v74 r74
   obtain ⟨rfl, hl74, hu74⟩ := of_i r74
   refine w_q rfl (fun h' L' hh hR => OpV.fa (by exact fun e => e rfl) (ov_neq_i rfl rfl)) rfl (w_nil (zL (e' := [(9, _), (11, _), (36, _), (37, _), (38, _), (63, _), (64, _), (75, _)]) ⟨rfl, rfl, rfl, rfl, rfl, rfl, rfl, rfl, trivial⟩ (zB (gc_cond_f rfl (zI (gq_in (zB (zA (gv (zV (q := 1) rfl rfl (by omega) (by omega)) rfl (mv rfl rfl (zD ?_)))))))))))
   refine yJ ((j + 1), kd_11, kd_13, mb) ?_ ?_ ⟨rfl, rfl, rfl, rfl, rfl, rfl, rfl, trivial⟩ rfl rfl
   ·
    refine ⟨hmmb, ?_⟩
    refine ⟨(by omega), (by omega), ?_⟩
    exact (by omega)
   dsimp only
   omega
  refine gc_exit (zZ (zZ (gx_here (gq_in (zB (zA (gv (zV (q := 1) rfl rfl (by omega) (by omega)) rfl (mv rfl rfl (zD ?_)))))))))
  refine yJ ((i + 1), kd_11, kd_13, mb) ?_ ?_ ⟨rfl, rfl, rfl, trivial⟩ rfl rfl
  ·
   refine ⟨(((hmma.trans hh10).trans hh11).trans hmmb), ?_⟩
   refine ⟨(by omega), (by omega), ?_⟩
   exact (by omega)
  dsimp only
  omega
 refine gc_exit (zZ (zZ (gx_here (zB (zC (zA ?_))))))
 refine zJ (vs := []) rfl rfl rfl rfl Tryz.call7 trivial (fun w hs => law25_sane hs) ?_
 intro v78 h10 hh10 hr78
 subst hr78
 refine asg rfl rfl (zD (zB (zN (zW rfl rfl ?_))))
 rfl

end Go.Proofs.YtfpjclgbieppeaaGreat
