/- Texts that the proof needs, part 2. -/
import Derived.Test.YtghhjjmjpeehdaaGreatK1
import Derived.Deep.MidRow
namespace Go.Proofs.YtghhjjmjpeehdaaGreat
open Bk Go
set_option linter.unusedVariables false
set_option linter.unusedSimpArgs false
set_option maxRecDepth 10000
set_option maxHeartbeats 2000000 in
theorem nU {w0 : World} {h0 : Mem}  (hs : MLe h0 (mem w0)) {v v' : Value} {xs ys : List Nat} (hv : Us .u32 h0 v xs) (hv' : Us .u32 h0 v' ys) (hl : xs.length ≤ 1099511627776) (hl' : ys.length ≤ 1099511627776) :
    Calls Tryz.prog 133 #[v, v'] w0 (Ret w0 h0 (fun h z => ∃ q r, z = .tuple #[q, r, vI (if val ys = 0 then 3 else 0)] ∧ Us .u32 h q (zF (val xs / val ys)) ∧ Us .u32 h r (zF (if val ys = 0 then 0 else val xs % val ys)))) := by
 have hfx : Fit xs := hv.lt
 have hfy : Fit ys := hv'.lt
 have hlx := uE hfx
 have hly := uE hfy
 refine zP (n := 300) (e := [(0, v), (1, v')]) (vs := [v, v']) Tryz.func133 rfl rfl (Nat.le_of_ble_eq_true rfl) hs ⟨rfl, rfl, trivial⟩ (zC (zA (asg rfl rfl (asg rfl rfl (asg (v := vI (0)) rfl rfl (zD (zB (zC (zA (mv rfl rfl ?_))))))))))
 refine zM (vs := [_]) rfl rfl rfl rfl Tryz.call145 ⟨rfl, trivial⟩ (fun w hs => qM hs hv) ?_
 intro v27 h1 hh1 hr27
 replace hr27 := hr27.2
 refine mv rfl rfl ?_
 replace hv' := hv'.mono hh1
 refine zM (vs := [_]) rfl rfl rfl rfl Tryz.call145 ⟨rfl, trivial⟩ (fun w hs => qM hs hv') ?_
 intro v29 h2 hh2 hr29
 replace hr29 := hr29.2
 refine asg rfl rfl (asg rfl rfl (zD (zB (zC (zS (zC (zA (mv rfl rfl (gv (yA Tryz.underlying28 rfl hr29) rfl (gv (xZ (q := 0) rfl rfl) rfl (asg rfl rfl (zD (zJ (e' := [(0, _), (1, _), (30, _)]) ⟨rfl, rfl, rfl, trivial⟩ ?_)))))))))))))
 refine zB ?_
 refine zO rfl (fun hc30 => ?_) (fun hc30 => ?_)
 ·
  have hy0 : val ys = 0 := Classical.byContradiction fun hne => by have := wL.2 hne; omega
  refine zC (zA (asg rfl rfl (asg rfl rfl (asg (v := vI (3)) rfl rfl (zD (zB (zR (wY (zX (qF rfl rfl rfl rfl ?_))))))))))
  rw [hy0, Nat.div_zero, if_pos rfl, if_pos rfl, wK]
  exact ⟨_, _, rfl, Us.nil _ _, Us.nil _ _⟩
 have hyne : val ys ≠ 0 := wL.1 (by omega)
 refine zC (zA (mv rfl rfl (mv rfl rfl ?_)))
 replace hr27 := hr27.mono hh2
 refine zM (vs := [_, _]) rfl rfl rfl rfl Tryz.call129 ⟨rfl, rfl, trivial⟩ (fun w hs => nV hs hr27 hr29) ?_
 intro v37 h3 hh3 hr37
 subst hr37
 rw [zV, zV]
 refine gv (zW (q := 0) rfl rfl) rfl (asg rfl rfl (zD (zB ?_)))
 refine zO rfl (fun hc34 => ?_) (fun hc34 => ?_)
 ·
  have hlt := fO.1 hc34
  refine zC (zA (mv rfl rfl ?_))
  replace hr27 := hr27.mono hh3
  refine fY (vs := [_]) rfl rfl rfl rfl Tryz.call130 ⟨rfl, trivial⟩ (fun w hs => sE hs hr27 (by omega)) ?_
  intro v40 h4 L40 hh4 hr40
  obtain rfl := hr40
  refine asg rfl rfl (asg rfl rfl (wC (by exact vC _) ?_))
  intro h5 hh5 ho
  refine asg (v := vI (0)) rfl rfl (zD (zJ (e' := [(4, _), (5, _), (6, _)]) ⟨rfl, rfl, rfl, trivial⟩ (zB (zR (wY (zX (qF rfl rfl rfl rfl ?_)))))))
  rw [Nat.div_eq_of_lt hlt, Nat.mod_eq_of_lt hlt, if_neg (by omega), if_neg (by omega), wK]
  exact ⟨_, _, rfl, Us.nil _ _, ho⟩
 have hge : val ys ≤ val xs := Nat.le_of_not_lt fun hc => hc34 (fO.2 hc)
 refine zC (zA (mv rfl rfl ?_))
 replace hr29 := hr29.mono hh3
 refine gv (yA Tryz.underlying28 rfl hr29) rfl (gv (xZ (q := 1) rfl rfl) rfl (asg rfl rfl (zD (zB ?_))))
 refine zO rfl (fun hc41 => ?_) (fun hc41 => ?_)
 ·
  have hone : (zF (val ys)).length = 1 := by omega
  have hb0 : (zF (val ys)).getD 0 0 ≠ 0 := by have := gW (n := val ys) (by omega); rwa [hone] at this
  have hvy := bV hone
  rw [zV] at hvy
  refine wH (e' := [(0, _), (1, _)]) ⟨rfl, rfl, trivial⟩ (zC (zA (mv rfl rfl (mv rfl rfl (gv (yO (q := 0) (0) Tryz.underlying28 Tryz.sizeOf124 rfl rfl hr29 rfl (by omega)) rfl (gv (yS Tryz.isAgg124 rfl hr29 (by omega)) rfl ?_))))))
  have hb1 := hr29.get32 0
  replace hr27 := hr27.mono hh3
  refine zM (vs := [_, _]) rfl rfl rfl rfl Tryz.call150 ⟨rfl, rfl, trivial⟩ (fun w hs => nat_small hs hr27 (by omega) (by omega) (by omega)) ?_
  intro v50 h4 hh4 hr50
  obtain ⟨u50, rfl, hu50⟩ := hr50
  refine mv rfl rfl (gv (zN (vs := [_, _]) rfl rfl) rfl (gv (zN (vs := [_, _]) rfl rfl) rfl (asg rfl rfl (asg rfl rfl (zD (zJ (e' := [(7, _), (8, _)]) ⟨rfl, rfl, trivial⟩ (zB (zC (zA (mv rfl rfl (mv rfl rfl (zK (tE (kd := .u32) Tryz.underlying28 uA rfl rfl rfl) rfl rfl rfl ?_))))))))))))
  intro v55 r55 hr55
  obtain rfl := hr55
  refine wC (by intro z hz; simp only [List.mem_singleton] at hz; subst hz; exact Nat.lt_trans (Nat.mod_lt _ (by omega)) hb1) ?_
  intro h5 hh5 hfx1
  refine zM (vs := [_]) rfl rfl rfl rfl Tryz.call145 ⟨rfl, trivial⟩ (fun w hs => qM hs hfx1) ?_
  intro v56 h6 hh6 hr56
  replace hr56 := hr56.2
  refine asg rfl rfl (asg rfl rfl (asg (v := vI (0)) rfl rfl (zD (zB (zR (wY (zX (qF rfl rfl rfl rfl ?_))))))))
  replace hu50 := hu50.mono (hh5.trans hh6)
  rw [zV, ← hvy] at hu50
  rw [bV rfl, List.getD_cons_zero, zV, ← hvy] at hr56
  rw [if_neg (by omega), if_neg (by omega)]
  exact ⟨_, _, rfl, hu50, hr56⟩
 have hn2 : 2 ≤ (zF (val ys)).length := by omega
 refine wH (e' := [(0, _), (1, _)]) ⟨rfl, rfl, trivial⟩ (zL (yV (zB (zC (zA (mv rfl rfl (mv rfl rfl (gv (yA Tryz.underlying28 rfl hr29) rfl (gv (xT (q := 1) rfl rfl (by omega) (by omega)) rfl (gv (yO ((zF (val ys)).length - 1) Tryz.underlying28 Tryz.sizeOf124 rfl rfl hr29 (by omega) (by omega)) rfl (gv (yS Tryz.isAgg124 rfl hr29 (by omega)) rfl ?_)))))))))))
 have hgt := hr29.get32 ((zF (val ys)).length - 1)
 refine zM (vs := [_]) rfl rfl rfl rfl Tryz.call151 ⟨rfl, trivial⟩ (fun w hs => bits_lz32 hs (by omega)) ?_
 intro v63 h4 hh4 hr63
 subst hr63
 obtain ⟨s, hsd⟩ : ∃ s, s = 32 - vS ((zF (val ys)).getD ((zF (val ys)).length - 1) 0) := ⟨_, rfl⟩
 rw [← hsd]
 obtain ⟨hs32, hvl, hv1⟩ := oI (k := (zF (val ys)).length - 1) hyne (by omega) hsd
 refine asg rfl rfl (zD (zB (zC (zA (mv rfl rfl (mv rfl rfl ?_))))))
 replace hr27 := hr27.mono (hh3.trans hh4)
 refine fY (vs := [_, _]) rfl rfl rfl rfl Tryz.call152 ⟨rfl, rfl, trivial⟩ (fun w hs => iR hs hr27 (by omega) (by omega)) ?_
 intro v66 h5 L66 hh5 hr66
 obtain ⟨us66, rfl, hul66, huf66, huv66⟩ := hr66
 refine mv rfl rfl (mv rfl rfl ?_)
 replace hr29 := hr29.mono (hh4.trans hh5)
 refine fY (vs := [_, _]) rfl rfl rfl rfl Tryz.call152 ⟨rfl, rfl, trivial⟩ (fun w hs => iR hs hr29 (by omega) (by omega)) ?_
 intro v69 h6 L69 hh6 hr69
 obtain ⟨us69, rfl, hul69, huf69, huv69⟩ := hr69
 refine wC (by exact huf69) ?_
 intro h7 hh7 hvb
 refine zM (vs := [_]) rfl rfl rfl rfl Tryz.call145 ⟨rfl, trivial⟩ (fun w hs => qM hs hvb) ?_
 intro v70 h8 hh8 hr70
 replace hr70 := hr70.2
 rw [huv69, zV] at hr70
 refine asg rfl rfl (asg rfl rfl ?_)
 rw [zV] at huv66
 have hnla := xJ hge
 have hXla := jT (vC (val xs))
 rw [zV] at hXla
 have hYn := fC (n := val ys) (k := (zF (val ys)).length - 1) (by omega)
 have hst := div_start huf66 hXla huv66 (k := (zF (val ys)).length - 1) (by omega) hYn
 rw [show (zF (val xs)).length - ((zF (val ys)).length - 1) = (zF (val xs)).length + 1 - (zF (val ys)).length by omega] at hst
 have hvv := zV (val ys * 2 ^ s)
 have hfv : Fit (zF (val ys * 2 ^ s)) := vC _
 replace hvl : (zF (val ys * 2 ^ s)).length = (zF (val ys)).length := by omega
 generalize zF (val ys * 2 ^ s) = vs at *
 generalize hnd : (zF (val ys)).length = n at *
 generalize hlad : (zF (val xs)).length = la at *
 obtain ⟨V, hV⟩ : ∃ V, V = val ys * 2 ^ s := ⟨_, rfl⟩
 obtain ⟨U, hU⟩ : ∃ U, U = val xs * 2 ^ s := ⟨_, rfl⟩
 rw [← hV] at hvv hst
 rw [← hU] at huv66
 have hVn : V < 4294967296 ^ n := by rw [← hvv, ← hvl]; exact jT hfv
 have hVd := val_two hn2 hvl
 rw [hvv] at hVd
 have hvr := jT (kJ hfv (n - 2))
 rw [List.length_take, Nat.min_eq_left (by omega)] at hvr
 have hv2 := uZ hfv (n - 2)
 have hv1b := uZ hfv (n - 1)
 refine zD (zJ (e' := [(9, _), (10, _), (11, _)]) ⟨rfl, rfl, rfl, trivial⟩ (zB (zC (zA (mv rfl rfl (gv (yA Tryz.underlying28 rfl hr70) rfl ?_))))))
 rw [hvl]
 refine asg rfl rfl (zD (zB (zC (zA (mv rfl rfl (gv (rU (A := []) Tryz.underlying28 rfl) rfl ?_))))))
 rw [hul66]
 refine mv rfl rfl (gv (xT rfl rfl (by omega) (by omega)) rfl (qG (kd := .u32) (by' := 4) (la + 1 - n) Tryz.underlying28 uA rfl rfl rfl rfl rfl (by omega) (by omega) (by omega) (by omega) rfl ?_))
 intro v77
 refine asg rfl rfl (zD (zB (zC (zC (zA (mv rfl rfl (gv (rU (A := []) Tryz.underlying28 rfl) rfl ?_)))))))
 rw [List.length_replicate]
 refine gv (xT (q := 1) rfl rfl (by omega) (by omega)) rfl (asg rfl rfl (zD (zJ (e' := [(9, _), (10, _), (11, _), (12, _), (4, _), (13, _)]) ⟨rfl, rfl, rfl, rfl, rfl, rfl, trivial⟩ (zB (zS ?_)))))
 refine wR (ι := Nat × List Nat × List Nat) (fun (J, us, qs) => J ≤ la + 1 - n ∧ qs.length = la + 1 - n - J ∧ Fit qs ∧ us.length = la + 1 ∧ Fit us ∧ val us + 4294967296 ^ J * (val qs * V) = U ∧ val (us.drop J) < V) (fun (J, us, qs) => [(4, v77), (9, vI ↑s), (10, v66), (11, v70), (12, vI ↑n), (13, vI (↑J - 1))]) (fun (J, us, qs) => [.us 124 .u32 v77 (uW J qs), .us 124 .u32 v66 us]) (fun (J, us, qs) => h8) (fun (J, us, qs) => J) (la + 1 - n, us66, []) ?_ ⟨rfl, rfl, rfl, rfl, rfl, rfl, trivial⟩ ?_ rfl ?_
 ·
  exact ⟨Nat.le_refl _, by simp, fun x hx => by simp at hx, hul66, huf66, by rw [huv66]; simp [val], hst⟩
 ·
  try dsimp only [List.nil_append, List.cons_append]
  exact congrArg (fun z => [Res.us 124 .u32 v77 z, Res.us 124 .u32 v66 us66]) (pC _)
 intro x hx
 obtain ⟨J, us, qs⟩ := x
 obtain ⟨hJle, hql, hfq, hul, hfu, hval, hdr⟩ := hx
 show GC _ _ _ _ _ _ [(4, v77), (9, vI ↑s), (10, v66), (11, v70), (12, vI ↑n), (13, vI (↑J - 1))] [.us 124 .u32 v77 (uW J qs), .us 124 .u32 v66 us] h8
 refine zC (zC (zA (mv rfl rfl (gv (qL (q := 0) rfl rfl) rfl (zD (zB ?_))))))
 refine zO rfl (fun hc82 => ?_) (fun hc82 => ?_)
 ·
  refine zL (zB (zC (zS (zC ?_))))
  have hJ : 1 ≤ J := by omega
  have hz0 : ∀ i, J + n ≤ i → us.getD i 0 = 0 := fun i hi => pL (mE hfu (Nat.lt_trans hdr hVn)) hi
  obtain ⟨wr, hW, hwr⟩ := iE (j := J - 1) hn2 (fun i hi => hz0 i (by omega)) hfu
  have ha1 := uZ hfu (J - 1 + n)
  have ha2 := uZ hfu (J - 1 + n - 1)
  have ha3 := uZ hfu (J - 1 + n - 2)
  have ha0 := uZ hfu (J - 1)
  have hWV : val (us.drop (J - 1)) < 4294967296 * V := by
    rw [qU us (J - 1) (by omega), Nat.sub_add_cancel hJ]
    omega
  refine yI 18 _ [] [(0, .q), (1, .q), (2, .q), (3, .q), (4, .q), (5, .q), (6, .q), (7, .q), (8, .q), (9, .q), (10, .q), (11, .q), (12, .q), (13, .q), (14, .q), (15, .q), (16, .q), (17, .q)] xI (fun x hx => by cases hx) (by kernel_rfl) (fun x hx => by cases hx) (fun r hr => hr) (w_q rfl (fun h' L' hh hR => zG rfl) rfl (w_q rfl (fun h' L' hh hR => zG rfl) rfl (w_q rfl (fun h' L' hh hR => zG rfl) rfl (w_q rfl (fun h' L' hh hR => zQ rfl rfl (by omega) (by omega)) rfl (w_q rfl (fun h' L' hh hR => kB (hR _ (.tail _ (.head _))) (J - 1 + n) Tryz.underlying28 Tryz.sizeOf124 rfl rfl (by omega) (by omega)) rfl (w_q rfl (fun h' L' hh hR => gS (hR _ (.tail _ (.head _))) Tryz.isAgg124 rfl (by omega)) rfl (w_q rfl (fun h' L' hh hR => xE (k := .u32) (k' := .u64) (W := 18446744073709551616) Tryz.underlying124 Tryz.underlying122 rfl rfl rfl (by omega)) rfl (w_q rfl (fun h' L' hh hR => kH (k := .u64) (s := 32) (yk := .u64) (W := 18446744073709551616) rfl rfl rfl rfl) rfl (w_q rfl (fun h' L' hh hR => zG rfl) rfl (w_q rfl (fun h' L' hh hR => zG rfl) rfl (w_q rfl (fun h' L' hh hR => zG rfl) rfl (w_q rfl (fun h' L' hh hR => zQ rfl rfl (by omega) (by omega)) rfl (w_q rfl (fun h' L' hh hR => xT (q := 1) rfl rfl (by omega) (by omega)) rfl ?_)))))))))))))
  refine w_q rfl (fun h' L' hh hR => kB (hR _ (.tail _ (.head _))) (J - 1 + n - 1) Tryz.underlying28 Tryz.sizeOf124 rfl rfl (by omega) (by omega)) rfl (w_q rfl (fun h' L' hh hR => gS (hR _ (.tail _ (.head _))) Tryz.isAgg124 rfl (by omega)) rfl (w_q rfl (fun h' L' hh hR => xE (k := .u32) (k' := .u64) (W := 18446744073709551616) Tryz.underlying124 Tryz.underlying122 rfl rfl rfl (by omega)) rfl (w_q rfl (fun h' L' hh hR => fP (k := .u64) rfl rfl rfl (by simp only [ub]; omega) (by simp only [ub]; omega)) rfl ?_)))
  rw [fZ (by omega) (by omega)]
  obtain ⟨top, htop⟩ : ∃ t, t = us.getD (J - 1 + n) 0 * 4294967296 + us.getD (J - 1 + n - 1) 0 := ⟨_, rfl⟩
  rw [← htop]
  rw [← htop] at hW
  have htop2 := est_top hVd hW hvr hv2 hWV
  refine w_q rfl (fun h' L' hh hR => zY rfl) rfl (xB (zJ (e' := [(4, _), (9, _), (10, _), (11, _), (12, _), (13, _), (14, _)]) ⟨rfl, rfl, rfl, rfl, rfl, rfl, rfl, trivial⟩ (zB (zC ?_))))
  refine yI 18 _ [] [(0, .q), (1, .q), (2, .q), (3, .q), (4, .q), (5, .q), (6, .q), (7, .q), (8, .q), (9, .q), (10, .q), (11, .q), (12, .q), (13, .q), (14, .q), (15, .q), (16, .q), (17, .q)] xI (fun x hx => by cases hx) (by kernel_rfl) (fun x hx => by cases hx) (fun r hr => hr) (w_q rfl (fun h' L' hh hR => zG rfl) rfl (w_q rfl (fun h' L' hh hR => zG rfl) rfl (w_q rfl (fun h' L' hh hR => zG rfl) rfl (w_q rfl (fun h' L' hh hR => xT (q := 1) rfl rfl (by omega) (by omega)) rfl (w_q rfl (fun h' L' hh hR => yO (n - 1) Tryz.underlying28 Tryz.sizeOf124 rfl rfl (hr70.mono hh) (by omega) (by omega)) rfl (w_q rfl (fun h' L' hh hR => yS Tryz.isAgg124 rfl (hr70.mono hh) (by omega)) rfl (w_q rfl (fun h' L' hh hR => xE (k := .u32) (k' := .u64) (W := 18446744073709551616) Tryz.underlying124 Tryz.underlying122 rfl rfl rfl (by omega)) rfl (w_q rfl (fun h' L' hh hR => sH (k := .u64) (W := 18446744073709551616) rfl rfl rfl rfl (by omega) (by omega)) rfl (w_q rfl (fun h' L' hh hR => zG rfl) rfl (w_q rfl (fun h' L' hh hR => zG rfl) rfl (w_q rfl (fun h' L' hh hR => zG rfl) rfl (w_q rfl (fun h' L' hh hR => xT (q := 1) rfl rfl (by omega) (by omega)) rfl (w_q rfl (fun h' L' hh hR => yO (n - 1) Tryz.underlying28 Tryz.sizeOf124 rfl rfl (hr70.mono hh) (by omega) (by omega)) rfl ?_)))))))))))))
  refine w_q rfl (fun h' L' hh hR => yS Tryz.isAgg124 rfl (hr70.mono hh) (by omega)) rfl (w_q rfl (fun h' L' hh hR => xE (k := .u32) (k' := .u64) (W := 18446744073709551616) Tryz.underlying124 Tryz.underlying122 rfl rfl rfl (by omega)) rfl (w_q rfl (fun h' L' hh hR => sG (k := .u64) rfl rfl (by omega)) rfl (w_q rfl (fun h' L' hh hR => zY rfl) rfl (w_q rfl (fun h' L' hh hR => zY rfl) rfl (xB (zJ (e' := [(4, _), (9, _), (10, _), (11, _), (12, _), (13, _), (15, _), (16, _)]) ⟨rfl, rfl, rfl, rfl, rfl, rfl, rfl, rfl, trivial⟩ (zB ?_)))))))
  refine kV (ι := Nat) (fun (x1 : (Nat)) => x1 < 4294967296 ∧ val (us.drop (J - 1)) < (x1 + 1) * V ∧ x1 * V < val (us.drop (J - 1)) + V) (fun (x1 : (Nat)) => [(4, v77), (9, vI ↑s), (10, v66), (11, v70), (12, vI ↑n), (13, vI (↑J - 1)), (15, vU .u64 x1)]) (fun (x1 : (Nat)) => [.us 124 .u32 v77 (uW J qs), .us 124 .u32 v66 us]) (fun (x1 : (Nat)) => h8) ?_ ?_
  ·
   refine zS ?_
   refine wR (ι := Nat × Nat) (fun (x, r) => x * vs.getD (n - 1) 0 + r = top ∧ val (us.drop (J - 1)) < (x + 1) * V ∧ r < 4294967296) (fun (x, r) => [(4, v77), (9, vI ↑s), (10, v66), (11, v70), (12, vI ↑n), (13, vI (↑J - 1)), (15, vU .u64 x), (16, vU .u64 r)]) (fun (x, r) => [.us 124 .u32 v77 (uW J qs), .us 124 .u32 v66 us]) (fun (x, r) => h8) (fun (x, r) => x) (top / vs.getD (n - 1) 0, top % vs.getD (n - 1) 0) ?_ ⟨rfl, rfl, rfl, rfl, rfl, rfl, rfl, rfl, trivial⟩ rfl rfl ?_
   ·
    exact ⟨by rw [Nat.mul_comm]; exact Nat.div_add_mod _ _, g1 hVd hW ha3 hwr (by omega), Nat.lt_trans (Nat.mod_lt _ (by omega)) hv1b⟩
   intro x hx
   obtain ⟨x, r⟩ := x
   obtain ⟨hxt, hxl, hrb⟩ := hx
   show GC _ _ _ _ _ _ [(4, v77), (9, vI ↑s), (10, v66), (11, v70), (12, vI ↑n), (13, vI (↑J - 1)), (15, vU .u64 x), (16, vU .u64 r)] [.us 124 .u32 v77 (uW J qs), .us 124 .u32 v66 us] h8
   have hxb := est_le hxt htop2 hv1
   have hxv : x * vs.getD (n - 2) 0 ≤ 4294967297 * 4294967295 := Nat.mul_le_mul hxb (by omega)
   refine zC (zC ?_)
   refine gc_cases (4294967296 ≤ x) (fun hg => ?_) (fun hg => ?_)
   ·
    have hx1 : 1 ≤ x := by omega
    have hlow : val (us.drop (J - 1)) < x * V := Nat.lt_of_lt_of_le hWV (Nat.mul_le_mul_right _ hg)
    refine yI 24 _ [] [(0, .q), (1, .q), (2, .q), (3, .q), (4, .q), (5, .q), (6, .q), (7, .q), (8, .q), (9, .q), (10, .q), (11, .q), (12, .q), (13, .q), (14, .q), (15, .q), (16, .q), (17, .q), (18, .q), (19, .q), (20, .q), (21, .q), (22, .q), (23, .q)] xI (fun x hx => by cases hx) (by kernel_rfl) (fun x hx => by cases hx) (fun r hr => hr) (w_q rfl (fun h' L' hh hR => zG rfl) rfl (w_q rfl (fun h' L' hh hR => sJ (k := .u64) (q := 4294967296) rfl rfl) rfl (w_q rfl (fun h' L' hh hR => zG (v := .bool true) (congrArg some (xS hg))) rfl (qX rfl rfl rfl rfl rfl (qX rfl rfl rfl rfl rfl (qX rfl rfl rfl rfl rfl (qX rfl rfl rfl rfl rfl (qX rfl rfl rfl rfl rfl (qX rfl rfl rfl rfl rfl (qX rfl rfl rfl rfl rfl (qX rfl rfl rfl rfl rfl (qX rfl rfl rfl rfl rfl (qX rfl rfl rfl rfl rfl ?_)))))))))))))
    refine qX rfl rfl rfl rfl rfl (qX rfl rfl rfl rfl rfl (qX rfl rfl rfl rfl rfl (qX rfl rfl rfl rfl rfl (qX rfl rfl rfl rfl rfl (qX rfl rfl rfl rfl rfl (qX rfl rfl rfl rfl rfl (qX rfl rfl rfl rfl rfl (qX rfl rfl rfl rfl rfl (qX rfl rfl rfl rfl rfl (w_q rfl (fun h' L' hh hR => xK rfl rfl) rfl (xB (zJ (e' := [(4, _), (9, _), (10, _), (11, _), (12, _), (13, _), (15, _), (16, _), (141, _)]) ⟨rfl, rfl, rfl, rfl, rfl, rfl, rfl, rfl, rfl, trivial⟩ (zB ?_)))))))))))))
    refine xR rfl (zL (zB (zS (zC (zA (mv rfl rfl (gv (sF (k := .u64) (q := 1) (W := 18446744073709551616) rfl rfl rfl rfl (by omega) (by omega)) rfl (asg rfl rfl (zD (zB (zC (zA (mv rfl rfl ?_)))))))))))))
    refine mv rfl rfl (mv rfl rfl (gv (xT (q := 1) rfl rfl (by omega) (by omega)) rfl (gv (yO (n - 1) Tryz.underlying28 Tryz.sizeOf124 rfl rfl hr70 (by omega) (by omega)) rfl (gv (yS Tryz.isAgg124 rfl hr70 (by omega)) rfl (gv (xE (k := .u32) (k' := .u64) (W := 18446744073709551616) Tryz.underlying124 Tryz.underlying122 rfl rfl rfl (by omega)) rfl (gv (qW (k := .u64) (W := 18446744073709551616) rfl rfl rfl rfl (by omega)) rfl (asg rfl rfl (zD (zJ (e' := [(4, _), (9, _), (10, _), (11, _), (12, _), (13, _), (15, _), (16, _)]) ⟨rfl, rfl, rfl, rfl, rfl, rfl, rfl, rfl, trivial⟩ (zB (zC (zA (mv rfl rfl ?_)))))))))))))
    refine gv (sJ (k := .u64) (q := 4294967296) rfl rfl) rfl (zD (zB ?_))
    refine zO rfl (fun hc153 => ?_) (fun hc153 => ?_)
    ·
     refine xQ (gx_past rfl (yE (xO ?_)))
     refine yN (x - 1) ?_ ⟨rfl, rfl, rfl, rfl, rfl, rfl, rfl, trivial⟩ rfl rfl
     obtain ⟨b1, b2⟩ := iW (x := x - 1) hVd hW hvr hv2 (lF hxt hx1) hc153 htop2 (by omega)
     exact ⟨b1, by rw [Nat.sub_add_cancel hx1]; exact hlow, by omega⟩
    refine zL (yV ?_)
    refine yQ (x - 1, r + vs.getD (n - 1) 0) ?_ ?_ ⟨rfl, rfl, rfl, rfl, rfl, rfl, rfl, rfl, trivial⟩ rfl rfl
    ·
     exact ⟨lF hxt hx1, by rw [Nat.sub_add_cancel hx1]; exact hlow, by omega⟩
    dsimp only
    omega
   refine yI 24 _ [] [(0, .q), (1, .q), (2, .q), (3, .q), (4, .q), (5, .q), (6, .q), (7, .q), (8, .q), (9, .q), (10, .q), (11, .q), (12, .q), (13, .q), (14, .q), (15, .q), (16, .q), (17, .q), (18, .q), (19, .q), (20, .q), (21, .q), (22, .q), (23, .q)] xI (fun x hx => by cases hx) (by kernel_rfl) (fun x hx => by cases hx) (fun r hr => hr) (w_q rfl (fun h' L' hh hR => zG rfl) rfl (w_q rfl (fun h' L' hh hR => sJ (k := .u64) (q := 4294967296) rfl rfl) rfl (w_q rfl (fun h' L' hh hR => zG (v := .bool false) (congrArg some (yX hg))) rfl (uO rfl rfl rfl (fun h' L' hh hR => zG rfl) rfl (uO rfl rfl rfl (fun h' L' hh hR => zG rfl) rfl (uO rfl rfl rfl (fun h' L' hh hR => zG rfl) rfl (uO rfl rfl rfl (fun h' L' hh hR => xT (q := 2) rfl rfl (by omega) (by omega)) rfl (uO rfl rfl rfl (fun h' L' hh hR => yO (n - 2) Tryz.underlying28 Tryz.sizeOf124 rfl rfl (hr70.mono hh) (by omega) (by omega)) rfl (uO rfl rfl rfl (fun h' L' hh hR => yS Tryz.isAgg124 rfl (hr70.mono hh) (by omega)) rfl (uO rfl rfl rfl (fun h' L' hh hR => xE (k := .u32) (k' := .u64) (W := 18446744073709551616) Tryz.underlying124 Tryz.underlying122 rfl rfl rfl (by omega)) rfl (uO rfl rfl rfl (fun h' L' hh hR => qV (k := .u64) (W := 18446744073709551616) rfl rfl rfl rfl (by omega)) rfl (uO rfl rfl rfl (fun h' L' hh hR => zG rfl) rfl (uO rfl rfl rfl (fun h' L' hh hR => kH (k := .u64) (s := 32) (yk := .u64) (W := 18446744073709551616) rfl rfl rfl rfl) rfl ?_)))))))))))))
   refine uO rfl rfl rfl (fun h' L' hh hR => zG rfl) rfl (uO rfl rfl rfl (fun h' L' hh hR => zG rfl) rfl (uO rfl rfl rfl (fun h' L' hh hR => zG rfl) rfl (uO rfl rfl rfl (fun h' L' hh hR => zQ rfl rfl (by omega) (by omega)) rfl (uO rfl rfl rfl (fun h' L' hh hR => xT (q := 2) rfl rfl (by omega) (by omega)) rfl (uO rfl rfl rfl (fun h' L' hh hR => kB (hR _ (.tail _ (.head _))) (J - 1 + n - 2) Tryz.underlying28 Tryz.sizeOf124 rfl rfl (by omega) (by omega)) rfl (uO rfl rfl rfl (fun h' L' hh hR => gS (hR _ (.tail _ (.head _))) Tryz.isAgg124 rfl (by omega)) rfl (uO rfl rfl rfl (fun h' L' hh hR => xE (k := .u32) (k' := .u64) (W := 18446744073709551616) Tryz.underlying124 Tryz.underlying122 rfl rfl rfl (by omega)) rfl (uO rfl rfl rfl (fun h' L' hh hR => fP (k := .u64) rfl rfl rfl (by simp only [ub]; omega) (by simp only [ub]; omega)) rfl ?_))))))))
   rw [fZ (by omega) (by omega)]
   refine uO rfl rfl rfl (fun h' L' hh hR => aK (k := .u64) rfl rfl) rfl (w_q rfl (fun h' L' hh hR => wB rfl rfl) rfl (xB (zJ (e' := [(4, _), (9, _), (10, _), (11, _), (12, _), (13, _), (15, _), (16, _), (141, _)]) ⟨rfl, rfl, rfl, rfl, rfl, rfl, rfl, rfl, rfl, trivial⟩ (zB ?_))))
   refine zO rfl (fun hc141 => ?_) (fun hc141 => ?_)
   ·
    have hx1 : 1 ≤ x := Nat.pos_of_ne_zero fun h0 => by rw [h0, Nat.zero_mul] at hc141; omega
    have hlow : val (us.drop (J - 1)) < x * V := est_dec hVd hW hwr hxt hc141
    refine zL (zB (zS (zC (zA (mv rfl rfl (gv (sF (k := .u64) (q := 1) (W := 18446744073709551616) rfl rfl rfl rfl (by omega) (by omega)) rfl (asg rfl rfl (zD (zB (zC (zA (mv rfl rfl (mv rfl rfl ?_)))))))))))))
    refine mv rfl rfl (gv (xT (q := 1) rfl rfl (by omega) (by omega)) rfl (gv (yO (n - 1) Tryz.underlying28 Tryz.sizeOf124 rfl rfl hr70 (by omega) (by omega)) rfl (gv (yS Tryz.isAgg124 rfl hr70 (by omega)) rfl (gv (xE (k := .u32) (k' := .u64) (W := 18446744073709551616) Tryz.underlying124 Tryz.underlying122 rfl rfl rfl (by omega)) rfl (gv (qW (k := .u64) (W := 18446744073709551616) rfl rfl rfl rfl (by omega)) rfl (asg rfl rfl (zD (zJ (e' := [(4, _), (9, _), (10, _), (11, _), (12, _), (13, _), (15, _), (16, _)]) ⟨rfl, rfl, rfl, rfl, rfl, rfl, rfl, rfl, trivial⟩ (zB (zC (zA (mv rfl rfl (gv (sJ (k := .u64) (q := 4294967296) rfl rfl) rfl ?_)))))))))))))
    refine zD (zB ?_)
    refine zO rfl (fun hc153 => ?_) (fun hc153 => ?_)
    ·
     refine xQ (gx_past rfl (yE (xO ?_)))
     refine yN (x - 1) ?_ ⟨rfl, rfl, rfl, rfl, rfl, rfl, rfl, trivial⟩ rfl rfl
     obtain ⟨b1, b2⟩ := iW (x := x - 1) hVd hW hvr hv2 (lF hxt hx1) hc153 htop2 (by omega)
     exact ⟨b1, by rw [Nat.sub_add_cancel hx1]; exact hlow, by omega⟩
    refine zL (yV ?_)
    refine yQ (x - 1, r + vs.getD (n - 1) 0) ?_ ?_ ⟨rfl, rfl, rfl, rfl, rfl, rfl, rfl, rfl, trivial⟩ rfl rfl
    ·
     exact ⟨lF hxt hx1, by rw [Nat.sub_add_cancel hx1]; exact hlow, by omega⟩
    dsimp only
    omega
   refine xQ (yE (yE (xO ?_)))
   refine yN (x) ?_ ⟨rfl, rfl, rfl, rfl, rfl, rfl, rfl, trivial⟩ rfl rfl
   exact ⟨by omega, hxl, est_exit hVd hW hvr (by omega) hxt (by omega) (by omega)⟩
  intro x1 hx
  obtain ⟨hx1b, hxlo, hxhi⟩ := hx
  show GC _ _ _ _ _ _ [(4, v77), (9, vI ↑s), (10, v66), (11, v70), (12, vI ↑n), (13, vI (↑J - 1)), (15, vU .u64 x1)] [.us 124 .u32 v77 (uW J qs), .us 124 .u32 v66 us] h8
  refine zC (zA (asg (v := vU .u64 0) rfl rfl (asg (v := vU .u64 0) rfl rfl (zD (zB (zC (zC (zA (mv rfl rfl (gv (yA Tryz.underlying28 rfl hr70) rfl ?_))))))))))
  rw [hvl]
  refine mv (v := vI (0)) rfl rfl (zD (zB (zS ?_)))
  refine wR (ι := Nat × List Nat × Nat × Nat) (fun (i, ts, b, c) => i ≤ n ∧ ts.length = la + 1 ∧ Fit ts ∧ c < 4294967296 ∧ b ≤ 1 ∧ val ts + 4294967296 ^ (J - 1) * (x1 * val (vs.take i)) = val us + 4294967296 ^ (J - 1 + i) * (c + b) ∧ ∀ k, J - 1 + i ≤ k → ts.getD k 0 = us.getD k 0) (fun (i, ts, b, c) => [(4, v77), (9, vI ↑s), (10, v66), (11, v70), (12, vI ↑n), (13, vI (↑J - 1)), (15, vU .u64 x1), (17, vU .u64 b), (18, vU .u64 c), (154, v70), (155, vI ↑n), (156, vI ↑i)]) (fun (i, ts, b, c) => [.us 124 .u32 v77 (uW J qs), .us 124 .u32 v66 ts]) (fun (i, ts, b, c) => h8) (fun (i, ts, b, c) => n - i) (0, us, 0, 0) ?_ ⟨rfl, rfl, rfl, rfl, rfl, rfl, rfl, rfl, rfl, rfl, rfl, rfl, trivial⟩ rfl rfl ?_
  ·
   exact ⟨by omega, hul, hfu, by omega, by omega, by simp [val], fun _ _ => rfl⟩
  intro x hx
  obtain ⟨i, ts, b, c⟩ := x
  obtain ⟨hin, htl, hft, hcb, hbb, hms, htk⟩ := hx
  show GC _ _ _ _ _ _ [(4, v77), (9, vI ↑s), (10, v66), (11, v70), (12, vI ↑n), (13, vI (↑J - 1)), (15, vU .u64 x1), (17, vU .u64 b), (18, vU .u64 c), (154, v70), (155, vI ↑n), (156, vI ↑i)] [.us 124 .u32 v77 (uW J qs), .us 124 .u32 v66 ts] h8
  refine zC (zA (gv (zW rfl rfl) rfl (zD (zB (zC ?_)))))
  refine zO rfl (fun hc157 => ?_) (fun hc157 => ?_)
  ·
   refine zL (zB (zC (zS (zC (zA (mv rfl rfl (gv (yO _ Tryz.underlying28 Tryz.sizeOf124 rfl rfl hr70 rfl (by omega)) rfl (gv (yS Tryz.isAgg124 rfl hr70 (by omega)) rfl ?_))))))))
   have hyb := hr70.get32 i
   have hxy : x1 * vs.getD i 0 ≤ 4294967295 * 4294967295 := Nat.mul_le_mul (by omega) (by omega)
   refine asg rfl rfl (asg rfl rfl (zD (zB (zC (zA (mv rfl rfl (mv rfl rfl (mv rfl rfl (gv (xE (k := .u32) (k' := .u64) (W := 18446744073709551616) Tryz.underlying124 Tryz.underlying122 rfl rfl rfl (by omega)) rfl (gv (qV (k := .u64) (W := 18446744073709551616) rfl rfl rfl rfl (by omega)) rfl (gv (qW (k := .u64) (W := 18446744073709551616) rfl rfl rfl rfl (by omega)) rfl (asg rfl rfl (zD ?_)))))))))))))
   refine zJ (e' := [(4, _), (9, _), (10, _), (11, _), (12, _), (13, _), (15, _), (17, _), (154, _), (155, _), (156, _), (19, _), (18, _)]) ⟨rfl, rfl, rfl, rfl, rfl, rfl, rfl, rfl, rfl, rfl, rfl, rfl, rfl, trivial⟩ (zB (zC (zA (mv rfl rfl (mv rfl rfl (mv rfl rfl (gv (zQ rfl rfl (by omega) (by omega)) rfl (gv (wJ (A := [_]) (J - 1 + i) Tryz.underlying28 Tryz.sizeOf124 rfl rfl (by omega) (by omega)) rfl (gv (gJ (A := [_]) Tryz.isAgg124 rfl (by omega)) rfl ?_)))))))))
   have htx := uZ hft (J - 1 + i)
   refine gv (xE (k := .u32) (k' := .u64) (W := 18446744073709551616) Tryz.underlying124 Tryz.underlying122 rfl rfl rfl (by omega)) rfl (mv rfl rfl (gv (ov_and_u (k := .u64) (q := 4294967295) rfl rfl rfl (by simp only [ub]; omega) (by simp only [ub]; omega)) rfl ?_))
   rw [and_mask]
   refine gv (rG (k := .u64) (W := 18446744073709551616) rfl rfl rfl rfl (by omega)) rfl (mv rfl rfl (gv (rG (k := .u64) (W := 18446744073709551616) rfl rfl rfl rfl (by omega)) rfl (asg rfl rfl (zD (zJ (e' := [(4, _), (9, _), (10, _), (11, _), (12, _), (13, _), (15, _), (154, _), (155, _), (156, _), (19, _), (18, _), (21, _)]) ⟨rfl, rfl, rfl, rfl, rfl, rfl, rfl, rfl, rfl, rfl, rfl, rfl, rfl, trivial⟩ (zB (zC (zA (mv rfl rfl (mv rfl rfl (mv rfl rfl (gv (zQ rfl rfl (by omega) (by omega)) rfl (mv rfl rfl ?_)))))))))))))
   refine gv (vD (k := .u64) (k' := .u32) (W := 4294967296) Tryz.underlying122 Tryz.underlying124 rfl rfl rfl) rfl (gv (wJ (A := [_]) (J - 1 + i) Tryz.underlying28 Tryz.sizeOf124 rfl rfl (by omega) (by omega)) rfl (fK Tryz.sizeOf124 rfl rfl (by omega) (zD (zB (zC (zA (mv rfl rfl (gv (qB (k := .u64) (s := 63) (yk := .u64) rfl rfl rfl (by simp only [ub]; omega)) rfl (asg rfl rfl (zD (zJ (e' := [(4, _), (9, _), (10, _), (11, _), (12, _), (13, _), (15, _), (154, _), (155, _), (156, _), (18, _), (17, _)]) ⟨rfl, rfl, rfl, rfl, rfl, rfl, rfl, rfl, rfl, rfl, rfl, rfl, trivial⟩ (zB (zA ?_)))))))))))))
   refine mv rfl rfl (gv (qB (k := .u64) (s := 32) (yk := .u64) rfl rfl rfl (by simp only [ub]; omega)) rfl (asg rfl rfl (zD (yV (zB (zA (gv (zQ (q := 1) rfl rfl (by omega) (by omega)) rfl (mv rfl rfl (zD ?_)))))))))
   generalize hX : ts.getD (J - 1 + i) 0 = X at *
   generalize hY : vs.getD i 0 = Y at *
   refine yQ (i + 1, ts.set (J - 1 + i) (((X + 18446744073709551616 - (c + x1 * Y) % 4294967296) % 18446744073709551616 + 18446744073709551616 - b) % 18446744073709551616 % 4294967296), ((X + 18446744073709551616 - (c + x1 * Y) % 4294967296) % 18446744073709551616 + 18446744073709551616 - b) % 18446744073709551616 / 2 ^ 63, (c + x1 * Y) / 2 ^ 32) ?_ ?_ ⟨rfl, rfl, rfl, rfl, rfl, rfl, rfl, rfl, rfl, rfl, rfl, rfl, trivial⟩ rfl rfl
   ·
    refine ⟨by omega, by simp [htl], sU hft _ (by omega), by omega, by omega, ?_, fun k hk => ?_⟩
    · have h1 := sQ (xs := ts) (i := J - 1 + i) (by omega) (((X + 18446744073709551616 - (c + x1 * Y) % 4294967296) % 18446744073709551616 + 18446744073709551616 - b) % 18446744073709551616 % 4294967296)
      rw [hX] at h1
      rw [uB vs i (by omega), hY, ← Nat.add_assoc (J - 1), Nat.pow_succ, Nat.pow_add]
      rw [Nat.pow_add] at h1 hms
      exact ms_step (l := (c + x1 * Y) % 4294967296) hms h1 (by omega) (by omega)
    · rw [qH (by omega)]; exact htk k (by omega)
   dsimp only
   omega
  refine xQ (yE (yE (xO (zB (zC (zA (mv rfl rfl (mv rfl rfl (mv rfl rfl (gv (zQ rfl rfl (by omega) (by omega)) rfl (gv (wJ (A := [_]) (J - 1 + n) Tryz.underlying28 Tryz.sizeOf124 rfl rfl (by omega) (by omega)) rfl (gv (gJ (A := [_]) Tryz.isAgg124 rfl (by omega)) rfl ?_))))))))))))
  have htx := uZ hft (J - 1 + n)
  refine gv (xE (k := .u32) (k' := .u64) (W := 18446744073709551616) Tryz.underlying124 Tryz.underlying122 rfl rfl rfl (by omega)) rfl (mv rfl rfl (gv (rG (k := .u64) (W := 18446744073709551616) rfl rfl rfl rfl (by omega)) rfl (mv rfl rfl (gv (rG (k := .u64) (W := 18446744073709551616) rfl rfl rfl rfl (by omega)) rfl ?_))))
  obtain ⟨d2, hd2⟩ : ∃ d, d = ((ts.getD (J - 1 + n) 0 + 18446744073709551616 - c) % 18446744073709551616 + 18446744073709551616 - b) % 18446744073709551616 := ⟨_, rfl⟩
  rw [← hd2]
  refine asg rfl rfl (zD (zJ (e' := [(4, _), (9, _), (10, _), (11, _), (12, _), (13, _), (15, _), (22, _)]) ⟨rfl, rfl, rfl, rfl, rfl, rfl, rfl, rfl, trivial⟩ (zB (zC (zA (mv rfl rfl (mv rfl rfl (mv rfl rfl (gv (zQ rfl rfl (by omega) (by omega)) rfl (mv rfl rfl (gv (vD (k := .u64) (k' := .u32) (W := 4294967296) Tryz.underlying122 Tryz.underlying124 rfl rfl rfl) rfl (gv (wJ (A := [_]) (J - 1 + n) Tryz.underlying28 Tryz.sizeOf124 rfl rfl (by omega) (by omega)) rfl (fK Tryz.sizeOf124 rfl rfl (by omega) ?_)))))))))))))
  have hin : i = n := by omega
  rw [hin, wQ (by omega), hvv] at hms
  have hvs := sQ (xs := ts) (i := J - 1 + n) (by omega) (d2 % 4294967296)
  have htl2 : (ts.set (J - 1 + n) (d2 % 4294967296)).length = la + 1 := by simp [htl]
  have hft2 : Fit (ts.set (J - 1 + n) (d2 % 4294967296)) := sU hft _ (by omega)
  have hz2 : ∀ k, J - 1 + n + 1 ≤ k → (ts.set (J - 1 + n) (d2 % 4294967296)).getD k 0 = 0 := fun k hk => by rw [qH (by omega), htk k (by omega)]; exact hz0 k (by omega)
  generalize ts.set (J - 1 + n) (d2 % 4294967296) = ts2 at *
  have hval2 : val ts2 + 4294967296 ^ (J - 1) * (x1 * V) = val us + 4294967296 ^ (J - 1 + n + 1) * (d2 / 2 ^ 63) := by
    rw [Nat.pow_succ, Nat.pow_add]
    rw [Nat.pow_add] at hvs hms
    exact ms_end hms hvs (by omega)
  have hlt2 := pQ hft2 hz2
  refine zD (zB ?_)
  refine kV (ι := Nat × List Nat) (fun (x2, rs) => x2 < 4294967296 ∧ rs.length = la + 1 ∧ Fit rs ∧ val rs + 4294967296 ^ (J - 1) * (x2 * V) = val us ∧ val (rs.drop (J - 1)) < V) (fun (x2, rs) => [(4, v77), (9, vI ↑s), (10, v66), (11, v70), (12, vI ↑n), (13, vI (↑J - 1)), (15, vU .u64 x2)]) (fun (x2, rs) => [.us 124 .u32 v77 (uW J qs), .us 124 .u32 v66 rs]) (fun (x2, rs) => h8) ?_ ?_
  ·
   refine zC (zA (mv rfl rfl (gv (qB (k := .u64) (s := 63) (yk := .u64) rfl rfl rfl (by simp only [ub]; omega)) rfl (gv (gH (k := .u64) (q := 0) rfl rfl) rfl (zD (zJ (e' := [(4, _), (9, _), (10, _), (11, _), (12, _), (13, _), (15, _), (211, _)]) ⟨rfl, rfl, rfl, rfl, rfl, rfl, rfl, rfl, trivial⟩ (zB ?_)))))))
   refine zO rfl (fun hc211 => ?_) (fun hc211 => ?_)
   ·
    have hx1p : 1 ≤ x1 := Nat.pos_of_ne_zero fun h0 => by
      have hb1 : d2 / 2 ^ 63 = 1 := by omega
      rw [h0, hb1, Nat.zero_mul, Nat.mul_zero, Nat.mul_one] at hval2
      omega
    refine zC (zA (mv rfl rfl (gv (sF (k := .u64) (q := 1) (W := 18446744073709551616) rfl rfl rfl rfl (by omega) (by omega)) rfl (asg rfl rfl (zD (zB (zC (zA (asg (v := vU .u64 0) rfl rfl (zD (zB (zC (zC ?_)))))))))))))
    refine zA (mv rfl rfl (gv (yA Tryz.underlying28 rfl hr70) rfl ?_))
    rw [hvl]
    refine mv (v := vI (0)) rfl rfl (zD (zB (zS ?_)))
    refine wR (ι := Nat × List Nat × Nat) (fun (i2, rs, c2) => i2 ≤ n ∧ rs.length = la + 1 ∧ Fit rs ∧ c2 ≤ 1 ∧ val rs + 4294967296 ^ (J - 1 + i2) * c2 = val ts2 + 4294967296 ^ (J - 1) * val (vs.take i2) ∧ ∀ k, J - 1 + i2 ≤ k → rs.getD k 0 = ts2.getD k 0) (fun (i2, rs, c2) => [(4, v77), (9, vI ↑s), (10, v66), (11, v70), (12, vI ↑n), (13, vI (↑J - 1)), (15, vU .u64 (x1 - 1)), (18, vU .u64 c2), (214, v70), (215, vI ↑n), (216, vI ↑i2)]) (fun (i2, rs, c2) => [.us 124 .u32 v77 (uW J qs), .us 124 .u32 v66 rs]) (fun (i2, rs, c2) => h8) (fun (i2, rs, c2) => n - i2) (0, ts2, 0) ?_ ⟨rfl, rfl, rfl, rfl, rfl, rfl, rfl, rfl, rfl, rfl, rfl, trivial⟩ rfl rfl ?_
    ·
     exact ⟨by omega, htl2, hft2, by omega, by simp [val], fun _ _ => rfl⟩
    intro x hx
    obtain ⟨i2, rs, c2⟩ := x
    obtain ⟨hi2, hrl, hfr, hc2, hab, hrk⟩ := hx
    show GC _ _ _ _ _ _ [(4, v77), (9, vI ↑s), (10, v66), (11, v70), (12, vI ↑n), (13, vI (↑J - 1)), (15, vU .u64 (x1 - 1)), (18, vU .u64 c2), (214, v70), (215, vI ↑n), (216, vI ↑i2)] [.us 124 .u32 v77 (uW J qs), .us 124 .u32 v66 rs] h8
    refine zC (zA (gv (zW rfl rfl) rfl (zD (zB (zC ?_)))))
    refine zO rfl (fun hc217 => ?_) (fun hc217 => ?_)
    ·
     refine zL (zB (zC (zS (zC (zA (mv rfl rfl (gv (yO _ Tryz.underlying28 Tryz.sizeOf124 rfl rfl hr70 rfl (by omega)) rfl (gv (yS Tryz.isAgg124 rfl hr70 (by omega)) rfl ?_))))))))
     have hyb := hr70.get32 i2
     refine asg rfl rfl (asg rfl rfl (zD (zB (zC (zA (mv rfl rfl (mv rfl rfl (mv rfl rfl (mv rfl rfl (gv (zQ rfl rfl (by omega) (by omega)) rfl (gv (wJ (A := [_]) (J - 1 + i2) Tryz.underlying28 Tryz.sizeOf124 rfl rfl (by omega) (by omega)) rfl (gv (gJ (A := [_]) Tryz.isAgg124 rfl (by omega)) rfl ?_))))))))))))
     have htx := uZ hfr (J - 1 + i2)
     refine gv (xE (k := .u32) (k' := .u64) (W := 18446744073709551616) Tryz.underlying124 Tryz.underlying122 rfl rfl rfl (by omega)) rfl (mv rfl rfl (gv (xE (k := .u32) (k' := .u64) (W := 18446744073709551616) Tryz.underlying124 Tryz.underlying122 rfl rfl rfl (by omega)) rfl (gv (qW (k := .u64) (W := 18446744073709551616) rfl rfl rfl rfl (by omega)) rfl (gv (qW (k := .u64) (W := 18446744073709551616) rfl rfl rfl rfl (by omega)) rfl (asg rfl rfl (zD (zJ (e' := [(4, _), (9, _), (10, _), (11, _), (12, _), (13, _), (15, _), (214, _), (215, _), (216, _), (23, _), (18, _)]) ⟨rfl, rfl, rfl, rfl, rfl, rfl, rfl, rfl, rfl, rfl, rfl, rfl, trivial⟩ (zB (zC (zA (mv rfl rfl (mv rfl rfl (mv rfl rfl ?_)))))))))))))
     refine gv (zQ rfl rfl (by omega) (by omega)) rfl (mv rfl rfl (gv (vD (k := .u64) (k' := .u32) (W := 4294967296) Tryz.underlying122 Tryz.underlying124 rfl rfl rfl) rfl (gv (wJ (A := [_]) (J - 1 + i2) Tryz.underlying28 Tryz.sizeOf124 rfl rfl (by omega) (by omega)) rfl (fK Tryz.sizeOf124 rfl rfl (by omega) (zD (zB (zA (mv rfl rfl (gv (qB (k := .u64) (s := 32) (yk := .u64) rfl rfl rfl (by simp only [ub]; omega)) rfl (asg rfl rfl (zD (yV (zJ (e' := [(4, _), (9, _), (10, _), (11, _), (12, _), (13, _), (15, _), (214, _), (215, _), (216, _), (18, _)]) ⟨rfl, rfl, rfl, rfl, rfl, rfl, rfl, rfl, rfl, rfl, rfl, trivial⟩ ?_)))))))))))))
     refine zB (zA (gv (zQ (q := 1) rfl rfl (by omega) (by omega)) rfl (mv rfl rfl (zD ?_))))
     generalize hX : rs.getD (J - 1 + i2) 0 = X at *
     generalize hY : vs.getD i2 0 = Y at *
     refine yQ (i2 + 1, rs.set (J - 1 + i2) ((c2 + (X + Y)) % 4294967296), (c2 + (X + Y)) / 2 ^ 32) ?_ ?_ ⟨rfl, rfl, rfl, rfl, rfl, rfl, rfl, rfl, rfl, rfl, rfl, trivial⟩ rfl rfl
     ·
      refine ⟨by omega, by simp [hrl], sU hfr _ (by omega), by omega, ?_, fun k hk => ?_⟩
      · have h1 := sQ (xs := rs) (i := J - 1 + i2) (by omega) ((c2 + (X + Y)) % 4294967296)
        rw [hX] at h1
        rw [uB vs i2 (by omega), hY, ← Nat.add_assoc (J - 1), Nat.pow_succ, Nat.pow_add]
        rw [Nat.pow_add] at h1 hab
        exact ab_step hab h1 (by omega)
      · rw [qH (by omega)]; exact hrk k (by omega)
     dsimp only
     omega
    refine xQ (yE (yE (xO (zB (zA (mv rfl rfl (mv rfl rfl (mv rfl rfl (gv (zQ rfl rfl (by omega) (by omega)) rfl (gv (wJ (A := [_]) (J - 1 + n) Tryz.underlying28 Tryz.sizeOf124 rfl rfl (by omega) (by omega)) rfl (gv (gJ (A := [_]) Tryz.isAgg124 rfl (by omega)) rfl (mv rfl rfl (gv (vD (k := .u64) (k' := .u32) (W := 4294967296) Tryz.underlying122 Tryz.underlying124 rfl rfl rfl) rfl ?_)))))))))))))
    have htx := uZ hfr (J - 1 + n)
    refine gv (ov_addw_u (k := .u32) (W := 4294967296) rfl rfl rfl rfl) rfl (gv (wJ (A := [_]) (J - 1 + n) Tryz.underlying28 Tryz.sizeOf124 rfl rfl (by omega) (by omega)) rfl (fK Tryz.sizeOf124 rfl rfl (by omega) (zD ?_)))
    generalize hX : rs.getD (J - 1 + n) 0 = X at *
    refine yN (x1 - 1, rs.set (J - 1 + n) ((X + c2 % 4294967296) % 4294967296)) ?_ ⟨rfl, rfl, rfl, rfl, rfl, rfl, rfl, trivial⟩ rfl rfl
    have hin2 : i2 = n := by omega
    rw [hin2, wQ (by omega), hvv] at hab
    have h1 := sQ (xs := rs) (i := J - 1 + n) (by omega) ((X + c2 % 4294967296) % 4294967296)
    rw [hX] at h1
    have hfr2 : Fit (rs.set (J - 1 + n) ((X + c2 % 4294967296) % 4294967296)) := sU hfr _ (by omega)
    have hzr : ∀ k, J - 1 + n + 1 ≤ k → (rs.set (J - 1 + n) ((X + c2 % 4294967296) % 4294967296)).getD k 0 = 0 := fun k hk => by
      rw [qH (by omega), hrk k (by omega)]; exact hz2 k hk
    have ho : val (rs.set (J - 1 + n) ((X + c2 % 4294967296) % 4294967296)) + 4294967296 ^ (J - 1 + n + 1) * ((X + c2) / 4294967296) = val ts2 + 4294967296 ^ (J - 1) * V := by
      rw [Nat.pow_succ, Nat.pow_add]
      rw [Nat.pow_add] at h1 hab
      exact ab_end hab h1 (by omega)
    obtain ⟨z1, z2, z3⟩ := round_one hfu hfr2 hlt2 (pQ hfr2 hzr) (b := d2 / 2 ^ 63) (by omega) hval2 hxhi ho (by omega)
    exact ⟨by omega, by simp [hrl], hfr2, z2, z3⟩
   refine zL ?_
   refine yN (x1, ts2) ?_ ⟨rfl, rfl, rfl, rfl, rfl, rfl, rfl, trivial⟩ rfl rfl
   have hb0 : d2 / 2 ^ 63 = 0 := by omega
   rw [hb0, Nat.mul_zero, Nat.add_zero] at hval2
   exact ⟨hx1b, htl2, hft2, hval2, mO hfu hft2 hval2 hxlo⟩
  intro x hx
  obtain ⟨x2, rs⟩ := x
  obtain ⟨hx2b, hrl, hfr, hrv, hrdr⟩ := hx
  show GC _ _ _ _ _ _ [(4, v77), (9, vI ↑s), (10, v66), (11, v70), (12, vI ↑n), (13, vI (↑J - 1)), (15, vU .u64 x2)] [.us 124 .u32 v77 (uW J qs), .us 124 .u32 v66 rs] h8
  refine zA (mv rfl rfl (mv rfl rfl (mv rfl rfl (gv (xE (k := .u64) (k' := .u32) (W := 4294967296) Tryz.underlying122 Tryz.underlying124 rfl rfl rfl (by omega)) rfl (gv (wJ (A := []) (J - 1) Tryz.underlying28 Tryz.sizeOf124 rfl rfl (by omega) (by rw [jM]; omega)) rfl (vJ Tryz.sizeOf124 rfl rfl (by rw [jM]; omega) (zD (yV (zB (zA (mv rfl rfl (gv (xT (q := 1) rfl rfl (by omega) (by omega)) rfl (asg rfl rfl ?_)))))))))))))
  refine zD ?_
  refine yQ (J - 1, rs, x2 :: qs) ?_ ?_ ⟨rfl, rfl, rfl, rfl, rfl, ?_, trivial⟩ ?_ rfl
  ·
   refine ⟨by omega, by simp only [List.length_cons]; omega, fL.2 ⟨hx2b, hfq⟩, hrl, hfr, ?_, hrdr⟩
   have eJ : (4294967296 : Nat) ^ J = 4294967296 ^ (J - 1) * 4294967296 := by rw [← Nat.pow_succ, Nat.succ_eq_add_one, Nat.sub_add_cancel hJ]
   rw [eJ] at hval
   exact q_step hval hrv
  ·
   dsimp only
   omega
  · exact congrArg some (congrArg vI (by omega))
  try dsimp only [List.nil_append, List.cons_append]
  rw [pB (by omega)]
 refine xQ (yE (yE (xO (zB (zC ?_)))))
 have hJ0 : J = 0 := by omega
 subst hJ0
 rw [sV]
 rw [List.drop_zero] at hdr
 rw [Nat.pow_zero, Nat.one_mul] at hval
 have hlu : (zF (val us)).length ≤ us.length := uE hfu
 refine zA (mv rfl rfl ?_)
 refine dQ (R := fun h r => r = gG 1 v66 0 (zF (val us)).length ∧ Us .u32 h r (zF (val us))) (vs := [_]) rfl rfl rfl rfl Tryz.call145 ⟨rfl, trivial⟩ (fun w hw => qM (MLe.refl _) (hw.own_us (A := [_]) hfu)) ?_
 rintro v259 ⟨_, e259, _⟩
 subst e259
 refine gl_shrink (A := [_]) (zF (val us)).length hlu ?_
 rw [mK hfu]
 generalize gG 1 v66 0 (zF (val us)).length = vr
 have hRf := vC (val us)
 have hRv := zV (val us)
 generalize zF (val us) = Rs at *
 refine asg rfl rfl (zD (zB (zC (zC (zA (mv rfl rfl (gv (rU (A := [_]) Tryz.underlying28 rfl) rfl (mv (v := vI (0)) rfl rfl (zD (zB (zS ?_)))))))))))
 refine wR (ι := Nat) (fun (k : (Nat)) => k ≤ Rs.length) (fun (k : (Nat)) => [(4, v77), (5, vr), (9, vI ↑s), (261, vI ↑Rs.length), (262, vI ↑k)]) (fun (k : (Nat)) => [.us 124 .u32 v77 qs, .us 124 .u32 vr (rO s Rs k)]) (fun (k : (Nat)) => h8) (fun (k : (Nat)) => Rs.length - k) 0 ?_ ⟨rfl, rfl, rfl, rfl, rfl, trivial⟩ ?_ rfl ?_
 ·
  exact Nat.zero_le _
 ·
  try dsimp only [List.nil_append, List.cons_append]
  exact congrArg (fun z => [Res.us 124 .u32 v77 qs, Res.us 124 .u32 vr z]) (shrM_zero s Rs)
 intro k hx
 obtain hk := hx
 show GC _ _ _ _ _ _ [(4, v77), (5, vr), (9, vI ↑s), (261, vI ↑Rs.length), (262, vI ↑k)] [.us 124 .u32 v77 qs, .us 124 .u32 vr (rO s Rs k)] h8
 refine zC (zA (gv (zW rfl rfl) rfl (zD (zB (zC ?_)))))
 refine zO rfl (fun hc263 => ?_) (fun hc263 => ?_)
 ·
  refine zL (zB ?_)
  refine kV (ι := Unit) (fun (_u : (Unit)) => True) (fun (_u : (Unit)) => [(4, v77), (5, vr), (9, vI ↑s), (261, vI ↑Rs.length), (262, vI ↑k)]) (fun (_u : (Unit)) => [.us 124 .u32 v77 qs, .us 124 .u32 vr (rO s Rs (k + 1))]) (fun (_u : (Unit)) => h8) ?_ ?_
  ·
   refine zS (zC (zA (mv rfl rfl (asg rfl rfl (zD (zB (zC (zA (mv rfl rfl (mv rfl rfl (gv (wJ (A := [_]) (k) Tryz.underlying28 Tryz.sizeOf124 rfl rfl (by omega) (by rw [kX (by omega)]; omega)) rfl (gv (gJ (A := [_]) Tryz.isAgg124 rfl (by rw [kX (by omega)]; omega)) rfl ?_))))))))))))
   rw [z9 (Nat.le_refl _)]
   have hgr := uZ hRf k
   refine mv rfl rfl (gv (qB (k := .u32) (s := s) (yk := .i64) rfl rfl rfl (by simp only [ub]; omega)) rfl ?_)
   have hq1 : Rs.getD k 0 / 2 ^ s < 4294967296 := Nat.lt_of_le_of_lt (Nat.div_le_self _ _) hgr
   refine gv (wJ (A := [_]) (k) Tryz.underlying28 Tryz.sizeOf124 rfl rfl (by omega) (by rw [kX (by omega)]; omega)) rfl (fK Tryz.sizeOf124 rfl rfl (by rw [kX (by omega)]; omega) (zD (zB (zC (zA (mv rfl rfl (gv (uS (q := 0) rfl rfl) rfl ?_)))))))
   refine vO (ι := Unit) 7 (fun _ => True) (fun _ => [(280, vB (((0 : Int) < ↑s) ∧ ((↑k : Int) + 1 < ↑Rs.length))), (4, v77), (5, vr), (9, vI ↑s), (261, vI ↑Rs.length), (262, vI ↑k), (25, vI ↑k)]) (fun _ => [.us 124 .u32 v77 qs, .us 124 .u32 vr ((rO s Rs k).set k (Rs.getD k 0 / 2 ^ s))]) (fun _ => h8) ?_ ?_
   ·
    refine wM ((0 : Int) < ↑s) (fun hg => ?_) (fun hg => ?_)
    ·
     refine xH (zG (v := .bool true) (congrArg some (xS hg))) rfl rfl rfl (xA rfl rfl rfl (mv rfl rfl (xA rfl rfl rfl (gv (zQ (q := 1) rfl rfl (by omega) (by omega)) rfl (xA rfl rfl rfl (mv rfl rfl (xA rfl rfl rfl (gv (rU (A := [_]) Tryz.underlying28 rfl) rfl ?_))))))))
     rw [List.length_set, kX (by omega)]
     refine xA rfl rfl rfl (gv (zW rfl rfl) rfl (gv (xK rfl rfl) rfl (zD ?_)))
     refine yN () trivial ⟨?_, rfl, rfl, rfl, rfl, rfl, rfl, trivial⟩ rfl rfl
     exact congrArg some (uI hg)
    refine xH (zG (v := .bool false) (congrArg some (yX hg))) rfl rfl rfl (yL rfl rfl rfl rfl rfl rfl (yL rfl rfl rfl rfl rfl rfl (yL rfl rfl rfl rfl rfl rfl (yL rfl rfl rfl rfl rfl rfl (yL rfl rfl rfl rfl rfl rfl (gv (wB rfl rfl) rfl (zD ?_)))))))
    refine yN () trivial ⟨?_, rfl, rfl, rfl, rfl, rfl, rfl, trivial⟩ rfl rfl
    exact congrArg some (uJ hg)
   intro _ _
   show GL _ _ _ _ _ _ _ [(280, vB (((0 : Int) < ↑s) ∧ ((↑k : Int) + 1 < ↑Rs.length))), (4, v77), (5, vr), (9, vI ↑s), (261, vI ↑Rs.length), (262, vI ↑k), (25, vI ↑k)] [.us 124 .u32 v77 qs, .us 124 .u32 vr ((rO s Rs k).set k (Rs.getD k 0 / 2 ^ s))] h8
   refine zD (zB ?_)
   refine zO rfl (fun hc280 => ?_) (fun hc280 => ?_)
   ·
    refine yI 14 _ [] [(0, .q), (1, .q), (2, .q), (3, .q), (4, .q), (5, .q), (6, .q), (7, .q), (8, .q), (9, .q), (10, .q), (11, .q), (12, .q), (13, .q), (14, .t)] xI (fun x hx => by cases hx) (by kernel_rfl) (fun x hx => by cases hx) (fun r hr => hr) (w_q rfl (fun h' L' hh hR => zG rfl) rfl (w_q rfl (fun h' L' hh hR => zG rfl) rfl (w_q rfl (fun h' L' hh hR => kB (hR _ (.tail _ (.head _))) (k) Tryz.underlying28 Tryz.sizeOf124 rfl rfl (by omega) (by rw [List.length_set, kX (by omega)]; omega)) rfl (w_q rfl (fun h' L' hh hR => gS (hR _ (.tail _ (.head _))) Tryz.isAgg124 rfl (by rw [List.length_set, kX (by omega)]; omega)) rfl ?_))))
    rw [eY (by rw [kX (by omega)]; omega)]
    refine w_q rfl (fun h' L' hh hR => zG rfl) rfl (w_q rfl (fun h' L' hh hR => zG rfl) rfl (w_q rfl (fun h' L' hh hR => zQ (q := 1) rfl rfl (by omega) (by omega)) rfl (w_q rfl (fun h' L' hh hR => kB (hR _ (.tail _ (.head _))) (k + 1) Tryz.underlying28 Tryz.sizeOf124 rfl rfl (by omega) (by rw [List.length_set, kX (by omega)]; omega)) rfl (w_q rfl (fun h' L' hh hR => gS (hR _ (.tail _ (.head _))) Tryz.isAgg124 rfl (by rw [List.length_set, kX (by omega)]; omega)) rfl ?_))))
    rw [qH (by omega), z9 (by omega)]
    refine w_q rfl (fun h' L' hh hR => zG rfl) rfl (w_q rfl (fun h' L' hh hR => xT (p := 32) rfl rfl (by omega) (by omega)) rfl ?_)
    rw [show ((32 : Int) - ↑s) = ↑(32 - s) by omega]
    refine w_q rfl (fun h' L' hh hR => kH (k := .u32) (s := 32 - s) (yk := .i64) (W := 4294967296) rfl rfl rfl rfl) rfl (w_q rfl (fun h' L' hh hR => fP (k := .u32) rfl rfl rfl (by simp only [ub]; omega) (by simp only [ub]; omega)) rfl ?_)
    rw [shrD_or hRf (by omega) (by omega)]
    refine w_q rfl (fun h' L' hh hR => kB (hR _ (.tail _ (.head _))) (k) Tryz.underlying28 Tryz.sizeOf124 rfl rfl (by omega) (by rw [List.length_set, kX (by omega)]; omega)) rfl (gQ (A := [_]) rfl (bH Tryz.sizeOf124 rfl rfl (by rw [List.length_set, kX (by omega)]; omega)) rfl (xB (yV ?_)))
    refine yN (()) ?_ ⟨rfl, rfl, rfl, rfl, rfl, trivial⟩ ?_ rfl
    ·
     trivial
    try dsimp only [List.nil_append, List.cons_append]
    rw [List.set_set, z8 (by omega)]; try rfl
   refine zL (yV ?_)
   have hlast : Rs.getD k 0 / 2 ^ s = pV s Rs k := by
     by_cases h0 : s = 0
     · rw [h0, shrD_zero hRf (by omega), Nat.pow_zero, Nat.div_one]
     · exact (shrD_last hRf (by omega)).symm
   refine yN (()) ?_ ⟨rfl, rfl, rfl, rfl, rfl, trivial⟩ ?_ rfl
   ·
    trivial
   try dsimp only [List.nil_append, List.cons_append]
   rw [hlast, z8 (by omega)]
  intro _u hx
  obtain hcut := hx
  show GC _ _ _ _ _ _ [(4, v77), (5, vr), (9, vI ↑s), (261, vI ↑Rs.length), (262, vI ↑k)] [.us 124 .u32 v77 qs, .us 124 .u32 vr (rO s Rs (k + 1))] h8
  refine zA (gv (zQ (q := 1) rfl rfl (by omega) (by omega)) rfl (mv rfl rfl (zD ?_)))
  refine yQ (k + 1) ?_ ?_ ⟨rfl, rfl, rfl, rfl, rfl, trivial⟩ rfl rfl
  ·
   omega
  omega
 refine xQ (yE (yE (xO (zB (zC (zA (mv rfl rfl (wC (by exact hfq) ?_))))))))
 intro h9 hh9 hq
 refine zM (vs := [_]) rfl rfl rfl rfl Tryz.call145 ⟨rfl, trivial⟩ (fun w hs => qM hs hq) ?_
 intro v297 h10 hh10 hr297
 replace hr297 := hr297.2
 refine mv rfl rfl (wC (by exact fit_shrM hRf) ?_)
 intro h11 hh11 hrr
 refine zM (vs := [_]) rfl rfl rfl rfl Tryz.call145 ⟨rfl, trivial⟩ (fun w hs => qM hs hrr) ?_
 intro v299 h12 hh12 hr299
 replace hr299 := hr299.2
 refine asg rfl rfl (asg rfl rfl (asg (v := vI (0)) rfl rfl (zD (zB (zR (qF rfl rfl rfl rfl ?_))))))
 replace hr297 := hr297.mono (hh11.trans hh12)
 have hkR : k = Rs.length := by omega
 rw [hkR, val_shrM hRf, hRv] at hr299
 obtain ⟨e1, e2⟩ := div_end (X := val xs) (Y := val ys) (s := s) (u := val us) (q := val qs) (by omega) (by rw [← hV, ← hU]; exact hval) (by rw [← hV]; exact hdr)
 rw [e1] at hr297
 rw [e2] at hr299
 rw [if_neg hyne, if_neg hyne]
 exact ⟨_, _, rfl, hr297, hr299⟩
end Go.Proofs.YtghhjjmjpeehdaaGreat
namespace Go.Proofs.YtghhjjmjpeehdaaGreat
open Bk Go
set_option linter.unusedVariables false
set_option linter.unusedSimpArgs false
set_option maxRecDepth 10000
theorem gA {w0 : World} {h0 : Mem}  (hs : MLe h0 (mem w0)) {v : Value} {xs : List Nat} (hv : Us .u32 h0 v xs) (hl : xs.length ≤ 17592186044416) :
    Calls Tryz.prog 118 #[v] w0 (Ret w0 h0 (fun h r => Us .u32 h r (zF (val xs)))) := by
 refine zP (n := 23) (e := [(0, v)]) (vs := [v]) Tryz.func118 rfl rfl (Nat.le_of_ble_eq_true rfl) hs ⟨rfl, trivial⟩ (zC (zA (asg rfl rfl (zD (zB (zC (zA (mv rfl rfl (gv (yA Tryz.underlying28 rfl hv) rfl (asg rfl rfl (zD (zB (zC ?_)))))))))))))
 refine zS ?_
 refine wR (ι := Nat) (fun (k : (Nat)) => k ≤ xs.length ∧ ∀ i, k ≤ i → xs.getD i 0 = 0) (fun (k : (Nat)) => [(0, v), (3, vI ↑k)]) (fun (k : (Nat)) => []) (fun (k : (Nat)) => h0) (fun (k : (Nat)) => k) xs.length ?_ ⟨rfl, rfl, trivial⟩ rfl rfl ?_
 ·
  exact ⟨Nat.le_refl _, fun i hi => by rw [List.getD_eq_getElem?_getD, List.getElem?_eq_none hi]; rfl⟩
 intro k hx
 obtain ⟨hk, hz⟩ := hx
 show GC _ _ _ _ _ _ [(0, v), (3, vI ↑k)] [] h0
 refine zC (zC (zA (mv rfl rfl (gv (uS (q := 0) rfl rfl) rfl ?_))))
 refine vO (ι := Unit) 8 (fun _ => True) (fun _ => [(15, vB (((0 : Int) < ↑k) ∧ (xs.getD (k - 1) 0 = 0))), (0, v), (3, vI ↑k)]) (fun _ => []) (fun _ => h0) ?_ ?_
 ·
  refine wM ((0 : Int) < ↑k) (fun hg => ?_) (fun hg => ?_)
  ·
   refine xH (zG (v := .bool true) (congrArg some (xS hg))) rfl rfl rfl (xA rfl rfl rfl (mv rfl rfl (xA rfl rfl rfl (mv rfl rfl (xA rfl rfl rfl (gv (xT (q := 1) rfl rfl (by omega) (by omega)) rfl (xA rfl rfl rfl (gv (yO (k - 1) Tryz.underlying28 Tryz.sizeOf124 rfl rfl hv (by omega) (by omega)) rfl (xA rfl rfl rfl (gv (yS Tryz.isAgg124 rfl hv (by omega)) rfl (xA rfl rfl rfl (gv (fJ (k := .u32) (q := 0) rfl rfl) rfl (gv (xK rfl rfl) rfl ?_)))))))))))))
   refine zD ?_
   refine yN () trivial ⟨?_, rfl, rfl, trivial⟩ rfl rfl
   exact congrArg some (uI hg)
  refine xH (zG (v := .bool false) (congrArg some (yX hg))) rfl rfl rfl (yL rfl rfl rfl rfl rfl rfl (yL rfl rfl rfl rfl rfl rfl (yL rfl rfl rfl rfl rfl rfl (yL rfl rfl rfl rfl rfl rfl (yL rfl rfl rfl rfl rfl rfl (yL rfl rfl rfl rfl rfl rfl (gv (wB rfl rfl) rfl (zD ?_))))))))
  refine yN () trivial ⟨?_, rfl, rfl, trivial⟩ rfl rfl
  exact congrArg some (uJ hg)
 intro _ _
 show GL _ _ _ _ _ _ _ [(15, vB (((0 : Int) < ↑k) ∧ (xs.getD (k - 1) 0 = 0))), (0, v), (3, vI ↑k)] [] h0
 refine zD (zB ?_)
 refine zO rfl (fun hc15 => ?_) (fun hc15 => ?_)
 ·
  refine zL (zB (zS (zA (mv rfl rfl (gv (xT (q := 1) rfl rfl (by omega) (by omega)) rfl (asg rfl rfl (zD (yV ?_))))))))
  refine yQ (k - 1) ?_ ?_ ⟨rfl, ?_, trivial⟩ rfl rfl
  ·
   exact ⟨by omega, fun i hi => by
     by_cases e : i = k - 1
     · rw [e]; exact hc15.2
     · exact hz i (by omega)⟩
  ·
   have := hc15.1; omega
  · exact congrArg some (congrArg vI (by have := hc15.1; omega))
 refine xQ (yE (yE (xO (zB (zC (zA (zK (oK (kd := .u32) Tryz.underlying28 uA rfl rfl) rfl rfl rfl ?_)))))))
 intro v18 r18 hr18
 obtain rfl := hr18
 refine mv rfl rfl (mv rfl rfl (gv (mT _ Tryz.underlying28 Tryz.sizeOf124 rfl rfl hv.shape rfl (by omega)) rfl ?_))
 have hsl21 := hv.sub (lo := 0) (hi := _) (by omega) (by omega)
 refine qN (A := []) (gB (kd := .u32) (bytes := 4) Tryz.underlying28 uA rfl rfl rfl rfl rfl hsl21 (by simp; omega) (by simp; omega)) rfl rfl rfl ?_
 intro v22 r22 hr22
 obtain rfl := hr22
 rw [List.nil_append, List.drop_zero, Nat.sub_zero]
 refine wC (by exact kJ hv.lt k) ?_
 intro h1 hh1 ho
 refine asg rfl rfl (zD (zB (zR (yJ rfl rfl ?_))))
 replace hv := hv.mono hh1
 have e : xs.take k = zF (val xs) := iH hv.lt hk hz (by
   by_cases h0 : k = 0
   · exact .inl h0
   · exact .inr fun h1 => hc15 ⟨by omega, h1⟩)
 rw [← e]
 exact ho
end Go.Proofs.YtghhjjmjpeehdaaGreat
namespace Go.Proofs.YtghhjjmjpeehdaaGreat
open Bk Go
set_option linter.unusedVariables false
set_option linter.unusedSimpArgs false
set_option maxRecDepth 10000
theorem nat_gcd {w0 : World} {h0 : Mem}  (hs : MLe h0 (mem w0)) {v v' : Value} {xs ys : List Nat} (hv : Us .u32 h0 v xs) (hv' : Us .u32 h0 v' ys) (hl : xs.length ≤ 1099511627776) (hl' : ys.length ≤ 1099511627776) :
    Calls Tryz.prog 132 #[v, v'] w0 (Ret w0 h0 (fun h r => Us .u32 h r (zF (Nat.gcd (val xs) (val ys))))) := by
 have hlx := uE hv.lt
 have hly := uE hv'.lt
 obtain ⟨G, hG⟩ : ∃ G, G = Nat.gcd (val xs) (val ys) := ⟨_, rfl⟩
 rw [← hG]
 refine zP (n := 61) (e := [(0, v), (1, v')]) (vs := [v, v']) Tryz.func132 rfl rfl (Nat.le_of_ble_eq_true rfl) hs ⟨rfl, rfl, trivial⟩ (zC (zA (asg rfl rfl (zD (zB (zC (zA (mv rfl rfl ?_))))))))
 refine zM (vs := [_]) rfl rfl rfl rfl Tryz.call145 ⟨rfl, trivial⟩ (fun w hs => qM hs hv) ?_
 intro v16 h1 hh1 hr16
 replace hr16 := hr16.2
 refine fY (vs := [_]) rfl rfl rfl rfl Tryz.call130 ⟨rfl, trivial⟩ (fun w hs => sE hs hr16 (by omega)) ?_
 intro v17 h2 L17 hh2 hr17
 obtain rfl := hr17
 refine wC (by exact vC _) ?_
 intro h3 hh3 hcx
 refine mv rfl rfl ?_
 replace hv' := hv'.mono ((hh1.trans hh2).trans hh3)
 refine zM (vs := [_]) rfl rfl rfl rfl Tryz.call145 ⟨rfl, trivial⟩ (fun w hs => qM hs hv') ?_
 intro v19 h4 hh4 hr19
 replace hr19 := hr19.2
 refine fY (vs := [_]) rfl rfl rfl rfl Tryz.call130 ⟨rfl, trivial⟩ (fun w hs => sE hs hr19 (by omega)) ?_
 intro v20 h5 L20 hh5 hr20
 obtain rfl := hr20
 refine wC (by exact vC _) ?_
 intro h6 hh6 hcy
 refine asg rfl rfl (asg rfl rfl (zD (zB (zC (zS ?_)))))
 refine wR (ι := Value × Nat × Value × Nat × Mem) (fun (vx, X, vy, Y, k1) => MLe h6 k1 ∧ (Us .u32 k1 vx (zF X) ∧ Us .u32 k1 vy (zF Y) ∧ Nat.gcd X Y = G ∧ (zF X).length ≤ 1099511627776 ∧ (zF Y).length ≤ 1099511627776)) (fun (vx, X, vy, Y, k1) => [(5, vx), (6, vy)]) (fun (vx, X, vy, Y, k1) => []) (fun (vx, X, vy, Y, k1) => k1) (fun (vx, X, vy, Y, k1) => Y) (v17, val xs, v20, val ys, h6) ?_ ⟨rfl, rfl, trivial⟩ rfl rfl ?_
 ·
  refine ⟨MLe.refl _, ?_⟩
  replace hcx := hcx.mono ((hh4.trans hh5).trans hh6)
  exact ⟨hcx, hcy, hG.symm, by omega, by omega⟩
 intro x hx
 obtain ⟨vx, X, vy, Y, k1⟩ := x
 obtain ⟨hmk1, ⟨ha, hb, hg, hlX, hlY⟩⟩ := hx
 show GC _ _ _ _ _ _ [(5, vx), (6, vy)] [] k1
 refine zC (zC (zA (mv rfl rfl (gv (yA Tryz.underlying28 rfl hb) rfl (gv (uS (q := 2) rfl rfl) rfl (zD (zB ?_)))))))
 refine zO rfl (fun hc23 => ?_) (fun hc23 => ?_)
 ·
  refine zL (zB (zS (zC (zA (mv rfl rfl (mv rfl rfl ?_))))))
  have hY0 : Y ≠ 0 := wL.1 (by omega)
  refine zM (vs := [_, _]) rfl rfl rfl rfl Tryz.call133 ⟨rfl, rfl, trivial⟩ (fun w hs => nU hs ha hb (by omega) (by omega)) ?_
  intro v27 h7 hh7 hr27
  obtain ⟨q27, r27, rfl, hq27, hr27⟩ := hr27
  simp only [zV] at hq27 hr27
  rw [if_neg hY0] at hr27
  have hlm := xJ (Nat.le_of_lt (Nat.mod_lt X (Nat.pos_of_ne_zero hY0)))
  refine mv rfl rfl (gv (zN (vs := [_, _, _]) rfl rfl) rfl (gv (zN (vs := [_, _, _]) rfl rfl) rfl (gv (zN (vs := [_, _, _]) rfl rfl) rfl (asg rfl rfl (asg rfl rfl (asg rfl rfl (zD (zJ (e' := [(6, _), (8, _)]) ⟨rfl, rfl, trivial⟩ (zB (zA (mv rfl rfl (mv rfl rfl (asg rfl rfl ?_)))))))))))))
  refine asg rfl rfl (zD (yV ?_))
  refine yQ (vy, Y, r27, X % Y, h7) ?_ ?_ ⟨rfl, rfl, trivial⟩ rfl rfl
  ·
   refine ⟨(hmk1.trans hh7), ?_⟩
   replace hb := hb.mono hh7
   exact ⟨hb, hr27, by rw [rI]; exact hg, hlY, by omega⟩
  dsimp only
  exact Nat.mod_lt _ (Nat.pos_of_ne_zero hY0)
 refine xQ (yE (yE (xO (zB (zC (zC (zA (mv rfl rfl (gv (yA Tryz.underlying28 rfl hb) rfl (gv (xZ (q := 0) rfl rfl) rfl (zD (zB ?_))))))))))))
 refine zO rfl (fun hc35 => ?_) (fun hc35 => ?_)
 ·
  have hY0 : Y = 0 := Classical.byContradiction fun hne => by have := wL.2 hne; omega
  refine zC (zA (mv rfl rfl (asg rfl rfl (zD (zB (zR (zX (yJ rfl rfl ?_))))))))
  rw [hY0, Nat.gcd_zero_right] at hg
  rw [← hg]
  exact ha
 have hY0 : Y ≠ 0 := wL.1 (by omega)
 refine zL (zB ?_)
 refine kV (ι := Value × Nat × Value × Nat × Mem) (fun (vx2, X2, vy2, Y2, k2) => MLe k1 k2 ∧ (Us .u32 k2 vx2 (zF X2) ∧ Us .u32 k2 vy2 (zF Y2) ∧ Nat.gcd X2 Y2 = G ∧ (zF X2).length ≤ 2 ∧ (zF Y2).length ≤ 2)) (fun (vx2, X2, vy2, Y2, k2) => [(5, vx2), (6, vy2)]) (fun (vx2, X2, vy2, Y2, k2) => []) (fun (vx2, X2, vy2, Y2, k2) => k2) ?_ ?_
 ·
  refine zC (zA (mv rfl rfl (gv (yA Tryz.underlying28 rfl ha) rfl (gv (uS (q := 2) rfl rfl) rfl (zD (zB ?_))))))
  refine zO rfl (fun hc39 => ?_) (fun hc39 => ?_)
  ·
   refine zC (zA (mv rfl rfl (mv rfl rfl ?_)))
   refine zM (vs := [_, _]) rfl rfl rfl rfl Tryz.call133 ⟨rfl, rfl, trivial⟩ (fun w hs => nU hs ha hb (by omega) (by omega)) ?_
   intro v43 h7 hh7 hr43
   obtain ⟨q43, r43, rfl, hq43, hr43⟩ := hr43
   simp only [zV] at hq43 hr43
   rw [if_neg hY0] at hr43
   have hlm := xJ (Nat.le_of_lt (Nat.mod_lt X (Nat.pos_of_ne_zero hY0)))
   refine mv rfl rfl (gv (zN (vs := [_, _, _]) rfl rfl) rfl (gv (zN (vs := [_, _, _]) rfl rfl) rfl (gv (zN (vs := [_, _, _]) rfl rfl) rfl (asg rfl rfl (asg rfl rfl (asg rfl rfl (zD (zJ (e' := [(6, _), (11, _)]) ⟨rfl, rfl, trivial⟩ (zB (zA (mv rfl rfl (mv rfl rfl (asg rfl rfl ?_)))))))))))))
   refine asg rfl rfl (zD ?_)
   refine yN (vy, Y, r43, X % Y, h7) ?_ ⟨rfl, rfl, trivial⟩ rfl rfl
   refine ⟨hh7, ?_⟩
   replace hb := hb.mono hh7
   exact ⟨hb, hr43, by rw [rI]; exact hg, by omega, by omega⟩
  refine zL ?_
  refine yN (vx, X, vy, Y, k1) ?_ ⟨rfl, rfl, trivial⟩ rfl rfl
  refine ⟨MLe.refl _, ?_⟩
  exact ⟨ha, hb, hg, by omega, by omega⟩
 intro x hx
 obtain ⟨vx2, X2, vy2, Y2, k2⟩ := x
 obtain ⟨hmk2, ⟨ha2, hb2, hg2, hx2, hy2⟩⟩ := hx
 show GC _ _ _ _ _ _ [(5, vx2), (6, vy2)] [] k2
 refine zC (zA (mv rfl rfl ?_))
 refine zM (vs := [_]) rfl rfl rfl rfl Tryz.call149 ⟨rfl, trivial⟩ (fun w hs => j4 hs ha2 (by omega)) ?_
 intro v50 h7 hh7 hr50
 subst hr50
 rw [zV]
 have hwx := sS hx2
 refine mv rfl rfl ?_
 replace hb2 := hb2.mono hh7
 refine zM (vs := [_]) rfl rfl rfl rfl Tryz.call149 ⟨rfl, trivial⟩ (fun w hs => j4 hs hb2 (by omega)) ?_
 intro v52 h8 hh8 hr52
 subst hr52
 rw [zV]
 have hwy := sS hy2
 refine asg rfl rfl (asg rfl rfl (zD (zB (zC (zS ?_)))))
 refine wR (ι := Nat × Nat) (fun (m, n) => Nat.gcd m n = G ∧ m < 18446744073709551616 ∧ n < 18446744073709551616) (fun (m, n) => [(13, vU .u64 m), (14, vU .u64 n)]) (fun (m, n) => []) (fun (m, n) => h8) (fun (m, n) => n) (X2, Y2) ?_ ⟨rfl, rfl, trivial⟩ rfl rfl ?_
 ·
  exact ⟨hg2, hwx, hwy⟩
 intro x hx
 obtain ⟨m, n⟩ := x
 obtain ⟨hg3, hm, hn⟩ := hx
 show GC _ _ _ _ _ _ [(13, vU .u64 m), (14, vU .u64 n)] [] h8
 refine zC (zC (zA (mv rfl rfl (gv (gH (k := .u64) (q := 0) rfl rfl) rfl (zD (zB ?_))))))
 refine zO rfl (fun hc54 => ?_) (fun hc54 => ?_)
 ·
  refine zL (zB (zS ?_))
  refine yI 6 _ [] [(0, .q), (1, .q), (2, .q), (3, .q), (4, .q), (5, .q)] xI (fun x hx => by cases hx) (by kernel_rfl) (fun x hx => by cases hx) (fun r hr => hr) (w_q rfl (fun h' L' hh hR => zG rfl) rfl (w_q rfl (fun h' L' hh hR => zG rfl) rfl (w_q rfl (fun h' L' hh hR => zG rfl) rfl (w_q rfl (fun h' L' hh hR => sG (k := .u64) rfl rfl (by omega)) rfl (w_q rfl (fun h' L' hh hR => zY rfl) rfl (w_q rfl (fun h' L' hh hR => zY rfl) rfl (xB (yV ?_))))))))
  refine yQ (n, m % n) ?_ ?_ ⟨rfl, rfl, trivial⟩ rfl rfl
  ·
   have hlt := Nat.mod_lt m (Nat.pos_of_ne_zero hc54)
   exact ⟨by rw [rI]; exact hg3, hn, by omega⟩
  dsimp only
  exact Nat.mod_lt _ (Nat.pos_of_ne_zero hc54)
 refine xQ (yE (yE (xO (zB (zC (zA (mv rfl rfl ?_)))))))
 refine zM (vs := [_]) rfl rfl rfl rfl Tryz.call135 ⟨rfl, trivial⟩ (fun w hs => nat_of hs (by omega)) ?_
 intro v60 h9 hh9 hr60
 refine asg rfl rfl (zD (zB (zR (yJ rfl rfl ?_))))
 have hn0 : n = 0 := Classical.not_not.1 hc54
 rw [hn0, Nat.gcd_zero_right] at hg3
 rw [← hg3]
 exact hr60
theorem bN {w0 : World} {h0 : Mem}  (hs : MLe h0 (mem w0)) {n : Nat} (hn : n < 18446744073709551616) :
    Calls Tryz.prog 116 #[vU .u64 n] w0 (Ret w0 h0 (fun h r => Us .u32 h r (zF n))) := by
 refine zP (n := 10) (e := [(0, vU .u64 n)]) (vs := [vU .u64 n]) Tryz.func116 rfl rfl (Nat.le_of_ble_eq_true rfl) hs ⟨rfl, trivial⟩ (zC (zA (asg rfl rfl (zD (zB (zC (zA (mv rfl rfl (gv (vD (k := .u64) (k' := .u32) (W := 4294967296) Tryz.underlying122 Tryz.underlying124 rfl rfl rfl) rfl (mv rfl rfl (gv (qB (k := .u64) (s := 32) (yk := .u64) rfl rfl rfl (by simp only [ub]; omega)) rfl (gv (vD (k := .u64) (k' := .u32) (W := 4294967296) Tryz.underlying122 Tryz.underlying124 rfl rfl rfl) rfl (zK (oJ (kd := .u32) Tryz.underlying28 uA rfl rfl rfl rfl) rfl rfl rfl ?_)))))))))))))
 intro v8 r8 hr8
 obtain rfl := hr8
 refine wC (by intro x hx; simp only [List.mem_cons, List.not_mem_nil, or_false] at hx; simp only [ub]; omega) ?_
 intro h1 hh1 hb
 refine zM (vs := [_]) rfl rfl rfl rfl Tryz.call118 ⟨rfl, trivial⟩ (fun w hs => gA hs hb (by simp)) ?_
 intro v9 h2 hh2 hr9
 refine asg rfl rfl (zD (zB (zR (yJ rfl rfl ?_))))
 have e : val [n % 4294967296, n / 2 ^ 32 % 4294967296] = n := by simp only [val]; omega
 rw [e] at hr9
 exact hr9
theorem rS {w0 : World} {h0 : Mem}  (hs : MLe h0 (mem w0)) {v v' : Value} {X Y : Nat} (hv : Us .u32 h0 v (zF X)) (hv' : Us .u32 h0 v' (zF Y)) :
    Calls Tryz.prog 93 #[v, v'] w0 (Ret w0 h0 (fun _ r => r = vI (gP X Y))) := by
 have vA := zV X
 have vB' := zV Y
 generalize hA : zF X = AA at *
 generalize hB : zF Y = BB at *
 have fA : Fit AA := hv.lt
 have fB : Fit BB := hv'.lt
 have lA := hv.lt63
 have lB := hv'.lt63
 refine zP (n := 41) (e := [(0, v), (1, v')]) (vs := [v, v']) Tryz.func93 rfl rfl (Nat.le_of_ble_eq_true rfl) hs ⟨rfl, rfl, trivial⟩ (zC (zA (asg (v := vI (0)) rfl rfl (zD (zB (zC (zC (zA (mv rfl rfl (gv (yA Tryz.underlying28 rfl hv) rfl (mv rfl rfl (gv (yA Tryz.underlying28 rfl hv') rfl (gv (tK rfl rfl) rfl ?_)))))))))))))
 refine zD (zB ?_)
 refine zO rfl (fun hc10 => ?_) (fun hc10 => ?_)
 ·
  refine zC (zC (zA (mv rfl rfl (gv (yA Tryz.underlying28 rfl hv) rfl (mv rfl rfl (gv (yA Tryz.underlying28 rfl hv') rfl (gv (zW rfl rfl) rfl (zD (zJ (e' := [(15, _)]) ⟨rfl, trivial⟩ (zB ?_))))))))))
  refine zO rfl (fun hc15 => ?_) (fun hc15 => ?_)
  ·
   refine zC (zA (asg (v := vI (-1)) rfl rfl (zD (zB (zR (zX (zX (yJ rfl rfl ?_))))))))
   rw [lH (fQ (by rw [hA, hB]; omega))]
  refine zL (zB (zC (zA (asg (v := vI (1)) rfl rfl (zD (zB (zR (zX (yJ rfl rfl ?_)))))))))
  rw [lI (fQ (by rw [hA, hB]; omega))]
 have hl : AA.length = BB.length := by omega
 refine zL (zB (zC (zC (zA (mv rfl rfl (gv (yA Tryz.underlying28 rfl hv) rfl (gv (xT (q := 1) rfl rfl (by omega) (by omega)) rfl (asg rfl rfl (zD (zB (zS ?_)))))))))))
 refine wR (ι := Nat) (fun (j : (Nat)) => j ≤ AA.length ∧ AA.drop j = BB.drop j) (fun (j : (Nat)) => [(0, v), (1, v'), (5, vI (↑j - 1))]) (fun (j : (Nat)) => []) (fun (j : (Nat)) => h0) (fun (j : (Nat)) => j) AA.length ?_ ⟨rfl, rfl, rfl, trivial⟩ rfl rfl ?_
 ·
  exact ⟨Nat.le_refl _, by rw [List.drop_of_length_le (Nat.le_refl _), List.drop_of_length_le (by omega)]⟩
 intro j hx
 obtain ⟨hj, hd⟩ := hx
 show GC _ _ _ _ _ _ [(0, v), (1, v'), (5, vI (↑j - 1))] [] h0
 refine zC (zC (zA (mv rfl rfl (gv (qL (q := 0) rfl rfl) rfl (zD (zB ?_))))))
 refine zO rfl (fun hc20 => ?_) (fun hc20 => ?_)
 ·
  refine zL (zB (zC (zS (zC (zC ?_)))))
  refine yI 9 _ [] [(0, .q), (1, .q), (2, .q), (3, .q), (4, .q), (5, .q), (6, .q), (7, .q), (8, .q)] xI (fun x hx => by cases hx) (by kernel_rfl) (fun x hx => by cases hx) (fun r hr => hr) (w_q rfl (fun h' L' hh hR => zG rfl) rfl (w_q rfl (fun h' L' hh hR => zG rfl) rfl (w_q rfl (fun h' L' hh hR => yO (j - 1) Tryz.underlying28 Tryz.sizeOf124 rfl rfl (hv.mono hh) (by omega) (by omega)) rfl (w_q rfl (fun h' L' hh hR => yS Tryz.isAgg124 rfl (hv.mono hh) (by omega)) rfl (w_q rfl (fun h' L' hh hR => zG rfl) rfl (w_q rfl (fun h' L' hh hR => zG rfl) rfl (w_q rfl (fun h' L' hh hR => yO (j - 1) Tryz.underlying28 Tryz.sizeOf124 rfl rfl (hv'.mono hh) (by omega) (by omega)) rfl (w_q rfl (fun h' L' hh hR => yS Tryz.isAgg124 rfl (hv'.mono hh) (by omega)) rfl (w_q rfl (fun h' L' hh hR => aJ (k := .u32) rfl rfl) rfl (xB (zJ (e' := [(0, _), (1, _), (5, _), (31, _)]) ⟨rfl, rfl, rfl, rfl, trivial⟩ (zB ?_))))))))))))
  refine zO rfl (fun hc31 => ?_) (fun hc31 => ?_)
  ·
   refine zC (zA (asg (v := vI (-1)) rfl rfl (zD (zB (zR (zX (wY (zX (zX (wY (zX (yJ rfl rfl ?_))))))))))))
   rw [← vA, ← vB', lH (nQ fA hl (by omega) hj hd hc31)]
  refine zL (zB (zC ?_))
  refine yI 9 _ [] [(0, .q), (1, .q), (2, .q), (3, .q), (4, .q), (5, .q), (6, .q), (7, .q), (8, .q)] xI (fun x hx => by cases hx) (by kernel_rfl) (fun x hx => by cases hx) (fun r hr => hr) (w_q rfl (fun h' L' hh hR => zG rfl) rfl (w_q rfl (fun h' L' hh hR => zG rfl) rfl (w_q rfl (fun h' L' hh hR => yO (j - 1) Tryz.underlying28 Tryz.sizeOf124 rfl rfl (hv.mono hh) (by omega) (by omega)) rfl (w_q rfl (fun h' L' hh hR => yS Tryz.isAgg124 rfl (hv.mono hh) (by omega)) rfl (w_q rfl (fun h' L' hh hR => zG rfl) rfl (w_q rfl (fun h' L' hh hR => zG rfl) rfl (w_q rfl (fun h' L' hh hR => yO (j - 1) Tryz.underlying28 Tryz.sizeOf124 rfl rfl (hv'.mono hh) (by omega) (by omega)) rfl (w_q rfl (fun h' L' hh hR => yS Tryz.isAgg124 rfl (hv'.mono hh) (by omega)) rfl (w_q rfl (fun h' L' hh hR => aK (k := .u32) rfl rfl) rfl (xB (zB ?_)))))))))))
  refine zO rfl (fun hc40 => ?_) (fun hc40 => ?_)
  ·
   refine wH (e' := []) trivial (zC (zA (asg (v := vI (1)) rfl rfl (zD (zB (zR (wY (zX (zX (wY (zX (yJ rfl rfl ?_))))))))))))
   rw [← vA, ← vB', lI (nQ fB hl.symm (by omega) (by omega) hd.symm (by omega))]
  refine wH (e' := [(0, _), (1, _), (5, _)]) ⟨rfl, rfl, rfl, trivial⟩ (zL (yV (zB (zA (mv rfl rfl (gv (xT (q := 1) rfl rfl (by omega) (by omega)) rfl (asg rfl rfl (zD ?_))))))))
  refine yQ (j - 1) ?_ ?_ ⟨rfl, rfl, ?_, trivial⟩ rfl rfl
  ·
   refine ⟨by omega, ?_⟩
   rw [kW AA (j - 1) (by omega), kW BB (j - 1) (by omega)]
   have e : j - 1 + 1 = j := by omega
   rw [e, hd, Classical.not_not.1 (show ¬ ¬ AA.getD (j - 1) 0 = BB.getD (j - 1) 0 by omega)]
  ·
   omega
  · exact congrArg some (congrArg vI (by omega))
 refine xQ (yE (yE (xO (zB (zC (zA (asg (v := vI (0)) rfl rfl (zD (zB (zR (yJ rfl rfl ?_)))))))))))
 have h0 : j = 0 := by omega
 subst h0
 simp only [List.drop_zero] at hd
 rw [← vA, ← vB', hd, cmpN_eq]
theorem ref_bits {w0 : World} {h0 : Mem}  (hs : MLe h0 (mem w0)) {v : Value} {X : Nat} (hv : Us .u32 h0 v (zF X)) (hl : (zF X).length ≤ 1099511627776) :
    Calls Tryz.prog 140 #[v] w0 (Ret w0 h0 (fun _ r => r = vI ↑(vS X))) := by
 refine zP (n := 25) (e := [(0, v)]) (vs := [v]) Tryz.func140 rfl rfl (Nat.le_of_ble_eq_true rfl) hs ⟨rfl, trivial⟩ (zC (zA (asg (v := vI (0)) rfl rfl (zD (zB (zC (zC (zA (mv rfl rfl (gv (yA Tryz.underlying28 rfl hv) rfl (gv (xZ (q := 0) rfl rfl) rfl (zD (zB ?_)))))))))))))
 refine zO rfl (fun hc7 => ?_) (fun hc7 => ?_)
 ·
  refine zC (zA (asg (v := vI (0)) rfl rfl (zD (zB (zR (zX (yJ rfl rfl ?_)))))))
  have h0 : X = 0 := Classical.byContradiction fun hne => by have := wL.2 hne; omega
  rw [h0]; rfl
 have hpos : 0 < (zF X).length := by omega
 have hb := nF (vC X) (k := (zF X).length - 1) (by omega) (gW hpos)
 rw [zV] at hb
 refine zL (zB (zC (zA (mv rfl rfl (gv (yA Tryz.underlying28 rfl hv) rfl (gv (xT (q := 1) rfl rfl (by omega) (by omega)) rfl (gv (jQ (p := 32) rfl rfl (by omega) (by omega)) rfl (asg rfl rfl (zD (zB (zC (zC (zA ?_)))))))))))))
 refine mv rfl rfl (mv rfl rfl (gv (yA Tryz.underlying28 rfl hv) rfl (gv (xT (q := 1) rfl rfl (by omega) (by omega)) rfl (gv (yO ((zF X).length - 1) Tryz.underlying28 Tryz.sizeOf124 rfl rfl hv (by omega) (by omega)) rfl (gv (yS Tryz.isAgg124 rfl hv (by omega)) rfl ?_)))))
 have hx1 := hv.get32 ((zF X).length - 1)
 refine asg rfl rfl (zD (zJ (e' := [(3, _), (4, _)]) ⟨rfl, rfl, trivial⟩ (zB (zS ?_))))
 refine wR (ι := Nat × Nat) (fun (c, x) => x < 4294967296 ∧ vS ((zF X).getD ((zF X).length - 1) 0) = c + vS x ∧ c ≤ 32) (fun (c, x) => [(3, vI (32 * (↑(zF X).length - 1) + ↑c)), (4, vU .u32 x)]) (fun (c, x) => []) (fun (c, x) => h0) (fun (c, x) => x) (0, (zF X).getD ((zF X).length - 1) 0) ?_ ⟨?_, ?_, trivial⟩ rfl rfl ?_
 ·
  exact ⟨hx1, by omega, by omega⟩
 · exact congrArg some (congrArg vI (by omega))
 · exact rfl
 intro x hx
 obtain ⟨c, x⟩ := x
 obtain ⟨hx, hcx, hc32⟩ := hx
 show GC _ _ _ _ _ _ [(3, vI (32 * (↑(zF X).length - 1) + ↑c)), (4, vU .u32 x)] [] h0
 have hb32 := rJ (n := (zF X).getD ((zF X).length - 1) 0) (k := 32) hx1
 refine zC (zC (zA (mv rfl rfl (gv (gH (k := .u32) (q := 0) rfl rfl) rfl (zD (zB ?_))))))
 refine zO rfl (fun hc19 => ?_) (fun hc19 => ?_)
 ·
  refine zL (zB (zC (zS (zA (mv rfl rfl (gv (zQ (q := 1) rfl rfl (by omega) (by omega)) rfl (asg rfl rfl (zD (yV (zB (zA (mv rfl rfl (gv (qB (k := .u32) (s := 1) (yk := .u64) rfl rfl rfl (by simp only [ub]; omega)) rfl ?_)))))))))))))
  refine asg rfl rfl (zD ?_)
  refine yQ (c + 1, x / 2 ^ 1) ?_ ?_ ⟨?_, rfl, trivial⟩ rfl rfl
  ·
   have h1 := bitsN_half hc19
   exact ⟨by omega, by rw [hcx, h1, show x / 2 ^ 1 = x / 2 from rfl]; omega, by omega⟩
  ·
   dsimp only
   omega
  · exact congrArg some (congrArg vI (by omega))
 refine xQ (yE (yE (xO (zB (zC (zA (mv rfl rfl (asg rfl rfl (zD (zB (zR (yJ rfl rfl ?_))))))))))))
 have hx0 : x = 0 := Classical.not_not.1 hc19
 rw [hx0, bitsN_zero] at hcx
 exact congrArg vI (by omega)
end Go.Proofs.YtghhjjmjpeehdaaGreat
namespace Go.Proofs.YtghhjjmjpeehdaaGreat
open Bk Go
set_option linter.unusedVariables false
set_option linter.unusedSimpArgs false
set_option maxRecDepth 10000
theorem ref_add {w0 : World} {h0 : Mem}  (hs : MLe h0 (mem w0)) {v v' : Value} {X Y : Nat} (hv : Us .u32 h0 v (zF X)) (hv' : Us .u32 h0 v' (zF Y)) (hl : (zF X).length ≤ 1099511627776) (hl' : (zF Y).length ≤ 1099511627776) :
    Calls Tryz.prog 92 #[v, v'] w0 (Ret w0 h0 (fun h r => Us .u32 h r (zF (X + Y)))) := by
 have hlA := xJ (Nat.le_add_right X Y)
 have hlB := xJ (Nat.le_add_left Y X)
 have hls := jL X Y
 refine zP (n := 54) (e := [(0, v), (1, v')]) (vs := [v, v']) Tryz.func92 rfl rfl (Nat.le_of_ble_eq_true rfl) hs ⟨rfl, rfl, trivial⟩ (zC (zA (asg rfl rfl (zD (zB (zC (zA (xH (zY (v := .slice none 0 0) rfl) rfl rfl rfl (iV (E := 124) (k := .u32) (zD (zB (zC (zA ?_)))))))))))))
 refine asg (v := vU .u64 0) rfl rfl (zD (zB (zC (zC (zA (asg (v := vI (0)) rfl rfl (zD (zB (zS ?_)))))))))
 refine wR (ι := Value × List Nat × Nat × Mem) (fun (vo, ss, c, k1) => MLe h0 k1 ∧ (ss.length ≤ (zF (X + Y)).length ∧ Fit ss ∧ c ≤ 1 ∧ val ss + 4294967296 ^ ss.length * c = val ((zF X).take ss.length) + val ((zF Y).take ss.length))) (fun (vo, ss, c, k1) => [(0, v), (1, v'), (5, vo), (6, vU .u64 c), (7, vI ↑ss.length)]) (fun (vo, ss, c, k1) => [.us 124 .u32 vo ss]) (fun (vo, ss, c, k1) => k1) (fun (vo, ss, c, k1) => (zF (X + Y)).length - ss.length) (.slice none 0 0, [], 0, h0) ?_ ⟨rfl, rfl, rfl, rfl, rfl, trivial⟩ rfl rfl ?_
 ·
  refine ⟨MLe.refl _, ?_⟩
  exact ⟨by simp, fun x hx => by simp at hx, by omega, by simp [val]⟩
 intro x hx
 obtain ⟨vo, ss, c, k1⟩ := x
 obtain ⟨hmk1, ⟨hss, hfs, hc1, hval⟩⟩ := hx
 show GC _ _ _ _ _ _ [(0, v), (1, v'), (5, vo), (6, vU .u64 c), (7, vI ↑ss.length)] [.us 124 .u32 vo ss] k1
 replace hv := hv.mono hmk1
 replace hv' := hv'.mono hmk1
 have hx1 := hv.get32 ss.length
 have hx2 := hv'.get32 ss.length
 refine zC (zC (zA (mv rfl rfl (mv rfl rfl (gv (yA Tryz.underlying28 rfl hv) rfl (gv (zW rfl rfl) rfl ?_))))))
 refine vO (ι := Unit) 6 (fun _ => True) (fun _ => [(17, vB (((↑ss.length : Int) < ↑(zF X).length) ∨ ((↑ss.length : Int) < ↑(zF Y).length))), (0, v), (1, v'), (5, vo), (6, vU .u64 c), (7, vI ↑ss.length)]) (fun _ => [.us 124 .u32 vo ss]) (fun _ => k1) ?_ ?_
 ·
  refine wM ((↑ss.length : Int) < ↑(zF X).length) (fun hg => ?_) (fun hg => ?_)
  ·
   refine xH (zG (v := .bool true) (congrArg some (xS hg))) rfl rfl rfl (yL rfl rfl rfl rfl rfl rfl (yL rfl rfl rfl rfl rfl rfl (yL rfl rfl rfl rfl rfl rfl (yL rfl rfl rfl rfl rfl rfl (gv (xK rfl rfl) rfl (zD ?_))))))
   refine yN () trivial ⟨?_, rfl, rfl, rfl, rfl, rfl, trivial⟩ rfl rfl
   exact congrArg some (qR hg)
  refine xH (zG (v := .bool false) (congrArg some (yX hg))) rfl rfl rfl (xA rfl rfl rfl (mv rfl rfl (xA rfl rfl rfl (mv rfl rfl (xA rfl rfl rfl (gv (yA Tryz.underlying28 rfl hv') rfl (xA rfl rfl rfl (gv (zW rfl rfl) rfl (gv (wB rfl rfl) rfl (zD ?_))))))))))
  refine yN () trivial ⟨?_, rfl, rfl, rfl, rfl, rfl, trivial⟩ rfl rfl
  exact congrArg some (qS hg)
 intro _ _
 show GL _ _ _ _ _ _ _ [(17, vB (((↑ss.length : Int) < ↑(zF X).length) ∨ ((↑ss.length : Int) < ↑(zF Y).length))), (0, v), (1, v'), (5, vo), (6, vU .u64 c), (7, vI ↑ss.length)] [.us 124 .u32 vo ss] k1
 refine vO (ι := Unit) 4 (fun _ => True) (fun _ => [(21, vB (((↑ss.length : Int) < ↑(zF X).length ∨ (↑ss.length : Int) < ↑(zF Y).length) ∨ (c ≠ 0))), (0, v), (1, v'), (5, vo), (6, vU .u64 c), (7, vI ↑ss.length)]) (fun _ => [.us 124 .u32 vo ss]) (fun _ => k1) ?_ ?_
 ·
  refine wM ((↑ss.length : Int) < ↑(zF X).length ∨ (↑ss.length : Int) < ↑(zF Y).length) (fun hg => ?_) (fun hg => ?_)
  ·
   refine xH (zG (v := .bool true) (congrArg some (xS hg))) rfl rfl rfl (yL rfl rfl rfl rfl rfl rfl (yL rfl rfl rfl rfl rfl rfl (gv (xK rfl rfl) rfl (zD ?_))))
   refine yN () trivial ⟨?_, rfl, rfl, rfl, rfl, rfl, trivial⟩ rfl rfl
   exact congrArg some (qR hg)
  refine xH (zG (v := .bool false) (congrArg some (yX hg))) rfl rfl rfl (xA rfl rfl rfl (mv rfl rfl (xA rfl rfl rfl (gv (gH (k := .u64) (q := 0) rfl rfl) rfl (gv (wB rfl rfl) rfl (zD ?_))))))
  refine yN () trivial ⟨?_, rfl, rfl, rfl, rfl, rfl, trivial⟩ rfl rfl
  exact congrArg some (qS hg)
 intro _ _
 show GL _ _ _ _ _ _ _ [(21, vB (((↑ss.length : Int) < ↑(zF X).length ∨ (↑ss.length : Int) < ↑(zF Y).length) ∨ (c ≠ 0))), (0, v), (1, v'), (5, vo), (6, vU .u64 c), (7, vI ↑ss.length)] [.us 124 .u32 vo ss] k1
 refine zD (zB ?_)
 refine zO rfl (fun hc21 => ?_) (fun hc21 => ?_)
 ·
  refine zL (zB (zC (zS ?_)))
  refine kV (ι := Unit) (fun (_u : (Unit)) => True) (fun (_u : (Unit)) => [(0, v), (1, v'), (5, vo), (6, vU .u64 (c + (zF X).getD ss.length 0)), (7, vI ↑ss.length)]) (fun (_u : (Unit)) => [.us 124 .u32 vo ss]) (fun (_u : (Unit)) => k1) ?_ ?_
  ·
   refine zC (zA (mv rfl rfl (mv rfl rfl (gv (yA Tryz.underlying28 rfl hv) rfl (gv (zW rfl rfl) rfl (zD (zB ?_)))))))
   refine zO rfl (fun hc27 => ?_) (fun hc27 => ?_)
   ·
    refine zA (mv rfl rfl (mv rfl rfl (mv rfl rfl (gv (yO (ss.length) Tryz.underlying28 Tryz.sizeOf124 rfl rfl hv (by omega) (by omega)) rfl (gv (yS Tryz.isAgg124 rfl hv (by omega)) rfl (gv (xE (k := .u32) (k' := .u64) (W := 18446744073709551616) Tryz.underlying124 Tryz.underlying122 rfl rfl rfl (by omega)) rfl (gv (qW (k := .u64) (W := 18446744073709551616) rfl rfl rfl rfl (by omega)) rfl (asg rfl rfl (zD ?_)))))))))
    refine yN (()) ?_ ⟨rfl, rfl, rfl, rfl, rfl, trivial⟩ rfl rfl
    trivial
   refine zL ?_
   refine yN (()) ?_ ⟨rfl, rfl, rfl, ?_, rfl, trivial⟩ rfl rfl
   ·
    trivial
   · exact congrArg some (congrArg (vU .u64) (by rw [gN (xs := zF X) (by omega)]; omega))
  intro _u hx
  obtain hcut := hx
  show GC _ _ _ _ _ _ [(0, v), (1, v'), (5, vo), (6, vU .u64 (c + (zF X).getD ss.length 0)), (7, vI ↑ss.length)] [.us 124 .u32 vo ss] k1
  refine kV (ι := Unit) (fun (_u : (Unit)) => True) (fun (_u : (Unit)) => [(0, v), (1, v'), (5, vo), (6, vU .u64 (c + (zF X).getD ss.length 0 + (zF Y).getD ss.length 0)), (7, vI ↑ss.length)]) (fun (_u : (Unit)) => [.us 124 .u32 vo ss]) (fun (_u : (Unit)) => k1) ?_ ?_
  ·
   refine zC (zA (mv rfl rfl (mv rfl rfl (gv (yA Tryz.underlying28 rfl hv') rfl (gv (zW rfl rfl) rfl (zD (zB ?_)))))))
   refine zO rfl (fun hc38 => ?_) (fun hc38 => ?_)
   ·
    refine zA (mv rfl rfl (mv rfl rfl (mv rfl rfl (gv (yO (ss.length) Tryz.underlying28 Tryz.sizeOf124 rfl rfl hv' (by omega) (by omega)) rfl (gv (yS Tryz.isAgg124 rfl hv' (by omega)) rfl (gv (xE (k := .u32) (k' := .u64) (W := 18446744073709551616) Tryz.underlying124 Tryz.underlying122 rfl rfl rfl (by omega)) rfl (gv (qW (k := .u64) (W := 18446744073709551616) rfl rfl rfl rfl (by omega)) rfl (asg rfl rfl (zD ?_)))))))))
    refine yN (()) ?_ ⟨rfl, rfl, rfl, rfl, rfl, trivial⟩ rfl rfl
    trivial
   refine zL ?_
   refine yN (()) ?_ ⟨rfl, rfl, rfl, ?_, rfl, trivial⟩ rfl rfl
   ·
    trivial
   · exact congrArg some (congrArg (vU .u64) (by rw [gN (xs := zF Y) (by omega)]; omega))
  intro _u hx
  obtain hcut := hx
  show GC _ _ _ _ _ _ [(0, v), (1, v'), (5, vo), (6, vU .u64 (c + (zF X).getD ss.length 0 + (zF Y).getD ss.length 0)), (7, vI ↑ss.length)] [.us 124 .u32 vo ss] k1
  refine zC (zA (mv rfl rfl (mv rfl rfl (gv (vD (k := .u64) (k' := .u32) (W := 4294967296) Tryz.underlying122 Tryz.underlying124 rfl rfl rfl) rfl (zK (tE (kd := .u32) Tryz.underlying28 uA rfl rfl rfl) rfl rfl rfl ?_)))))
  intro v49 r49 hr49
  obtain rfl := hr49
  refine wC (by intro z hz; simp only [List.mem_singleton] at hz; subst hz; simp only [ub]; omega) ?_
  intro h1 hh1 hch
  refine qN (A := []) (gB (kd := .u32) (bytes := 4) Tryz.underlying28 uA rfl rfl rfl rfl rfl hch (by simp only [List.length_singleton]; omega) (by simp only [List.length_singleton]; omega)) rfl rfl rfl ?_
  intro v50 r50 hr50
  obtain rfl := hr50
  refine asg rfl rfl (zD (zB (zA (mv rfl rfl (gv (qB (k := .u64) (s := 32) (yk := .u64) rfl rfl rfl (by simp only [ub]; omega)) rfl (asg rfl rfl (zD (yV (zB (zA (mv rfl rfl (gv (zQ (q := 1) rfl rfl (by omega) (by omega)) rfl (asg rfl rfl ?_)))))))))))))
  refine zD ?_
  generalize hXi : (zF X).getD ss.length 0 = p at *
  generalize hYi : (zF Y).getD ss.length 0 = q at *
  have hgrow : ss.length < (zF (X + Y)).length := by
    rcases hc21 with (h | h) | h
    · omega
    · omega
    · by_cases h1 : ss.length < (zF X).length
      · omega
      · by_cases h2 : ss.length < (zF Y).length
        · omega
        · rw [wQ (by omega), wQ (by omega), zV, zV] at hval
          refine aW ?_
          have := Nat.le_mul_of_pos_right (4294967296 ^ ss.length) (Nat.pos_of_ne_zero h)
          omega
  refine yQ (v50, ss ++ [(c + p + q) % 4294967296], (c + p + q) / 2 ^ 32, h1) ?_ ?_ ⟨rfl, rfl, rfl, rfl, ?_, trivial⟩ rfl rfl
  ·
   refine ⟨(hmk1.trans hh1), ?_⟩
   refine ⟨by simp; omega, vZ hfs (tW (by omega)), by omega, ?_⟩
   rw [List.length_append, List.length_singleton, vV, vV, hXi, hYi, fH, Nat.pow_succ]
   have e := Nat.div_add_mod (c + p + q) 4294967296
   rw [show (2 : Nat) ^ 32 = 4294967296 from rfl]
   generalize (c + p + q) / 4294967296 = s at *
   generalize (c + p + q) % 4294967296 = r at *
   grind
  ·
   dsimp only
   simp; omega
  · exact congrArg some (congrArg vI (by simp))
 refine xQ (yE (yE (xO (zB (zC (zA (mv rfl rfl (wC (by exact hfs) ?_))))))))
 intro h1 hh1 ho
 refine asg rfl rfl (zD (zB (zR (yJ rfl rfl ?_))))
 have h1 : ¬ ss.length < (zF X).length := fun h => hc21 (.inl (.inl (by omega)))
 have h2 : ¬ ss.length < (zF Y).length := fun h => hc21 (.inl (.inr (by omega)))
 have h3 : c = 0 := Classical.byContradiction fun h => hc21 (.inr h)
 rw [wQ (by omega), wQ (by omega), zV, zV, h3] at hval
 have e : val ss = X + Y := by omega
 rw [← e, j9 hfs (by rw [e]; exact hss)]
 exact ho
theorem lR {w0 : World} {h0 : Mem}  (hs : MLe h0 (mem w0)) {v v' : Value} {X Y : Nat} (hv : Us .u32 h0 v (zF X)) (hv' : Us .u32 h0 v' (zF Y)) (hle : Y ≤ X) (hl : (zF X).length ≤ 1099511627776) :
    Calls Tryz.prog 121 #[v, v'] w0 (Ret w0 h0 (fun h r => Us .u32 h r (zF (X - Y)))) := by
 have hlm := xJ hle
 refine zP (n := 50) (e := [(0, v), (1, v')]) (vs := [v, v']) Tryz.func121 rfl rfl (Nat.le_of_ble_eq_true rfl) hs ⟨rfl, rfl, trivial⟩ (zC (zA (asg rfl rfl (zD (zB (zC (zA (mv rfl rfl (gv (yA Tryz.underlying28 rfl hv) rfl (qG (kd := .u32) (by' := 4) _ Tryz.underlying28 uA rfl rfl rfl rfl rfl rfl rfl (by omega) (by omega) rfl ?_))))))))))
 intro v12
 refine asg rfl rfl (zD (zB (zC (zA (asg (v := vU .u64 0) rfl rfl (zD (zB (zC (zC (zA (asg (v := vI (0)) rfl rfl (zD (zB ?_)))))))))))))
 refine zS ?_
 refine wR (ι := List Nat × Nat) (fun (ss, c) => ss.length ≤ (zF X).length ∧ Fit ss ∧ c ≤ 1 ∧ val ss + val ((zF Y).take ss.length) = val ((zF X).take ss.length) + 4294967296 ^ ss.length * c) (fun (ss, c) => [(0, v), (1, v'), (5, v12), (6, vU .u64 c), (7, vI ↑ss.length)]) (fun (ss, c) => [.us 124 .u32 v12 (qK ss (zF X).length)]) (fun (ss, c) => h0) (fun (ss, c) => (zF X).length - ss.length) ([], 0) ?_ ⟨rfl, rfl, rfl, rfl, rfl, trivial⟩ rfl rfl ?_
 ·
  exact ⟨by simp, fun x hx => by simp at hx, by omega, by simp [val]⟩
 intro x hx
 obtain ⟨ss, c⟩ := x
 obtain ⟨hss, hfs, hc1, hval⟩ := hx
 show GC _ _ _ _ _ _ [(0, v), (1, v'), (5, v12), (6, vU .u64 c), (7, vI ↑ss.length)] [.us 124 .u32 v12 (qK ss (zF X).length)] h0
 have hx1 := hv.get32 ss.length
 have hx2 := hv'.get32 ss.length
 refine zC (zC (zA (mv rfl rfl (mv rfl rfl (gv (yA Tryz.underlying28 rfl hv) rfl (gv (zW rfl rfl) rfl (zD (zB ?_))))))))
 refine zO rfl (fun hc16 => ?_) (fun hc16 => ?_)
 ·
  refine zL (zB (zC (zS (zC (zA (mv rfl rfl (asg rfl rfl (zD (zB ?_)))))))))
  refine kV (ι := Unit) (fun (_u : (Unit)) => True) (fun (_u : (Unit)) => [(0, v), (1, v'), (5, v12), (7, vI ↑ss.length), (8, vU .u64 (c + (zF Y).getD ss.length 0))]) (fun (_u : (Unit)) => [.us 124 .u32 v12 (qK ss (zF X).length)]) (fun (_u : (Unit)) => h0) ?_ ?_
  ·
   refine zC (zA (mv rfl rfl (mv rfl rfl (gv (yA Tryz.underlying28 rfl hv') rfl (gv (zW rfl rfl) rfl (zD (zB ?_)))))))
   refine zO rfl (fun hc23 => ?_) (fun hc23 => ?_)
   ·
    refine wH (e' := [(0, _), (1, _), (5, _), (7, _), (8, _)]) ⟨rfl, rfl, rfl, rfl, rfl, trivial⟩ (zA (mv rfl rfl (mv rfl rfl (mv rfl rfl (gv (yO (ss.length) Tryz.underlying28 Tryz.sizeOf124 rfl rfl hv' (by omega) (by omega)) rfl (gv (yS Tryz.isAgg124 rfl hv' (by omega)) rfl (gv (xE (k := .u32) (k' := .u64) (W := 18446744073709551616) Tryz.underlying124 Tryz.underlying122 rfl rfl rfl (by omega)) rfl (gv (qW (k := .u64) (W := 18446744073709551616) rfl rfl rfl rfl (by omega)) rfl (asg rfl rfl (zD ?_))))))))))
    refine yN (()) ?_ ⟨rfl, rfl, rfl, rfl, rfl, trivial⟩ rfl rfl
    trivial
   refine wH (e' := [(0, _), (1, _), (5, _), (7, _), (8, _)]) ⟨rfl, rfl, rfl, rfl, rfl, trivial⟩ (zL ?_)
   refine yN (()) ?_ ⟨rfl, rfl, rfl, rfl, ?_, trivial⟩ rfl rfl
   ·
    trivial
   · exact congrArg some (congrArg (vU .u64) (by rw [gN (xs := zF Y) (by omega)]; omega))
  intro _u hx
  obtain hcut := hx
  show GC _ _ _ _ _ _ [(0, v), (1, v'), (5, v12), (7, vI ↑ss.length), (8, vU .u64 (c + (zF Y).getD ss.length 0))] [.us 124 .u32 v12 (qK ss (zF X).length)] h0
  refine zC (zA (mv rfl rfl (mv rfl rfl (gv (yO (ss.length) Tryz.underlying28 Tryz.sizeOf124 rfl rfl hv (by omega) (by omega)) rfl (gv (yS Tryz.isAgg124 rfl hv (by omega)) rfl (gv (xE (k := .u32) (k' := .u64) (W := 18446744073709551616) Tryz.underlying124 Tryz.underlying122 rfl rfl rfl (by omega)) rfl (asg rfl rfl (zD (zB (zC (zA (asg (v := vU .u64 0) rfl rfl (zD ?_)))))))))))))
  refine zB ?_
  refine kV (ι := Nat) (fun (d : (Nat)) => d ≤ 1 ∧ c + (zF Y).getD ss.length 0 ≤ (zF X).getD ss.length 0 + 4294967296 * d ∧ (zF X).getD ss.length 0 + 4294967296 * d < c + (zF Y).getD ss.length 0 + 4294967296) (fun (d : (Nat)) => [(0, v), (1, v'), (5, v12), (6, vU .u64 d), (7, vI ↑ss.length), (8, vU .u64 (c + (zF Y).getD ss.length 0)), (9, vU .u64 ((zF X).getD ss.length 0 + 4294967296 * d))]) (fun (d : (Nat)) => [.us 124 .u32 v12 (qK ss (zF X).length)]) (fun (d : (Nat)) => h0) ?_ ?_
  ·
   refine zC (zA (mv rfl rfl (mv rfl rfl (gv (aJ (k := .u64) rfl rfl) rfl (zD (zB ?_))))))
   refine zO rfl (fun hc38 => ?_) (fun hc38 => ?_)
   ·
    refine zC (zA (mv rfl rfl (gv (qW (k := .u64) (q := 4294967296) (W := 18446744073709551616) rfl rfl rfl rfl (by omega)) rfl (asg rfl rfl (zD (zJ (e' := [(0, _), (1, _), (5, _), (7, _), (8, _), (9, _)]) ⟨rfl, rfl, rfl, rfl, rfl, rfl, trivial⟩ (zB (zA (asg (v := vU .u64 1) rfl rfl (zD ?_))))))))))
    refine yN (1) ?_ ⟨rfl, rfl, rfl, rfl, rfl, rfl, rfl, trivial⟩ rfl rfl
    exact ⟨by omega, by omega, by omega⟩
   refine zL ?_
   refine yN (0) ?_ ⟨rfl, rfl, rfl, rfl, rfl, rfl, rfl, trivial⟩ rfl rfl
   exact ⟨by omega, by omega, by omega⟩
  intro d hx
  obtain ⟨hd1, hd2, hd3⟩ := hx
  show GC _ _ _ _ _ _ [(0, v), (1, v'), (5, v12), (6, vU .u64 d), (7, vI ↑ss.length), (8, vU .u64 (c + (zF Y).getD ss.length 0)), (9, vU .u64 ((zF X).getD ss.length 0 + 4294967296 * d))] [.us 124 .u32 v12 (qK ss (zF X).length)] h0
  refine zA (mv rfl rfl (mv rfl rfl (mv rfl rfl (mv rfl rfl (gv (sF (k := .u64) (W := 18446744073709551616) rfl rfl rfl rfl (by omega) (by omega)) rfl (gv (xE (k := .u64) (k' := .u32) (W := 4294967296) Tryz.underlying122 Tryz.underlying124 rfl rfl rfl (by omega)) rfl (gv (wJ (A := []) (ss.length) Tryz.underlying28 Tryz.sizeOf124 rfl rfl (by omega) (by rw [vW (by omega)]; omega)) rfl (vJ Tryz.sizeOf124 rfl rfl (by rw [vW (by omega)]; omega) (zD (yV (zB (zA (mv rfl rfl ?_)))))))))))))
  refine gv (zQ (q := 1) rfl rfl (by omega) (by omega)) rfl (asg rfl rfl (zD ?_))
  generalize hXi : (zF X).getD ss.length 0 = p at *
  generalize hYi : (zF Y).getD ss.length 0 = q at *
  refine yQ (ss ++ [p + 4294967296 * d - (c + q)], d) ?_ ?_ ⟨rfl, rfl, rfl, rfl, ?_, trivial⟩ ?_ rfl
  ·
   refine ⟨by simp; omega, vZ hfs (tW (by omega)), hd1, ?_⟩
   rw [List.length_append, List.length_singleton, vV, vV, hXi, hYi, fH, Nat.pow_succ]
   have e : p + 4294967296 * d - (c + q) + c + q = p + 4294967296 * d := by omega
   generalize p + 4294967296 * d - (c + q) = r at *
   grind
  ·
   dsimp only
   simp; omega
  · exact congrArg some (congrArg vI (by simp))
  try dsimp only [List.nil_append, List.cons_append]
  rw [fS (by omega)]
 refine xQ (yE (yE (xO (zB (zC (zA (mv rfl rfl ?_)))))))
 have hk : ss.length = (zF X).length := by omega
 rw [tN hk]
 refine wC (by exact hfs) ?_
 intro h1 hh1 ho
 refine zM (vs := [_]) rfl rfl rfl rfl Tryz.call118 ⟨rfl, trivial⟩ (fun w hs => gA hs ho (by omega)) ?_
 intro v49 h2 hh2 hr49
 refine asg rfl rfl (zD (zJ (e' := [(4, _)]) ⟨rfl, trivial⟩ (zB (zR (yJ rfl rfl ?_)))))
 have hk : ss.length = (zF X).length := by omega
 rw [wQ (by omega), wQ (by omega), zV, zV] at hval
 have h1 := jT hfs
 have h2 : c = 0 := Classical.byContradiction fun hne => by
   have : c = 1 := by omega
   subst this
   omega
 subst h2
 have e : val ss = X - Y := by omega
 rw [e] at hr49
 exact hr49
theorem ref_sub {w0 : World} {h0 : Mem}  (hs : MLe h0 (mem w0)) {v v' : Value} {X Y : Nat} (hv : Us .u32 h0 v (zF X)) (hv' : Us .u32 h0 v' (zF Y)) (hl : (zF X).length ≤ 1099511627776) :
    Calls Tryz.prog 94 #[v, v'] w0 (Ret w0 h0 (fun h r => ∃ u, r = .tuple #[u, vI (if X < Y then 7 else 0)] ∧ Us .u32 h u (zF (X - Y)))) := by
 refine zP (n := 13) (e := [(0, v), (1, v')]) (vs := [v, v']) Tryz.func94 rfl rfl (Nat.le_of_ble_eq_true rfl) hs ⟨rfl, rfl, trivial⟩ (zC (zA (asg rfl rfl (asg (v := vI (0)) rfl rfl (zD (zB (zC (zC (zA (mv rfl rfl (mv rfl rfl ?_)))))))))))
 refine zM (vs := [_, _]) rfl rfl rfl rfl Tryz.call93 ⟨rfl, rfl, trivial⟩ (fun w hs => rS hs hv hv') ?_
 intro v8 h1 hh1 hr8
 subst hr8
 refine gv (zW (q := 0) rfl rfl) rfl (zD (zB ?_))
 refine zO rfl (fun hc9 => ?_) (fun hc9 => ?_)
 ·
  have hlt := fO.1 hc9
  refine zC (zA (asg rfl rfl (asg (v := vI (7)) rfl rfl (zD (zB (zR (zX (vG rfl rfl rfl ?_))))))))
  rw [if_pos hlt, Nat.sub_eq_zero_of_le (Nat.le_of_lt hlt), wK]
  exact ⟨_, rfl, Us.nil _ _⟩
 have hge : Y ≤ X := Nat.le_of_not_lt fun hc => hc9 (fO.2 hc)
 refine zL (zB (zC (zA (mv rfl rfl (mv rfl rfl ?_)))))
 replace hv := hv.mono hh1
 replace hv' := hv'.mono hh1
 refine zM (vs := [_, _]) rfl rfl rfl rfl Tryz.call121 ⟨rfl, rfl, trivial⟩ (fun w hs => lR hs hv hv' (by omega) (by omega)) ?_
 intro v12 h2 hh2 hr12
 refine asg rfl rfl (asg (v := vI (0)) rfl rfl (zD (zB (zR (vG rfl rfl rfl ?_)))))
 rw [if_neg (by omega)]
 exact ⟨_, rfl, hr12⟩
theorem tI {w0 : World} {h0 : Mem}  (hs : MLe h0 (mem w0)) {v v' : Value} {xs ys : List Nat} (hv : Us .u32 h0 v xs) (hv' : Us .u32 h0 v' ys) (hl : xs.length ≤ 1099511627776) (hl' : ys.length ≤ 1099511627776) :
    Calls Tryz.prog 90 #[v, v'] w0 (Ret w0 h0 (fun h r => Us .u32 h r (zF (val xs * val ys)))) := by
 have hfx : Fit xs := hv.lt
 have hfy : Fit ys := hv'.lt
 refine zP (n := 67) (e := [(0, v), (1, v')]) (vs := [v, v']) Tryz.func90 rfl rfl (Nat.le_of_ble_eq_true rfl) hs ⟨rfl, rfl, trivial⟩ (zC (zA (asg rfl rfl (zD (zB (zC (zA (mv rfl rfl (gv (yA Tryz.underlying28 rfl hv) rfl (mv rfl rfl (gv (yA Tryz.underlying28 rfl hv') rfl (gv (zQ rfl rfl (by omega) (by omega)) rfl (qG (kd := .u32) (by' := 4) (xs.length + ys.length) Tryz.underlying28 uA rfl rfl rfl rfl rfl (by omega) (by omega) (by omega) (by omega) rfl ?_)))))))))))))
 intro v14
 refine asg rfl rfl (zD (zB (zC (zC (zA (asg (v := vI (0)) rfl rfl (zD (zB (zS ?_)))))))))
 refine wR (ι := Nat × List Nat) (fun (k, os) => k ≤ xs.length ∧ os.length = xs.length + ys.length ∧ Fit os ∧ val os = val (xs.take k) * val ys ∧ ∀ i, k + ys.length ≤ i → os.getD i 0 = 0) (fun (k, os) => [(0, v), (1, v'), (5, v14), (6, vI ↑k)]) (fun (k, os) => [.us 124 .u32 v14 os]) (fun (k, os) => h0) (fun (k, os) => xs.length - k) (0, List.replicate (xs.length + ys.length) 0) ?_ ⟨rfl, rfl, rfl, rfl, trivial⟩ rfl rfl ?_
 ·
  exact ⟨Nat.zero_le _, by simp, qT _, by rw [tH]; simp [val], fun i _ => cM _ _⟩
 intro x hx
 obtain ⟨k, os⟩ := x
 obtain ⟨hk, hos, hfo, hval, hz⟩ := hx
 show GC _ _ _ _ _ _ [(0, v), (1, v'), (5, v14), (6, vI ↑k)] [.us 124 .u32 v14 os] h0
 refine zC (zC (zA (mv rfl rfl (mv rfl rfl (gv (yA Tryz.underlying28 rfl hv) rfl (gv (zW rfl rfl) rfl (zD (zB ?_))))))))
 refine zO rfl (fun hc18 => ?_) (fun hc18 => ?_)
 ·
  refine zL (zB (zC (zS (zC (zA (asg (v := vU .u64 0) rfl rfl (zD (zB (zC (zC (zA (asg (v := vI (0)) rfl rfl (zD ?_)))))))))))))
  refine zB (zS ?_)
  refine wR (ι := Nat × List Nat × Nat) (fun (j, ts, c) => j ≤ ys.length ∧ ts.length = xs.length + ys.length ∧ Fit ts ∧ c < 4294967296 ∧ val ts + 4294967296 ^ (k + j) * c = val os + 4294967296 ^ k * (xs.getD k 0 * val (ys.take j)) ∧ ∀ i, k + ys.length ≤ i → ts.getD i 0 = 0) (fun (j, ts, c) => [(0, v), (1, v'), (5, v14), (6, vI ↑k), (7, vU .u64 c), (8, vI ↑j)]) (fun (j, ts, c) => [.us 124 .u32 v14 ts]) (fun (j, ts, c) => h0) (fun (j, ts, c) => ys.length - j) (0, os, 0) ?_ ⟨rfl, rfl, rfl, rfl, rfl, rfl, trivial⟩ rfl rfl ?_
  ·
   exact ⟨Nat.zero_le _, hos, hfo, by omega, by simp [val], hz⟩
  intro x hx
  obtain ⟨j, ts, c⟩ := x
  obtain ⟨hj, hts, hft, hcb, htv, htz⟩ := hx
  show GC _ _ _ _ _ _ [(0, v), (1, v'), (5, v14), (6, vI ↑k), (7, vU .u64 c), (8, vI ↑j)] [.us 124 .u32 v14 ts] h0
  have hx1 := hv.get32 k
  have hx2 := hv'.get32 j
  have hx3 := uZ hft (k + j)
  have hxy : xs.getD k 0 * ys.getD j 0 ≤ 4294967295 * 4294967295 := Nat.mul_le_mul (by omega) (by omega)
  refine zC (zC (zA (mv rfl rfl (mv rfl rfl (gv (yA Tryz.underlying28 rfl hv') rfl (gv (zW rfl rfl) rfl (zD (zB ?_))))))))
  refine zO rfl (fun hc24 => ?_) (fun hc24 => ?_)
  ·
   refine zL (zB (zC (zS (zC ?_))))
   refine yI 22 _ [] [(0, .q), (1, .q), (2, .q), (3, .q), (4, .q), (5, .q), (6, .q), (7, .q), (8, .q), (9, .q), (10, .q), (11, .q), (12, .q), (13, .q), (14, .q), (15, .q), (16, .q), (17, .q), (18, .q), (19, .q), (20, .q), (21, .q)] xI (fun x hx => by cases hx) (by kernel_rfl) (fun x hx => by cases hx) (fun r hr => hr) (w_q rfl (fun h' L' hh hR => zG rfl) rfl (w_q rfl (fun h' L' hh hR => zG rfl) rfl (w_q rfl (fun h' L' hh hR => zG rfl) rfl (w_q rfl (fun h' L' hh hR => yO (k) Tryz.underlying28 Tryz.sizeOf124 rfl rfl (hv.mono hh) (by omega) (by omega)) rfl (w_q rfl (fun h' L' hh hR => yS Tryz.isAgg124 rfl (hv.mono hh) (by omega)) rfl (w_q rfl (fun h' L' hh hR => xE (k := .u32) (k' := .u64) (W := 18446744073709551616) Tryz.underlying124 Tryz.underlying122 rfl rfl rfl (by omega)) rfl (w_q rfl (fun h' L' hh hR => zG rfl) rfl (w_q rfl (fun h' L' hh hR => zG rfl) rfl (w_q rfl (fun h' L' hh hR => yO (j) Tryz.underlying28 Tryz.sizeOf124 rfl rfl (hv'.mono hh) (by omega) (by omega)) rfl (w_q rfl (fun h' L' hh hR => yS Tryz.isAgg124 rfl (hv'.mono hh) (by omega)) rfl (w_q rfl (fun h' L' hh hR => xE (k := .u32) (k' := .u64) (W := 18446744073709551616) Tryz.underlying124 Tryz.underlying122 rfl rfl rfl (by omega)) rfl (w_q rfl (fun h' L' hh hR => qV (k := .u64) (W := 18446744073709551616) rfl rfl rfl rfl (by omega)) rfl (w_q rfl (fun h' L' hh hR => zG rfl) rfl ?_)))))))))))))
   refine w_q rfl (fun h' L' hh hR => zG rfl) rfl (w_q rfl (fun h' L' hh hR => zG rfl) rfl (w_q rfl (fun h' L' hh hR => zQ rfl rfl (by omega) (by omega)) rfl (w_q rfl (fun h' L' hh hR => kB (hR _ (.head _)) (k + j) Tryz.underlying28 Tryz.sizeOf124 rfl rfl (by omega) (by omega)) rfl (w_q rfl (fun h' L' hh hR => gS (hR _ (.head _)) Tryz.isAgg124 rfl (by omega)) rfl (w_q rfl (fun h' L' hh hR => xE (k := .u32) (k' := .u64) (W := 18446744073709551616) Tryz.underlying124 Tryz.underlying122 rfl rfl rfl (by omega)) rfl (w_q rfl (fun h' L' hh hR => qW (k := .u64) (W := 18446744073709551616) rfl rfl rfl rfl (by omega)) rfl (w_q rfl (fun h' L' hh hR => qW (k := .u64) (W := 18446744073709551616) rfl rfl rfl rfl (by omega)) rfl (w_q rfl (fun h' L' hh hR => zY rfl) rfl (xB (zJ (e' := [(0, _), (1, _), (5, _), (6, _), (8, _), (7, _)]) ⟨rfl, rfl, rfl, rfl, rfl, rfl, trivial⟩ (zB (zC (zA ?_)))))))))))))
   refine mv rfl rfl (mv rfl rfl (mv rfl rfl (gv (zQ rfl rfl (by omega) (by omega)) rfl (mv rfl rfl (gv (vD (k := .u64) (k' := .u32) (W := 4294967296) Tryz.underlying122 Tryz.underlying124 rfl rfl rfl) rfl (gv (wJ (A := []) (k + j) Tryz.underlying28 Tryz.sizeOf124 rfl rfl (by omega) (by omega)) rfl (vJ Tryz.sizeOf124 rfl rfl (by omega) (zD (zB (zA (mv rfl rfl (gv (qB (k := .u64) (s := 32) (yk := .u64) rfl rfl rfl (by simp only [ub]; omega)) rfl (asg rfl rfl ?_)))))))))))))
   refine zD (yV (zB (zA (mv rfl rfl (gv (zQ (q := 1) rfl rfl (by omega) (by omega)) rfl (asg rfl rfl (zD ?_)))))))
   refine yQ (j + 1, ts.set (k + j) ((c + (xs.getD k 0 * ys.getD j 0 + ts.getD (k + j) 0)) % 4294967296), (c + (xs.getD k 0 * ys.getD j 0 + ts.getD (k + j) 0)) / 2 ^ 32) ?_ ?_ ⟨rfl, rfl, rfl, rfl, rfl, rfl, trivial⟩ rfl rfl
   ·
    refine ⟨by omega, by simp [hts], sU hft _ (by omega), by omega, ?_, fun i hi => ?_⟩
    · have h1 := sQ (xs := ts) (i := k + j) (by omega) ((c + (xs.getD k 0 * ys.getD j 0 + ts.getD (k + j) 0)) % 4294967296)
      have e := Nat.div_add_mod (c + (xs.getD k 0 * ys.getD j 0 + ts.getD (k + j) 0)) 4294967296
      have e2 : (2 : Nat) ^ 32 = 4294967296 := rfl
      rw [uB ys j (by omega), e2]
      have ep : (4294967296 : Nat) ^ (k + (j + 1)) = 4294967296 ^ k * 4294967296 ^ j * 4294967296 := by rw [← Nat.add_assoc, Nat.pow_succ, Nat.pow_add]
      rw [ep]
      rw [Nat.pow_add] at h1 htv
      generalize (c + (xs.getD k 0 * ys.getD j 0 + ts.getD (k + j) 0)) / 4294967296 = q at *
      generalize (c + (xs.getD k 0 * ys.getD j 0 + ts.getD (k + j) 0)) % 4294967296 = r at *
      grind
    · rw [qH (by omega)]; exact htz i hi
   dsimp only
   omega
  refine xQ (yE (yE (xO (zB (zA (mv rfl rfl (mv rfl rfl (mv rfl rfl (gv (yA Tryz.underlying28 rfl hv') rfl (gv (zQ rfl rfl (by omega) (by omega)) rfl (mv rfl rfl (gv (vD (k := .u64) (k' := .u32) (W := 4294967296) Tryz.underlying122 Tryz.underlying124 rfl rfl rfl) rfl (gv (wJ (A := []) (k + ys.length) Tryz.underlying28 Tryz.sizeOf124 rfl rfl (by omega) (by omega)) rfl ?_)))))))))))))
  refine vJ Tryz.sizeOf124 rfl rfl (by omega) (zD (yV (zJ (e' := [(0, _), (1, _), (5, _), (6, _)]) ⟨rfl, rfl, rfl, rfl, trivial⟩ (zB (zA (mv rfl rfl (gv (zQ (q := 1) rfl rfl (by omega) (by omega)) rfl (asg rfl rfl (zD ?_)))))))))
  refine yQ (k + 1, ts.set (k + ys.length) (c % 4294967296)) ?_ ?_ ⟨rfl, rfl, rfl, rfl, trivial⟩ rfl rfl
  ·
   have hj : j = ys.length := by omega
   subst hj
   refine ⟨by omega, by simp [hts], sU hft _ (by omega), ?_, fun i hi => ?_⟩
   · have h1 := sQ (xs := ts) (i := k + ys.length) (by omega) (c % 4294967296)
     rw [htz _ (Nat.le_refl _)] at h1
     rw [wQ (Nat.le_refl _)] at htv
     rw [Nat.mod_eq_of_lt hcb] at h1 ⊢
     rw [uB xs k (by omega)]
     grind
   · rw [qH (by omega)]; exact htz i (by omega)
  dsimp only
  omega
 refine xQ (yE (yE (xO (zB (zC (zA (mv rfl rfl (wC (by exact hfo) ?_))))))))
 intro h1 hh1 ho
 refine zM (vs := [_]) rfl rfl rfl rfl Tryz.call118 ⟨rfl, trivial⟩ (fun w hs => gA hs ho (by omega)) ?_
 intro v66 h2 hh2 hr66
 refine asg rfl rfl (zD (zJ (e' := [(4, _)]) ⟨rfl, trivial⟩ (zB (zR (yJ rfl rfl ?_)))))
 rw [hval, wQ (by omega)] at hr66
 exact hr66
theorem ref_times {w0 : World} {h0 : Mem}  (hs : MLe h0 (mem w0)) {v : Value} {X d : Nat} (hv : Us .u32 h0 v (zF X)) (hd : d < 4294967296) (hl : (zF X).length ≤ 1099511627776) :
    Calls Tryz.prog 143 #[v, vU .u32 d] w0 (Ret w0 h0 (fun h r => Us .u32 h r (zF (X * d)))) := by
 refine zP (n := 10) (e := [(0, v), (1, vU .u32 d)]) (vs := [v, vU .u32 d]) Tryz.func143 rfl rfl (Nat.le_of_ble_eq_true rfl) hs ⟨rfl, rfl, trivial⟩ (zC (zA (asg rfl rfl (zD (zB (zC (zA (mv rfl rfl (mv rfl rfl (gv (xE (k := .u32) (k' := .u64) (W := 18446744073709551616) Tryz.underlying124 Tryz.underlying122 rfl rfl rfl (by omega)) rfl ?_))))))))))
 refine zM (vs := [_]) rfl rfl rfl rfl Tryz.call116 ⟨rfl, trivial⟩ (fun w hs => bN hs (by omega)) ?_
 intro v8 h1 hh1 hr8
 have hdl := jR (n := d) (by omega)
 replace hv := hv.mono hh1
 refine zM (vs := [_, _]) rfl rfl rfl rfl Tryz.call90 ⟨rfl, rfl, trivial⟩ (fun w hs => tI hs hv hr8 (by omega) (by omega)) ?_
 intro v9 h2 hh2 hr9
 simp only [zV] at hr9
 refine asg rfl rfl (zD (zB (zR (yJ rfl rfl ?_))))
 exact hr9
end Go.Proofs.YtghhjjmjpeehdaaGreat
namespace Bk
set_option linter.unusedVariables false
set_option linter.unusedSimpArgs false
def mixA (ps os : List Nat) : List Nat := ps ++ os.drop ps.length
def digB (bs : List Nat) : Bool := bs.all fun b => decide (48 ≤ b) && decide (b ≤ 57)
def hor (bs : List Nat) : Nat := bs.foldl (fun a b => 10 * a + (b - 48)) 0
def perr (bs : List Nat) : Int := if 4096 < bs.length then 2 else if bs.length = 0 then 4 else if digB bs = true then 0 else 4
def pval (bs : List Nat) : Nat := if 4096 < bs.length then 0 else if digB bs = true then hor bs else 0
def shN (X : Nat) (n : Int) : Nat := if 16384 < n then 0 else if 0 ≤ n then X * 2 ^ n.toNat else X / 2 ^ (-n).toNat
def shE (n : Int) : Int := if 16384 < n then 2 else 0
theorem dS {X k : Nat} (h : 32 * (zF X).length ≤ k) : X / 2 ^ k = 0 := by
  refine Nat.div_eq_of_lt (Nat.lt_of_lt_of_le (uD X) ?_)
  rw [show (4294967296 : Nat) = 2 ^ 32 by decide, ← Nat.pow_mul]
  exact Nat.pow_le_pow_right (by decide) h
theorem eZ (X k s : Nat) : X / 4294967296 ^ k / 2 ^ s = X / 2 ^ (32 * k + s) := by
  rw [Nat.div_div_eq_div_mul, Nat.pow_add, Nat.pow_mul]
theorem eT (X k s : Nat) : 4294967296 ^ k * (X * 2 ^ s) = X * 2 ^ (32 * k + s) := by
  rw [Nat.pow_add, Nat.pow_mul]
  grind
theorem shrD_two {s : Nat} {xs : List Nat} {i : Nat} (hs : s ≤ 32) (h : i < xs.length) : (xs.getD i 0 + 4294967296 * xs.getD (i + 1) 0) / 2 ^ s % 4294967296 = pV s xs i := by
  have e : (4294967296 : Nat) = 2 ^ s * 2 ^ (32 - s) := by rw [← Nat.pow_add, show s + (32 - s) = 32 by omega]
  have hp : 0 < 2 ^ s := Nat.pow_pos (by omega)
  rw [pV, qU xs i h]
  by_cases h2 : i + 1 < xs.length
  · rw [qU xs (i + 1) h2]
    generalize xs.getD i 0 = a
    generalize xs.getD (i + 1) 0 = b
    generalize val (List.drop (i + 1 + 1) xs) = c
    have h4 : a + 4294967296 * (b + 4294967296 * c) = (a + 4294967296 * b) + 2 ^ s * (4294967296 * (2 ^ (32 - s) * c)) := by
      have : 4294967296 * (4294967296 * c) = 2 ^ s * (4294967296 * (2 ^ (32 - s) * c)) := by
        conv => lhs; lhs; rw [e]
        generalize 2 ^ s = u
        generalize 2 ^ (32 - s) = v
        generalize (4294967296 : Nat) = B
        grind
      omega
    rw [h4, Nat.add_mul_div_left _ _ hp, Nat.add_mul_mod_self_left]
  · rw [gN (xs := xs) (i := i + 1) (by omega), List.drop_of_length_le (by omega)]
    rfl
theorem shrD_take {s : Nat} {xs : List Nat} (hf : Fit xs) : val ((List.range xs.length).map (pV s xs)) = val xs / 2 ^ s := by
  rw [bG hf]
  exact Nat.mod_eq_of_lt (Nat.lt_of_le_of_lt (Nat.div_le_self _ _) (jT hf))
theorem j8 {X : Nat} (hX : X ≠ 0) (k : Nat) : List.replicate k 0 ++ zF X = zF (X * 4294967296 ^ k) := by
  have hv : val (List.replicate k 0 ++ zF X) = X * 4294967296 ^ k := by rw [sD, tH, List.length_replicate, zV, Nat.zero_add, Nat.mul_comm]
  have hf : Fit (List.replicate k 0 ++ zF X) := vZ (qT _) (vC _)
  rw [← hv, j9 hf]
  rw [hv, List.length_append, List.length_replicate]
  have hp := wL.2 hX
  have h1 := fC (n := X) (k := (zF X).length - 1) (by omega)
  have h2 : 4294967296 ^ (k + ((zF X).length - 1)) ≤ X * 4294967296 ^ k := by
    rw [Nat.pow_add, Nat.mul_comm]
    exact Nat.mul_le_mul_right _ h1
  have h3 := aW h2
  omega
theorem jW {t : Nat} (h0 : t ≠ 0) (h : t < 4294967296) : zF t = [t] := by
  rw [jO (by omega), Nat.mod_eq_of_lt h, Nat.div_eq_of_lt h, wK]
theorem limbs_last {Y : Nat} (h : 0 < (zF Y).length) : (zF Y).drop ((zF Y).length - 1) = zF ((zF Y).getD ((zF Y).length - 1) 0) := by
  rw [jW (gW h) (uZ (vC Y) _), kW _ _ (by omega), List.drop_of_length_le (by omega)]
theorem eW (X k : Nat) : (zF (X * 4294967296 ^ k)).length ≤ (zF X).length + k := by
  refine uN ?_
  rw [Nat.pow_add]
  exact Nat.mul_lt_mul_of_pos_right (uD X) (Nat.pow_pos (by decide))
theorem rdiv_est {V W P v1 v2 vr top u3 wr : Nat} (hV : V = (v1 * 4294967296 + v2) * P + vr) (hW : W = (top * 4294967296 + u3) * P + wr) (hu : u3 < 4294967296) (hw : wr < P) (h1 : 0 < v1) (hWV : W < 4294967296 * V) : W < (min (top / v1) 4294967295 + 1) * V := by
  by_cases h : top / v1 ≤ 4294967295
  · rw [Nat.min_eq_left h]; exact g1 hV hW hu hw h1
  · rw [Nat.min_eq_right (by omega)]; exact hWV
theorem lt_of_div {R k m V : Nat} (h : R / 4294967296 ^ k < m * V) : R < V * m * 4294967296 ^ k := by
  have := Nat.lt_mul_of_div_lt h (Nat.pow_pos (by decide))
  rw [Nat.mul_comm V m]
  exact this
theorem rdiv_low {R V k : Nat} (h : R < 4294967296 ^ (k + 1) * V) : R / 4294967296 ^ k < 4294967296 * V := by
  refine Nat.div_lt_of_lt_mul ?_
  rw [Nat.pow_succ, Nat.mul_assoc] at h
  exact h
theorem rq_step {B p R q d V U : Nat} (h : R + p * B * (q * V) = U) (hle : V * d * p ≤ R) : R - V * d * p + p * ((d + B * q) * V) = U := by
  obtain ⟨t, rfl⟩ : ∃ t, R = V * d * p + t := ⟨R - V * d * p, by omega⟩
  rw [Nat.add_sub_cancel_left]
  grind
theorem rq_lt {R V d p : Nat} (h : R < V * (d + 1) * p) (hle : V * d * p ≤ R) : R - V * d * p < p * V := by
  have : V * (d + 1) * p = V * d * p + p * V := by grind
  omega
theorem rq_back {V d p : Nat} (h : 1 ≤ d) : V * d * p - V * p = V * (d - 1) * p ∧ V * p ≤ V * d * p := by
  obtain ⟨e, rfl⟩ : ∃ e, d = e + 1 := ⟨d - 1, by omega⟩
  have : V * (e + 1) * p = V * e * p + V * p := by grind
  rw [Nat.add_sub_cancel]
  omega
theorem s5 {U V r n : Nat} (hU : U < 4294967296 ^ r) (hV : 4294967296 ^ (n - 1) ≤ V) (hn : 1 ≤ n) (hr : n ≤ r) : U < 4294967296 ^ (r - n + 1) * V := by
  refine Nat.lt_of_lt_of_le hU ?_
  have h1 : (4294967296 : Nat) ^ r = 4294967296 ^ (r - n + 1) * 4294967296 ^ (n - 1) := by rw [← Nat.pow_add, show r - n + 1 + (n - 1) = r by omega]
  rw [h1]
  exact Nat.mul_le_mul_left _ hV
end Bk
namespace Go.Proofs.YtghhjjmjpeehdaaGreat
open Bk Go
set_option linter.unusedVariables false
set_option linter.unusedSimpArgs false
set_option maxRecDepth 10000
end Go.Proofs.YtghhjjmjpeehdaaGreat
namespace Go.Proofs.YtghhjjmjpeehdaaGreat
open Bk Go
set_option linter.unusedVariables false
set_option linter.unusedSimpArgs false
set_option maxRecDepth 10000
theorem s3 {w0 : World} {h0 : Mem}  (hs : MLe h0 (mem w0)) {v : Value} {xs : List Nat} {b : Nat} (hv : Us .u32 h0 v xs) (hb : 0 < b) (hb' : b < 4294967296) (hl : xs.length ≤ 1099511627776) :
    Calls Tryz.prog 139 #[v, vU .u32 b] w0 (Ret w0 h0 (fun h r => ∃ u, r = .tuple #[u, vU .u32 (val xs % b)] ∧ Us .u32 h u (zF (val xs / b)))) := by
 have hf : Fit xs := hv.lt
 refine zP (n := 43) (e := [(0, v), (1, vU .u32 b)]) (vs := [v, vU .u32 b]) Tryz.func139 rfl rfl (Nat.le_of_ble_eq_true rfl) hs ⟨rfl, rfl, trivial⟩ (zC (zA (asg rfl rfl (asg (v := vU .u32 0) rfl rfl (zD (zB (zC (zA (mv rfl rfl (gv (yA Tryz.underlying28 rfl hv) rfl (qG (kd := .u32) (by' := 4) _ Tryz.underlying28 uA rfl rfl rfl rfl rfl rfl rfl (by omega) (by omega) rfl ?_)))))))))))
 intro v11
 refine asg rfl rfl (zD (zB (zC (zA (asg (v := vU .u64 0) rfl rfl (zD (zB (zC (zC (zA (mv rfl rfl (gv (yA Tryz.underlying28 rfl hv) rfl (gv (xT (q := 1) rfl rfl (by omega) (by omega)) rfl ?_)))))))))))))
 refine asg rfl rfl (zD (zB (zS ?_)))
 refine wR (ι := Nat × List Nat × Nat) (fun (j, qs, r) => j ≤ xs.length ∧ qs.length = xs.length - j ∧ Fit qs ∧ r < b ∧ val (xs.drop j) = b * val qs + r) (fun (j, qs, r) => [(0, v), (1, vU .u32 b), (6, v11), (7, vU .u64 r), (8, vI (↑j - 1))]) (fun (j, qs, r) => [.us 124 .u32 v11 (uW j qs)]) (fun (j, qs, r) => h0) (fun (j, qs, r) => j) (xs.length, [], 0) ?_ ⟨rfl, rfl, rfl, rfl, rfl, trivial⟩ ?_ rfl ?_
 ·
  exact ⟨Nat.le_refl _, by simp, fun x hx => by simp at hx, hb, by rw [List.drop_of_length_le (Nat.le_refl _)]; rfl⟩
 ·
  try dsimp only [List.nil_append, List.cons_append]
  exact congrArg (fun z => [Res.us 124 .u32 v11 z]) (pC _)
 intro x hx
 obtain ⟨j, qs, r⟩ := x
 obtain ⟨hj, hql, hfq, hr, hval⟩ := hx
 show GC _ _ _ _ _ _ [(0, v), (1, vU .u32 b), (6, v11), (7, vU .u64 r), (8, vI (↑j - 1))] [.us 124 .u32 v11 (uW j qs)] h0
 refine zC (zC (zA (mv rfl rfl (gv (qL (q := 0) rfl rfl) rfl (zD (zB ?_))))))
 refine zO rfl (fun hc16 => ?_) (fun hc16 => ?_)
 ·
  refine zL (zB (zC (zS (zC (zA (mv rfl rfl (gv (kH (k := .u64) (s := 32) (yk := .u64) (W := 18446744073709551616) rfl rfl rfl rfl) rfl (mv rfl rfl (mv rfl rfl (gv (yO (j - 1) Tryz.underlying28 Tryz.sizeOf124 rfl rfl hv (by omega) (by omega)) rfl (gv (yS Tryz.isAgg124 rfl hv (by omega)) rfl ?_)))))))))))
  have hx1 := hv.get32 (j - 1)
  refine gv (xE (k := .u32) (k' := .u64) (W := 18446744073709551616) Tryz.underlying124 Tryz.underlying122 rfl rfl rfl (by omega)) rfl (gv (fP (k := .u64) rfl rfl rfl (by simp only [ub]; omega) (by simp only [ub]; omega)) rfl ?_)
  rw [fZ (by omega) hx1]
  generalize ht : r * 4294967296 + xs.getD (j - 1) 0 = t at *
  have hq : t / b < 4294967296 := Nat.div_lt_of_lt_mul (by rw [← ht]; have h1 : (r + 1) * 4294967296 ≤ b * 4294967296 := Nat.mul_le_mul_right _ hr; omega)
  refine asg rfl rfl (zD (zJ (e' := [(0, _), (1, _), (6, _), (8, _), (7, _)]) ⟨rfl, rfl, rfl, rfl, rfl, trivial⟩ (zB (zC (zA (mv rfl rfl (mv rfl rfl (mv rfl rfl (mv rfl rfl (gv (xE (k := .u32) (k' := .u64) (W := 18446744073709551616) Tryz.underlying124 Tryz.underlying122 rfl rfl rfl (by omega)) rfl (gv (sH (k := .u64) (W := 18446744073709551616) rfl rfl rfl rfl (by omega) (by omega)) rfl (gv (xE (k := .u64) (k' := .u32) (W := 4294967296) Tryz.underlying122 Tryz.underlying124 rfl rfl rfl (by omega)) rfl (gv (wJ (A := []) (j - 1) Tryz.underlying28 Tryz.sizeOf124 rfl rfl (by omega) (by rw [jM]; omega)) rfl ?_)))))))))))))
  refine vJ Tryz.sizeOf124 rfl rfl (by rw [jM]; omega) (zD (zB (zA (mv rfl rfl (mv rfl rfl (gv (xE (k := .u32) (k' := .u64) (W := 18446744073709551616) Tryz.underlying124 Tryz.underlying122 rfl rfl rfl (by omega)) rfl (gv (sG (k := .u64) rfl rfl (by omega)) rfl (asg rfl rfl (zD (yV (zJ (e' := [(0, _), (1, _), (6, _), (8, _), (7, _)]) ⟨rfl, rfl, rfl, rfl, rfl, trivial⟩ (zB (zA ?_)))))))))))))
  refine mv rfl rfl (gv (xT (q := 1) rfl rfl (by omega) (by omega)) rfl (asg rfl rfl (zD ?_)))
  refine yQ (j - 1, t / b :: qs, t % b) ?_ ?_ ⟨rfl, rfl, rfl, rfl, ?_, trivial⟩ ?_ rfl
  ·
   refine ⟨by omega, by simp only [List.length_cons]; omega, fL.2 ⟨hq, hfq⟩, Nat.mod_lt _ hb, ?_⟩
   rw [qU xs (j - 1) (by omega), show j - 1 + 1 = j by omega, val]
   exact mM hval ht.symm rfl rfl
  ·
   dsimp only
   omega
  · exact congrArg some (congrArg vI (by omega))
  try dsimp only [List.nil_append, List.cons_append]
  rw [pB (by omega)]
 refine xQ (yE (yE (xO (zB (zC (zA (mv rfl rfl ?_)))))))
 have hj0 : j = 0 := by omega
 subst hj0
 rw [sV]
 refine wC (by exact hfq) ?_
 intro h1 hh1 ho
 refine zM (vs := [_]) rfl rfl rfl rfl Tryz.call118 ⟨rfl, trivial⟩ (fun w hs => gA hs ho (by omega)) ?_
 intro v40 h2 hh2 hr40
 refine mv rfl rfl (gv (xE (k := .u64) (k' := .u32) (W := 4294967296) Tryz.underlying122 Tryz.underlying124 rfl rfl rfl (by omega)) rfl (asg rfl rfl (asg rfl rfl (zD (zJ (e' := [(4, _), (5, _)]) ⟨rfl, rfl, trivial⟩ (zB (zR (vG rfl rfl rfl ?_))))))))
 simp only [List.drop_zero] at hval
 have e1 : val xs / b = val qs := by rw [hval, Nat.mul_add_div hb, Nat.div_eq_of_lt hr]; omega
 have e2 : val xs % b = r := by rw [hval, Nat.mul_add_mod, Nat.mod_eq_of_lt hr]
 rw [e1, e2]
 exact ⟨_, rfl, hr40⟩
end Go.Proofs.YtghhjjmjpeehdaaGreat
namespace Go.Proofs.YtghhjjmjpeehdaaGreat
open Bk Go
set_option linter.unusedVariables false
set_option linter.unusedSimpArgs false
set_option maxRecDepth 10000
theorem ref_up {w0 : World} {h0 : Mem}  (hs : MLe h0 (mem w0)) {v : Value} {X n : Nat} (hv : Us .u32 h0 v (zF X)) (hn : n ≤ 16384) (hl : (zF X).length ≤ 1099511627776) :
    Calls Tryz.prog 141 #[v, vI ↑n] w0 (Ret w0 h0 (fun h r => Us .u32 h r (zF (X * 2 ^ n)))) := by
 obtain ⟨s, hsd⟩ : ∃ s, s = n % 32 := ⟨_, rfl⟩
 have hp : 2 ^ s ≤ 2147483648 := Nat.pow_le_pow_right (n := 2) (by omega) (show s ≤ 31 by omega)
 have hp0 : 0 < 2 ^ s := Nat.pow_pos (by omega)
 refine zP (n := 40) (e := [(0, v), (1, vI ↑n)]) (vs := [v, vI ↑n]) Tryz.func141 rfl rfl (Nat.le_of_ble_eq_true rfl) hs ⟨rfl, rfl, trivial⟩ (zC (zA (asg rfl rfl (zD (zB (zC (zA (mv rfl rfl (gv (mU (q := 32) rfl rfl (by omega) (by omega) (by omega)) rfl (qG (kd := .u32) (by' := 4) (n / 32) Tryz.underlying28 uA rfl rfl rfl rfl rfl (by omega) (by omega) (by omega) (by omega) rfl ?_))))))))))
 intro v10
 refine asg rfl rfl (zD (zB (zC (zA (asg (v := vU .u64 0) rfl rfl (zD (zB (zC (zC (zA (asg (v := vI (0)) rfl rfl (zD (zB ?_)))))))))))))
 refine zS ?_
 refine wR (ι := Value × List Nat × Nat × Mem) (fun (vo, ss, c, k1) => MLe h0 k1 ∧ (ss.length ≤ (zF X).length ∧ Fit ss ∧ c < 2 ^ s ∧ val ss + 4294967296 ^ ss.length * c = val ((zF X).take ss.length) * 2 ^ s)) (fun (vo, ss, c, k1) => [(0, v), (1, vI ↑n), (5, vo), (6, vU .u64 c), (7, vI ↑ss.length)]) (fun (vo, ss, c, k1) => [.us 124 .u32 vo (List.replicate (n / 32) 0 ++ ss)]) (fun (vo, ss, c, k1) => k1) (fun (vo, ss, c, k1) => (zF X).length - ss.length) (v10, [], 0, h0) ?_ ⟨rfl, rfl, rfl, rfl, rfl, trivial⟩ ?_ rfl ?_
 ·
  refine ⟨MLe.refl _, ?_⟩
  exact ⟨by simp, fun x hx => by simp at hx, hp0, by simp [val]⟩
 ·
  try dsimp only [List.nil_append, List.cons_append]
  rw [List.append_nil]
 intro x hx
 obtain ⟨vo, ss, c, k1⟩ := x
 obtain ⟨hmk1, ⟨hss, hfs, hc, hval⟩⟩ := hx
 show GC _ _ _ _ _ _ [(0, v), (1, vI ↑n), (5, vo), (6, vU .u64 c), (7, vI ↑ss.length)] [.us 124 .u32 vo (List.replicate (n / 32) 0 ++ ss)] k1
 refine zC (zC (zA (mv rfl rfl (mv rfl rfl ?_))))
 replace hv := hv.mono hmk1
 refine gv (yA Tryz.underlying28 rfl hv) rfl (gv (zW rfl rfl) rfl (zD (zB ?_)))
 refine zO rfl (fun hc14 => ?_) (fun hc14 => ?_)
 ·
  refine zL (zB (zC (zS (zC (zA (mv rfl rfl (mv rfl rfl (mv rfl rfl (gv (yO (ss.length) Tryz.underlying28 Tryz.sizeOf124 rfl rfl hv (by omega) (by omega)) rfl (gv (yS Tryz.isAgg124 rfl hv (by omega)) rfl ?_))))))))))
  have hx1 := hv.get32 ss.length
  have hxs : (zF X).getD ss.length 0 * 2 ^ s < 18446744073709551616 - 4294967296 := by
    have := Nat.mul_le_mul (show (zF X).getD ss.length 0 ≤ 4294967295 by omega) hp
    omega
  refine gv (xE (k := .u32) (k' := .u64) (W := 18446744073709551616) Tryz.underlying124 Tryz.underlying122 rfl rfl rfl (by omega)) rfl (mv rfl rfl (gv (qC (q := 32) rfl rfl (by omega) (by omega)) rfl ?_))
  rw [show (↑n : Int) % 32 = ↑s by omega]
  refine gv (kH (k := .u64) (s := s) (yk := .i64) (W := 18446744073709551616) rfl rfl rfl rfl) rfl ?_
  rw [Nat.mod_eq_of_lt (by omega)]
  refine gv (fP (k := .u64) rfl rfl rfl (by simp only [ub]; omega) (by simp only [ub]; omega)) rfl ?_
  rw [or_low hc]
  refine asg rfl rfl (zD (zJ (e' := [(0, _), (1, _), (5, _), (7, _), (6, _)]) ⟨rfl, rfl, rfl, rfl, rfl, trivial⟩ (zB (zC (zA (mv rfl rfl (mv rfl rfl (gv (vD (k := .u64) (k' := .u32) (W := 4294967296) Tryz.underlying122 Tryz.underlying124 rfl rfl rfl) rfl (zK (tE (kd := .u32) Tryz.underlying28 uA rfl rfl rfl) rfl rfl rfl ?_)))))))))
  intro v30 r30 hr30
  obtain rfl := hr30
  refine wC (by intro z hz; simp only [List.mem_singleton] at hz; subst hz; simp only [ub]; omega) ?_
  intro h1 hh1 hch
  refine qN (A := []) (gB (kd := .u32) (bytes := 4) Tryz.underlying28 uA rfl rfl rfl rfl rfl hch (by simp only [List.length_singleton, List.length_append, List.length_replicate]; omega) (by simp only [List.length_singleton, List.length_append, List.length_replicate]; omega)) rfl rfl rfl ?_
  intro v31 r31 hr31
  obtain rfl := hr31
  refine asg rfl rfl (zD (zB (zA (mv rfl rfl (gv (qB (k := .u64) (s := 32) (yk := .u64) rfl rfl rfl (by simp only [ub]; omega)) rfl (asg rfl rfl (zD (yV (zB (zA (mv rfl rfl (gv (zQ (q := 1) rfl rfl (by omega) (by omega)) rfl (asg rfl rfl ?_)))))))))))))
  refine zD ?_
  refine yQ (v31, ss ++ [((zF X).getD ss.length 0 * 2 ^ s + c) % 4294967296], ((zF X).getD ss.length 0 * 2 ^ s + c) / 2 ^ 32, h1) ?_ ?_ ⟨rfl, rfl, rfl, rfl, ?_, trivial⟩ ?_ rfl
  ·
   refine ⟨(hmk1.trans hh1), ?_⟩
   refine ⟨by simp; omega, vZ hfs (tW (by omega)), ?_, ?_⟩
   · refine Nat.div_lt_of_lt_mul ?_
     have := Nat.mul_le_mul_right (2 ^ s) (show (zF X).getD ss.length 0 + 1 ≤ 2 ^ 32 by omega)
     rw [Nat.add_mul] at this
     omega
   · have e := Nat.div_add_mod ((zF X).getD ss.length 0 * 2 ^ s + c) 4294967296
     have e2 : (2 : Nat) ^ 32 = 4294967296 := rfl
     rw [List.length_append, List.length_singleton, uB (zF X) _ (by omega), fH, Nat.pow_succ, e2]
     generalize ((zF X).getD ss.length 0 * 2 ^ s + c) / 4294967296 = q at *
     generalize ((zF X).getD ss.length 0 * 2 ^ s + c) % 4294967296 = r at *
     grind
  ·
   dsimp only
   simp; omega
  · exact congrArg some (congrArg vI (by simp))
  try dsimp only [List.nil_append, List.cons_append]
  rw [List.append_assoc]
 refine xQ (yE (yE (xO (zB (zC (zA (mv rfl rfl (mv rfl rfl (gv (vD (k := .u64) (k' := .u32) (W := 4294967296) Tryz.underlying122 Tryz.underlying124 rfl rfl rfl) rfl (zK (tE (kd := .u32) Tryz.underlying28 uA rfl rfl rfl) rfl rfl rfl ?_))))))))))
 intro v37 r37 hr37
 obtain rfl := hr37
 refine wC (by intro z hz; simp only [List.mem_singleton] at hz; subst hz; simp only [ub]; omega) ?_
 intro h1 hh1 hch2
 refine qN (A := []) (gB (kd := .u32) (bytes := 4) Tryz.underlying28 uA rfl rfl rfl rfl rfl hch2 (by simp only [List.length_singleton, List.length_append, List.length_replicate]; omega) (by simp only [List.length_singleton, List.length_append, List.length_replicate]; omega)) rfl rfl rfl ?_
 intro v38 r38 hr38
 obtain rfl := hr38
 refine wC (by exact vZ (vZ (qT _) hfs) (tW (by omega))) ?_
 intro h2 hh2 ho
 refine zM (vs := [_]) rfl rfl rfl rfl Tryz.call118 ⟨rfl, trivial⟩ (fun w hs => gA hs ho (by simp; omega)) ?_
 intro v39 h3 hh3 hr39
 refine asg rfl rfl (zD (zJ (e' := [(4, _)]) ⟨rfl, trivial⟩ (zB (zR (yJ rfl rfl ?_)))))
 have hk : ss.length = (zF X).length := by omega
 rw [wQ (by omega), zV] at hval
 rw [Nat.mod_eq_of_lt (by omega), List.append_assoc, sD, tH, List.length_replicate, fH, hval, eT, Nat.zero_add, show 32 * (n / 32) + s = n by omega] at hr39
 exact hr39
theorem ref_down {w0 : World} {h0 : Mem}  (hs : MLe h0 (mem w0)) {v : Value} {X n : Nat} (hv : Us .u32 h0 v (zF X)) (hn : n < 9223372036854775808) (hl : (zF X).length ≤ 1099511627776) :
    Calls Tryz.prog 144 #[v, vI ↑n] w0 (Ret w0 h0 (fun h r => Us .u32 h r (zF (X / 2 ^ n)))) := by
 obtain ⟨s, hsd⟩ : ∃ s, s = n % 32 := ⟨_, rfl⟩
 refine zP (n := 55) (e := [(0, v), (1, vI ↑n)]) (vs := [v, vI ↑n]) Tryz.func144 rfl rfl (Nat.le_of_ble_eq_true rfl) hs ⟨rfl, rfl, trivial⟩ (zC (zA (asg rfl rfl (zD (zB (zC (zC (zA (mv rfl rfl (gv (mU (q := 32) rfl rfl (by omega) (by omega) (by omega)) rfl (mv rfl rfl (gv (yA Tryz.underlying28 rfl hv) rfl (gv (qL rfl rfl) rfl ?_)))))))))))))
 refine zD (zB ?_)
 refine zO rfl (fun hc12 => ?_) (fun hc12 => ?_)
 ·
  refine zC (zA (asg rfl rfl (zD (zB (zR (zX (yJ rfl rfl ?_)))))))
  rw [show X / 2 ^ n = 0 from dS (by omega), wK]
  exact Us.nil _ _
 refine zL (zB (zC (zA (mv rfl rfl (mv rfl rfl (gv (mU (q := 32) rfl rfl (by omega) (by omega) (by omega)) rfl ?_))))))
 rw [show (↑n : Int) / 32 = ↑(n / 32) by omega]
 refine gv (bO (n / 32) Tryz.underlying28 Tryz.sizeOf124 rfl rfl hv.shape (by omega) (by omega)) rfl ?_
 have hsl16 := hv.sub (lo := n / 32) (hi := (zF X).length) (by omega) (by omega)
 rw [List.take_of_length_le (by rw [List.length_drop]; omega)] at hsl16
 have hdl : (List.drop (n / 32) (zF X)).length = (zF X).length - n / 32 := List.length_drop
 refine asg rfl rfl ?_
 have hRf : Fit (List.drop (n / 32) (zF X)) := cO (vC _) _
 have hRv := jH (vC X) (n / 32)
 rw [zV] at hRv
 obtain ⟨vR, hvR⟩ : ∃ z, z = gG 1 v (n / 32) (zF X).length := ⟨_, rfl⟩
 rw [← hvR] at hsl16 ⊢
 generalize List.drop (n / 32) (zF X) = Rs at *
 refine zD (zJ (e' := [(1, _), (0, _)]) ⟨rfl, rfl, trivial⟩ (zB (zC (zA (mv rfl rfl (gv (yA Tryz.underlying28 rfl hsl16) rfl (qG (kd := .u32) (by' := 4) (Rs.length) Tryz.underlying28 uA rfl rfl rfl rfl rfl (by omega) (by omega) (by omega) (by omega) rfl ?_)))))))
 intro v19
 refine asg rfl rfl (zD (zB (zC (zC (zA (asg (v := vI (0)) rfl rfl (zD (zB (zS ?_)))))))))
 refine wR (ι := List Nat) (fun (ss : (List Nat)) => ss.length ≤ Rs.length ∧ ss = (List.range ss.length).map (pV s Rs)) (fun (ss : (List Nat)) => [(0, vR), (1, vI ↑n), (5, v19), (6, vI ↑ss.length)]) (fun (ss : (List Nat)) => [.us 124 .u32 v19 (qK ss Rs.length)]) (fun (ss : (List Nat)) => h0) (fun (ss : (List Nat)) => Rs.length - ss.length) [] ?_ ⟨rfl, rfl, rfl, rfl, trivial⟩ rfl rfl ?_
 ·
  exact ⟨by simp, rfl⟩
 intro ss hx
 obtain ⟨hss, hsv⟩ := hx
 show GC _ _ _ _ _ _ [(0, vR), (1, vI ↑n), (5, v19), (6, vI ↑ss.length)] [.us 124 .u32 v19 (qK ss Rs.length)] h0
 refine zC (zC (zA (mv rfl rfl (mv rfl rfl (gv (yA Tryz.underlying28 rfl hsl16) rfl (gv (zW rfl rfl) rfl (zD (zB ?_))))))))
 refine zO rfl (fun hc23 => ?_) (fun hc23 => ?_)
 ·
  refine zL (zB (zC (zS (zC (zA (mv rfl rfl (mv rfl rfl (gv (yO (ss.length) Tryz.underlying28 Tryz.sizeOf124 rfl rfl hsl16 (by omega) (by omega)) rfl (gv (yS Tryz.isAgg124 rfl hsl16 (by omega)) rfl ?_)))))))))
  have hg1 := uZ hRf ss.length
  have hg2 := uZ hRf (ss.length + 1)
  refine gv (xE (k := .u32) (k' := .u64) (W := 18446744073709551616) Tryz.underlying124 Tryz.underlying122 rfl rfl rfl (by omega)) rfl (asg rfl rfl (zD (zB ?_)))
  refine kV (ι := Unit) (fun (_u : (Unit)) => True) (fun (_u : (Unit)) => [(0, vR), (1, vI ↑n), (5, v19), (6, vI ↑ss.length), (7, vU .u64 (Rs.getD ss.length 0 + 4294967296 * Rs.getD (ss.length + 1) 0))]) (fun (_u : (Unit)) => [.us 124 .u32 v19 (qK ss Rs.length)]) (fun (_u : (Unit)) => h0) ?_ ?_
  ·
   refine zC (zA (mv rfl rfl (gv (zQ (q := 1) rfl rfl (by omega) (by omega)) rfl (mv rfl rfl (gv (yA Tryz.underlying28 rfl hsl16) rfl (gv (zW rfl rfl) rfl (zD (zJ (e' := [(0, _), (1, _), (5, _), (6, _), (7, _), (35, _)]) ⟨rfl, rfl, rfl, rfl, rfl, rfl, trivial⟩ (zB ?_)))))))))
   refine zO rfl (fun hc35 => ?_) (fun hc35 => ?_)
   ·
    refine zA (mv rfl rfl (mv rfl rfl (mv rfl rfl (gv (zQ (q := 1) rfl rfl (by omega) (by omega)) rfl (gv (yO (ss.length + 1) Tryz.underlying28 Tryz.sizeOf124 rfl rfl hsl16 (by omega) (by omega)) rfl (gv (yS Tryz.isAgg124 rfl hsl16 (by omega)) rfl (gv (xE (k := .u32) (k' := .u64) (W := 18446744073709551616) Tryz.underlying124 Tryz.underlying122 rfl rfl rfl (by omega)) rfl (gv (kH (k := .u64) (s := 32) (yk := .u64) (W := 18446744073709551616) rfl rfl rfl rfl) rfl (gv (fP (k := .u64) rfl rfl rfl (by simp only [ub]; omega) (by simp only [ub]; omega)) rfl ?_)))))))))
    rw [Nat.or_comm, fZ (by omega) (by omega)]
    refine asg rfl rfl (zD ?_)
    refine yN (()) ?_ ⟨rfl, rfl, rfl, rfl, ?_, trivial⟩ rfl rfl
    ·
     trivial
    · exact congrArg some (congrArg (vU .u64) (by omega))
   refine zL ?_
   refine yN (()) ?_ ⟨rfl, rfl, rfl, rfl, ?_, trivial⟩ rfl rfl
   ·
    trivial
   · exact congrArg some (congrArg (vU .u64) (by rw [gN (xs := Rs) (i := ss.length + 1) (by omega)]; omega))
  intro _u hx
  obtain hcut := hx
  show GC _ _ _ _ _ _ [(0, vR), (1, vI ↑n), (5, v19), (6, vI ↑ss.length), (7, vU .u64 (Rs.getD ss.length 0 + 4294967296 * Rs.getD (ss.length + 1) 0))] [.us 124 .u32 v19 (qK ss Rs.length)] h0
  refine zA (mv rfl rfl (mv rfl rfl (mv rfl rfl (mv rfl rfl (gv (qC (q := 32) rfl rfl (by omega) (by omega)) rfl ?_)))))
  rw [show (↑n : Int) % 32 = ↑s by omega]
  refine gv (qB (k := .u64) (s := s) (yk := .i64) rfl rfl rfl (by simp only [ub]; omega)) rfl (gv (vD (k := .u64) (k' := .u32) (W := 4294967296) Tryz.underlying122 Tryz.underlying124 rfl rfl rfl) rfl ?_)
  rw [shrD_two (by omega) (by omega)]
  refine gv (wJ (A := []) (ss.length) Tryz.underlying28 Tryz.sizeOf124 rfl rfl (by omega) (by rw [vW (by omega)]; omega)) rfl (vJ Tryz.sizeOf124 rfl rfl (by rw [vW (by omega)]; omega) (zD (yV (zB (zA (mv rfl rfl (gv (zQ (q := 1) rfl rfl (by omega) (by omega)) rfl (asg rfl rfl (zD ?_)))))))))
  refine yQ (ss ++ [pV s Rs ss.length]) ?_ ?_ ⟨rfl, rfl, rfl, ?_, trivial⟩ ?_ rfl
  ·
   refine ⟨by simp; omega, ?_⟩
   rw [List.length_append, List.length_singleton, List.range_succ, List.map_append, List.map_singleton, ← hsv]
  ·
   simp; omega
  · exact congrArg some (congrArg vI (by simp))
  try dsimp only [List.nil_append, List.cons_append]
  rw [fS (by omega)]
 refine xQ (yE (yE (xO (zB (zC (zA (mv rfl rfl ?_)))))))
 have hk : ss.length = Rs.length := by omega
 rw [tN hk]
 refine wC (by rw [hsv]; intro z hz; obtain ⟨w, _, rfl⟩ := List.mem_map.1 hz; exact shrD_lt s Rs w) ?_
 intro h1 hh1 ho
 refine zM (vs := [_]) rfl rfl rfl rfl Tryz.call118 ⟨rfl, trivial⟩ (fun w hs => gA hs ho (by omega)) ?_
 intro v54 h2 hh2 hr54
 refine asg rfl rfl (zD (zJ (e' := [(4, _)]) ⟨rfl, trivial⟩ (zB (zR (yJ rfl rfl ?_)))))
 rw [hsv, hk, shrD_take hRf, hRv, eZ, show 32 * (n / 32) + s = n by omega] at hr54
 exact hr54
end Go.Proofs.YtghhjjmjpeehdaaGreat
namespace Go.Proofs.YtghhjjmjpeehdaaGreat
open Bk Go
set_option linter.unusedVariables false
set_option linter.unusedSimpArgs false
set_option maxRecDepth 10000
theorem cW {w0 : World} {h0 : Mem}  (hs : MLe h0 (mem w0)) {v : Value} {X : Nat} (hv : Us .u32 h0 v (zF X)) :
    Calls Tryz.prog 138 #[v] w0 (Ret w0 h0 (fun _ r => r = .tuple #[vU .u64 (if (zF X).length ≤ 2 then X else 0), vB ((zF X).length ≤ 2)])) := by
 have hx0 := hv.get32 0
 have hx1 := hv.get32 1
 have hvl := zV X
 have hlen := hv.lt63
 refine zP (n := 26) (e := [(0, v)]) (vs := [v]) Tryz.func138 rfl rfl (Nat.le_of_ble_eq_true rfl) hs ⟨rfl, trivial⟩ (zC (zA (asg (v := vU .u64 0) rfl rfl (asg rfl rfl (zD (zB (zC (zC (zA (mv rfl rfl (gv (yA Tryz.underlying28 rfl hv) rfl (zD (zB ?_)))))))))))))
 refine zS (zC (zA (gv (xZ (q := 0) rfl rfl) rfl (asg rfl rfl (zD (zB ?_))))))
 refine zO rfl (fun hc6 => ?_) (fun hc6 => ?_)
 ·
  refine zC (zA (asg (v := vU .u64 0) rfl rfl (asg rfl rfl (zD (zB (zR (wY (zX (vG rfl rfl rfl ?_)))))))))
  have h0 : X = 0 := Classical.byContradiction fun hne => by have := wL.2 hne; omega
  rw [xS (by omega), if_pos (by omega), h0]
 refine zC (zA (gv (xZ (q := 1) rfl rfl) rfl (asg rfl rfl (zD (zB ?_)))))
 refine zO rfl (fun hc8 => ?_) (fun hc8 => ?_)
 ·
  have hvo := bV (xs := zF X) (by omega)
  refine zC (zA (mv rfl rfl (gv (yO (q := 0) (0) Tryz.underlying28 Tryz.sizeOf124 rfl rfl hv rfl (by omega)) rfl (gv (yS Tryz.isAgg124 rfl hv (by omega)) rfl (gv (xE (k := .u32) (k' := .u64) (W := 18446744073709551616) Tryz.underlying124 Tryz.underlying122 rfl rfl rfl (by omega)) rfl (asg rfl rfl (asg rfl rfl (zD (zJ (e' := [(2, _), (3, _)]) ⟨rfl, rfl, trivial⟩ (zB (zR (wY (zX ?_)))))))))))))
  refine vG rfl rfl rfl ?_
  rw [xS (by omega), if_pos (by omega), ← hvo, zV]
 refine zC (zA (gv (xZ (q := 2) rfl rfl) rfl (asg rfl rfl (zD (zB ?_)))))
 refine zO rfl (fun hc14 => ?_) (fun hc14 => ?_)
 ·
  refine wH (e' := [(0, _)]) ⟨rfl, trivial⟩ (zC ?_)
  refine yI 12 _ [] [(0, .q), (1, .q), (2, .q), (3, .q), (4, .q), (5, .q), (6, .q), (7, .q), (8, .q), (9, .q), (10, .q), (11, .q)] xI (fun x hx => by cases hx) (by kernel_rfl) (fun x hx => by cases hx) (fun r hr => hr) (w_q rfl (fun h' L' hh hR => zG rfl) rfl (w_q rfl (fun h' L' hh hR => yO (q := 0) (0) Tryz.underlying28 Tryz.sizeOf124 rfl rfl (hv.mono hh) rfl (by omega)) rfl (w_q rfl (fun h' L' hh hR => yS Tryz.isAgg124 rfl (hv.mono hh) (by omega)) rfl (w_q rfl (fun h' L' hh hR => xE (k := .u32) (k' := .u64) (W := 18446744073709551616) Tryz.underlying124 Tryz.underlying122 rfl rfl rfl (by omega)) rfl (w_q rfl (fun h' L' hh hR => zG rfl) rfl (w_q rfl (fun h' L' hh hR => yO (q := 1) (1) Tryz.underlying28 Tryz.sizeOf124 rfl rfl (hv.mono hh) rfl (by omega)) rfl (w_q rfl (fun h' L' hh hR => yS Tryz.isAgg124 rfl (hv.mono hh) (by omega)) rfl (w_q rfl (fun h' L' hh hR => xE (k := .u32) (k' := .u64) (W := 18446744073709551616) Tryz.underlying124 Tryz.underlying122 rfl rfl rfl (by omega)) rfl (w_q rfl (fun h' L' hh hR => kH (k := .u64) (s := 32) (yk := .u64) (W := 18446744073709551616) rfl rfl rfl rfl) rfl (w_q rfl (fun h' L' hh hR => fP (k := .u64) rfl rfl rfl (by simp only [ub]; omega) (by simp only [ub]; omega)) rfl ?_))))))))))
  rw [Nat.or_comm, fZ (by omega) (by omega)]
  refine w_q rfl (fun h' L' hh hR => zY rfl) rfl (w_q rfl (fun h' L' hh hR => zY rfl) rfl (xB (zJ (e' := [(2, _), (3, _)]) ⟨rfl, rfl, trivial⟩ (zB (zR (wY (zX (vG rfl rfl rfl ?_))))))))
  have h1 := vV (zF X) 1
  have h2 := vV (zF X) 0
  rw [wQ (by omega), zV] at h1
  rw [List.take_zero] at h2
  simp only [val, Nat.zero_add] at h2
  rw [xS (by omega), if_pos (by omega)]
  have e : (zF X).getD 1 0 * 4294967296 + (zF X).getD 0 0 = X := by omega
  rw [e]
 refine wH (e' := []) trivial (zL (yV (zB (zC (zA (asg (v := vU .u64 0) rfl rfl (asg rfl rfl (zD (zB (zR (vG rfl rfl rfl ?_)))))))))))
 rw [yX (by omega), if_neg (by omega)]
theorem nL {w0 : World} {h0 : Mem}  (hs : MLe h0 (mem w0)) {v : Value} {X k : Nat} (hv : Us .u32 h0 v (zF X)) (hk : k ≤ 4398046511104) (hl : (zF X).length ≤ 4398046511104) :
    Calls Tryz.prog 142 #[v, vI ↑k] w0 (Ret w0 h0 (fun h r => Us .u32 h r (zF (X * 4294967296 ^ k)))) := by
 refine zP (n := 12) (e := [(0, v), (1, vI ↑k)]) (vs := [v, vI ↑k]) Tryz.func142 rfl rfl (Nat.le_of_ble_eq_true rfl) hs ⟨rfl, rfl, trivial⟩ (zC (zA (asg rfl rfl (zD (zB (zC (zC (zA (mv rfl rfl (gv (yA Tryz.underlying28 rfl hv) rfl (gv (xZ (q := 0) rfl rfl) rfl (zD (zB ?_)))))))))))))
 refine zO rfl (fun hc7 => ?_) (fun hc7 => ?_)
 ·
  have h0 : X = 0 := Classical.byContradiction fun hne => by have := wL.2 hne; omega
  refine zC (zA (asg rfl rfl (zD (zB (zR (zX (yJ rfl rfl ?_)))))))
  rw [h0, Nat.zero_mul, wK]
  exact Us.nil _ _
 have h0 : X ≠ 0 := wL.1 (by omega)
 refine zL (zB (zC (zA (mv rfl rfl (qG (kd := .u32) (by' := 4) (k) Tryz.underlying28 uA rfl rfl rfl rfl rfl (by omega) (by omega) (by omega) (by omega) rfl ?_)))))
 intro v9
 refine mv rfl rfl (qN (A := []) (gB (kd := .u32) (bytes := 4) Tryz.underlying28 uA rfl rfl rfl rfl rfl hv (by rw [List.length_replicate]; omega) (by rw [List.length_replicate]; omega)) rfl rfl rfl ?_)
 intro v11 r11 hr11
 obtain rfl := hr11
 refine wC (by exact vZ (qT _) (vC _)) ?_
 intro h1 hh1 ho
 refine asg rfl rfl (zD (zB (zR (yJ rfl rfl ?_))))
 rw [← j8 h0]
 exact ho
set_option maxHeartbeats 1000000 in
theorem dC {w0 : World} {h0 : Mem}  (hs : MLe h0 (mem w0)) {v v' : Value} {X Y : Nat} (hv : Us .u32 h0 v (zF X)) (hv' : Us .u32 h0 v' (zF Y)) (hl : (zF X).length ≤ 549755813888) (hl' : (zF Y).length ≤ 549755813888) :
    Calls Tryz.prog 120 #[v, v'] w0 (Ret w0 h0 (fun h z => ∃ q r, z = .tuple #[q, r, vI (if Y = 0 then 3 else 0)] ∧ Us .u32 h q (zF (X / Y)) ∧ Us .u32 h r (zF (if Y = 0 then 0 else X % Y)))) := by
 refine zP (n := 163) (e := [(0, v), (1, v')]) (vs := [v, v']) Tryz.func120 rfl rfl (Nat.le_of_ble_eq_true rfl) hs ⟨rfl, rfl, trivial⟩ (zC (zA (asg rfl rfl (asg rfl rfl (asg (v := vI (0)) rfl rfl (zD (zB (zC (zC (zA (mv rfl rfl (gv (yA Tryz.underlying28 rfl hv') rfl (gv (xZ (q := 0) rfl rfl) rfl ?_)))))))))))))
 refine zD (zB ?_)
 refine zO rfl (fun hc21 => ?_) (fun hc21 => ?_)
 ·
  have hy0 : Y = 0 := Classical.byContradiction fun hne => by have := wL.2 hne; omega
  refine zC (zA (asg rfl rfl (asg rfl rfl (asg (v := vI (3)) rfl rfl (zD (zB (zR (zX (qF rfl rfl rfl rfl ?_)))))))))
  rw [hy0, Nat.div_zero, if_pos rfl, if_pos rfl, wK]
  exact ⟨_, _, rfl, Us.nil _ _, Us.nil _ _⟩
 have hyne : Y ≠ 0 := wL.1 (by omega)
 refine zL (zB (zC (zC (zA (mv rfl rfl (mv rfl rfl ?_))))))
 refine zM (vs := [_, _]) rfl rfl rfl rfl Tryz.call93 ⟨rfl, rfl, trivial⟩ (fun w hs => rS hs hv hv') ?_
 intro v24 h1 hh1 hr24
 subst hr24
 refine gv (zW (q := 0) rfl rfl) rfl (zD (zB ?_))
 refine zO rfl (fun hc25 => ?_) (fun hc25 => ?_)
 ·
  have hlt := fO.1 hc25
  refine wH (e' := [(0, _)]) ⟨rfl, trivial⟩ (zC (zA (mv rfl rfl ?_)))
  replace hv := hv.mono hh1
  refine zM (vs := [_]) rfl rfl rfl rfl Tryz.call118 ⟨rfl, trivial⟩ (fun w hs => gA hs hv (by omega)) ?_
  intro v27 h2 hh2 hr27
  rw [zV] at hr27
  refine asg rfl rfl (asg rfl rfl (asg (v := vI (0)) rfl rfl (zD (zB (zR (zX (qF rfl rfl rfl rfl ?_)))))))
  rw [Nat.div_eq_of_lt hlt, Nat.mod_eq_of_lt hlt, if_neg hyne, if_neg hyne, wK]
  exact ⟨_, _, rfl, Us.nil _ _, hr27⟩
 have hge : Y ≤ X := Nat.le_of_not_lt fun hc => hc25 (fO.2 hc)
 have hlm := xJ hge
 refine wH (e' := [(0, _), (1, _)]) ⟨rfl, rfl, trivial⟩ (zL (zB (zC (zC (zA (mv rfl rfl ?_))))))
 replace hv := hv.mono hh1
 refine zM (vs := [_]) rfl rfl rfl rfl Tryz.call138 ⟨rfl, trivial⟩ (fun w hs => cW hs hv) ?_
 intro v30 h2 hh2 hr30
 subst hr30
 refine mv rfl rfl (gv (zN (vs := [_, _]) rfl rfl) rfl (gv (zN (vs := [_, _]) rfl rfl) rfl (asg rfl rfl (asg rfl rfl (zD (zB (zC (zA (mv rfl rfl (zD (zB ?_)))))))))))
 refine zO rfl (fun hc33 => ?_) (fun hc33 => ?_)
 ·
  have hw := sS hc33
  have hyw := sS (n := Y) (by omega)
  refine zC (zA (mv rfl rfl ?_))
  replace hv' := hv'.mono (hh1.trans hh2)
  refine zM (vs := [_]) rfl rfl rfl rfl Tryz.call138 ⟨rfl, trivial⟩ (fun w hs => cW hs hv') ?_
  intro v36 h3 hh3 hr36
  subst hr36
  refine mv rfl rfl (gv (zN (vs := [_, _]) rfl rfl) rfl ?_)
  rw [if_pos hc33, if_pos (show (zF Y).length ≤ 2 by omega)]
  refine gv (zN (vs := [_, _]) rfl rfl) rfl (asg rfl rfl (asg rfl rfl (zD (zJ (e' := [(7, _), (9, _)]) ⟨rfl, rfl, trivial⟩ (zB (zC ?_))))))
  refine yI 11 _ [] [(0, .q), (1, .q), (2, .q), (4, .q), (5, .q), (6, .q), (3, .c), (7, .c), (8, .q), (9, .q), (10, .q)] xI (fun x hx => by cases hx) (by kernel_rfl) (fun x hx => by cases hx) (fun r hr => hr) (w_q rfl (fun h' L' hh hR => zG rfl) rfl (w_q rfl (fun h' L' hh hR => zG rfl) rfl (w_q rfl (fun h' L' hh hR => sH (k := .u64) (W := 18446744073709551616) rfl rfl rfl rfl (by omega) (by omega)) rfl (w_q rfl (fun h' L' hh hR => zG rfl) rfl (w_q rfl (fun h' L' hh hR => zG rfl) rfl (w_q rfl (fun h' L' hh hR => sG (k := .u64) rfl rfl (by omega)) rfl ?_))))))
  refine w_c rfl ?_
  have hqle := Nat.div_le_self X Y
  have hrlt := Nat.mod_lt X (Nat.pos_of_ne_zero hyne)
  refine yD (vs := [_]) Tryz.call116 ⟨rfl, trivial⟩ (fun w hs => bN hs (by omega)) rfl ?_
  intro v42 h4 hh4 hr42
  refine w_c rfl ?_
  refine yD (vs := [_]) Tryz.call116 ⟨rfl, trivial⟩ (fun w hs => bN hs (by omega)) rfl ?_
  intro v46 h5 hh5 hr46
  refine w_q rfl (fun h' L' hh hR => zY rfl) rfl (w_q rfl (fun h' L' hh hR => zY rfl) rfl (w_q rfl (fun h' L' hh hR => zY (v := vI (0)) rfl) rfl (xB (zJ (e' := [(4, _), (5, _), (6, _)]) ⟨rfl, rfl, rfl, trivial⟩ (zB (zR (zX (qF rfl rfl rfl rfl ?_))))))))
  replace hr42 := hr42.mono hh5
  rw [if_neg hyne, if_neg hyne]
  exact ⟨_, _, rfl, hr42, hr46⟩
 refine zL (zB (zC (zC (zA (mv rfl rfl ?_)))))
 replace hv' := hv'.mono (hh1.trans hh2)
 refine gv (yA Tryz.underlying28 rfl hv') rfl (gv (xZ (q := 1) rfl rfl) rfl (zD (zJ (e' := [(0, _), (1, _), (49, _)]) ⟨rfl, rfl, rfl, trivial⟩ (zB ?_))))
 refine zO rfl (fun hc49 => ?_) (fun hc49 => ?_)
 ·
  have hone : (zF Y).length = 1 := by omega
  have hb0 : (zF Y).getD 0 0 ≠ 0 := by have := gW (n := Y) (by omega); rwa [hone] at this
  have hvy := bV hone
  rw [zV] at hvy
  refine zC (zA (mv rfl rfl (mv rfl rfl (gv (yO (q := 0) (0) Tryz.underlying28 Tryz.sizeOf124 rfl rfl hv' rfl (by omega)) rfl (gv (yS Tryz.isAgg124 rfl hv' (by omega)) rfl ?_)))))
  have hb1 := hv'.get32 0
  replace hv := hv.mono hh2
  refine zM (vs := [_, _]) rfl rfl rfl rfl Tryz.call139 ⟨rfl, rfl, trivial⟩ (fun w hs => s3 hs hv (by omega) (by omega) (by omega)) ?_
  intro v55 h3 hh3 hr55
  obtain ⟨u55, rfl, hu55⟩ := hr55
  rw [zV] at hu55 ⊢
  have hrlt := Nat.mod_lt X (Nat.pos_of_ne_zero hb0)
  refine mv rfl rfl (gv (zN (vs := [_, _]) rfl rfl) rfl (gv (zN (vs := [_, _]) rfl rfl) rfl (asg rfl rfl (asg rfl rfl (zD (zJ (e' := [(11, _), (12, _)]) ⟨rfl, rfl, trivial⟩ (zB (zC (zA (mv rfl rfl (mv rfl rfl (gv (xE (k := .u32) (k' := .u64) (W := 18446744073709551616) Tryz.underlying124 Tryz.underlying122 rfl rfl rfl (by omega)) rfl ?_))))))))))))
  refine zM (vs := [_]) rfl rfl rfl rfl Tryz.call116 ⟨rfl, trivial⟩ (fun w hs => bN hs (by omega)) ?_
  intro v61 h4 hh4 hr61
  refine asg rfl rfl (asg rfl rfl (asg (v := vI (0)) rfl rfl (zD (zB (zR (zX (qF rfl rfl rfl rfl ?_)))))))
  replace hu55 := hu55.mono hh4
  rw [← hvy] at hu55 hr61
  rw [if_neg hyne, if_neg hyne]
  exact ⟨_, _, rfl, hu55, hr61⟩
 have hn2 : 2 ≤ (zF Y).length := by omega
 refine zL (zB (zC (zA (mv rfl rfl (mv rfl rfl (gv (yA Tryz.underlying28 rfl hv') rfl (gv (xT (q := 1) rfl rfl (by omega) (by omega)) rfl (gv (bO ((zF Y).length - 1) Tryz.underlying28 Tryz.sizeOf124 rfl rfl hv'.shape (by omega) (by omega)) rfl ?_))))))))
 have hsl66 := hv'.sub (lo := (zF Y).length - 1) (hi := (zF Y).length) (by omega) (by omega)
 rw [List.take_of_length_le (by rw [List.length_drop]; omega), limbs_last (by omega)] at hsl66
 have hgt := hv'.get32 ((zF Y).length - 1)
 have htw := jR (n := (zF Y).getD ((zF Y).length - 1) 0) (by omega)
 have hb32 := rJ (n := (zF Y).getD ((zF Y).length - 1) 0) (k := 32) hgt
 refine zM (vs := [_]) rfl rfl rfl rfl Tryz.call140 ⟨rfl, trivial⟩ (fun w hs => ref_bits hs hsl66 (by omega)) ?_
 intro v67 h3 hh3 hr67
 subst hr67
 refine gv (xT (p := 32) rfl rfl (by omega) (by omega)) rfl ?_
 obtain ⟨s, hsd⟩ : ∃ s, s = 32 - vS ((zF Y).getD ((zF Y).length - 1) 0) := ⟨_, rfl⟩
 rw [show (32 : Int) - ↑(vS ((zF Y).getD ((zF Y).length - 1) 0)) = ↑s by omega]
 obtain ⟨hs32, hvl, hv1⟩ := oI (k := (zF Y).length - 1) hyne (by omega) hsd
 refine asg rfl rfl (zD (zB (zC (zA (mv rfl rfl (mv rfl rfl ?_))))))
 replace hv' := hv'.mono hh3
 refine zM (vs := [_, _]) rfl rfl rfl rfl Tryz.call141 ⟨rfl, rfl, trivial⟩ (fun w hs => ref_up hs hv' (by omega) (by omega)) ?_
 intro v71 h4 hh4 hr71
 refine mv rfl rfl (mv rfl rfl ?_)
 replace hv := hv.mono ((hh2.trans hh3).trans hh4)
 refine zM (vs := [_, _]) rfl rfl rfl rfl Tryz.call141 ⟨rfl, rfl, trivial⟩ (fun w hs => ref_up hs hv (by omega) (by omega)) ?_
 intro v74 h5 hh5 hr74
 refine asg rfl rfl (asg rfl rfl ?_)
 replace hr71 := hr71.mono hh5
 replace hvl : (zF (Y * 2 ^ s)).length = (zF Y).length := by omega
 have hYn := fC (n := Y * 2 ^ s) (k := (zF Y).length - 1) (by omega)
 generalize hnd : (zF Y).length = n at *
 obtain ⟨V, hV⟩ : ∃ V, V = Y * 2 ^ s := ⟨_, rfl⟩
 obtain ⟨U, hU⟩ : ∃ U, U = X * 2 ^ s := ⟨_, rfl⟩
 rw [← hV] at hr71 hvl hv1 hYn
 rw [← hU] at hr74
 have hVd := val_two hn2 hvl
 rw [zV] at hVd
 have hvr := jT (kJ (vC V) (n - 2))
 rw [List.length_take, Nat.min_eq_left (by omega)] at hvr
 have hUl : (zF U).length ≤ (zF X).length + 1 := by rw [hU]; exact Nat.le_trans (xN X (2 ^ s)) (Nat.add_le_add_left (uN (k := 1) (by rw [Nat.pow_one]; exact Nat.lt_of_lt_of_le (Nat.pow_lt_pow_right (by decide) hs32) (by decide))) _)
 have hVU : V ≤ U := by rw [hV, hU]; exact Nat.mul_le_mul_right _ hge
 have hnr := xJ hVU
 rw [hvl] at hnr
 have hst := s5 (uD U) hYn (by omega) hnr
 generalize hrd : (zF U).length = r at *
 have hv1b := uZ (vC V) (n - 1)
 refine zD (zJ (e' := [(13, _), (1, _), (5, _)]) ⟨rfl, rfl, rfl, trivial⟩ (zB (zC (zA (mv rfl rfl (gv (yA Tryz.underlying28 rfl hr71) rfl ?_))))))
 rw [hvl]
 refine asg rfl rfl (zD (zB (zC (zA (mv rfl rfl (gv (yA Tryz.underlying28 rfl hr74) rfl ?_))))))
 rw [hrd]
 refine mv rfl rfl (gv (xT rfl rfl (by omega) (by omega)) rfl (gv (zQ (q := 1) rfl rfl (by omega) (by omega)) rfl (qG (kd := .u32) (by' := 4) (r - n + 1) Tryz.underlying28 uA rfl rfl rfl rfl rfl (by omega) (by omega) (by omega) (by omega) rfl ?_)))
 intro v82
 refine asg rfl rfl (zD (zB (zC (zC (zA (mv rfl rfl (gv (yA Tryz.underlying28 rfl hr74) rfl ?_)))))))
 rw [hrd]
 refine mv rfl rfl (gv (xT rfl rfl (by omega) (by omega)) rfl (asg rfl rfl (zD (zJ (e' := [(13, _), (1, _), (5, _), (14, _), (4, _), (15, _)]) ⟨rfl, rfl, rfl, rfl, rfl, rfl, trivial⟩ (zB (zS ?_))))))
 refine wR (ι := Nat × Value × Nat × List Nat × Mem) (fun (K, vr, R, qs, k1) => MLe h5 k1 ∧ (Us .u32 k1 vr (zF R) ∧ K ≤ r - n + 1 ∧ qs.length = r - n + 1 - K ∧ Fit qs ∧ R + 4294967296 ^ K * (val qs * V) = U ∧ R < 4294967296 ^ K * V ∧ (zF R).length ≤ r)) (fun (K, vr, R, qs, k1) => [(1, v71), (4, v82), (5, vr), (13, vI ↑s), (14, vI ↑n), (15, vI (↑K - 1))]) (fun (K, vr, R, qs, k1) => [.us 124 .u32 v82 (uW K qs)]) (fun (K, vr, R, qs, k1) => k1) (fun (K, vr, R, qs, k1) => K) (r - n + 1, v74, U, [], h5) ?_ ⟨?_, ?_, ?_, ?_, ?_, ?_, trivial⟩ ?_ rfl ?_
 ·
  refine ⟨MLe.refl _, ?_⟩
  exact ⟨hr74, Nat.le_refl _, by simp, fun x hx => by simp at hx, by simp [val], hst, by omega⟩
 · exact rfl
 · exact rfl
 · exact rfl
 · exact rfl
 · exact rfl
 · exact congrArg some (congrArg vI (by omega))
 ·
  try dsimp only [List.nil_append, List.cons_append]
  exact congrArg (fun z => [Res.us 124 .u32 v82 z]) (pC _)
 intro x hx
 obtain ⟨K, vr, R, qs, k1⟩ := x
 obtain ⟨hmk1, ⟨hR, hK, hql, hfq, hval, hlt, hRl⟩⟩ := hx
 show GC _ _ _ _ _ _ [(1, v71), (4, v82), (5, vr), (13, vI ↑s), (14, vI ↑n), (15, vI (↑K - 1))] [.us 124 .u32 v82 (uW K qs)] k1
 refine zC (zC (zA (mv rfl rfl (gv (qL (q := 0) rfl rfl) rfl (zD (zB ?_))))))
 refine zO rfl (fun hc88 => ?_) (fun hc88 => ?_)
 ·
  refine zL (zB (zC (zS (zC (zA (asg (v := vU .u64 0) rfl rfl (zD (zB ?_))))))))
  have ha1 := uZ (vC R) (K - 1 + n)
  have ha2 := uZ (vC R) (K - 1 + n - 1)
  have ha3 := uZ (vC R) (K - 1 + n - 2)
  refine kV (ι := Unit) (fun (_u : (Unit)) => True) (fun (_u : (Unit)) => [(1, v71), (4, v82), (5, vr), (13, vI ↑s), (14, vI ↑n), (15, vI (↑K - 1)), (16, vU .u64 ((zF R).getD (K - 1 + n) 0))]) (fun (_u : (Unit)) => [.us 124 .u32 v82 (uW K qs)]) (fun (_u : (Unit)) => k1) ?_ ?_
  ·
   refine zC (zA (mv rfl rfl (mv rfl rfl (gv (zQ rfl rfl (by omega) (by omega)) rfl (mv rfl rfl (gv (yA Tryz.underlying28 rfl hR) rfl (gv (zW rfl rfl) rfl (zD (zB ?_)))))))))
   refine zO rfl (fun hc96 => ?_) (fun hc96 => ?_)
   ·
    refine zA (mv rfl rfl (mv rfl rfl (mv rfl rfl (gv (zQ rfl rfl (by omega) (by omega)) rfl (gv (yO (K - 1 + n) Tryz.underlying28 Tryz.sizeOf124 rfl rfl hR (by omega) (by omega)) rfl (gv (yS Tryz.isAgg124 rfl hR (by omega)) rfl (gv (xE (k := .u32) (k' := .u64) (W := 18446744073709551616) Tryz.underlying124 Tryz.underlying122 rfl rfl rfl (by omega)) rfl (asg rfl rfl (zD ?_)))))))))
    refine yN (()) ?_ ⟨rfl, rfl, rfl, rfl, rfl, rfl, rfl, trivial⟩ rfl rfl
    trivial
   refine zL ?_
   refine yN (()) ?_ ⟨rfl, rfl, rfl, rfl, rfl, rfl, ?_, trivial⟩ rfl rfl
   ·
    trivial
   · exact congrArg some (congrArg (vU .u64) (by rw [gN (xs := zF R) (by omega)]))
  intro _u hx
  obtain hcut := hx
  show GC _ _ _ _ _ _ [(1, v71), (4, v82), (5, vr), (13, vI ↑s), (14, vI ↑n), (15, vI (↑K - 1)), (16, vU .u64 ((zF R).getD (K - 1 + n) 0))] [.us 124 .u32 v82 (uW K qs)] k1
  refine kV (ι := Unit) (fun (_u : (Unit)) => True) (fun (_u : (Unit)) => [(1, v71), (4, v82), (5, vr), (13, vI ↑s), (14, vI ↑n), (15, vI (↑K - 1)), (16, vU .u64 ((zF R).getD (K - 1 + n) 0 * 4294967296 + (zF R).getD (K - 1 + n - 1) 0))]) (fun (_u : (Unit)) => [.us 124 .u32 v82 (uW K qs)]) (fun (_u : (Unit)) => k1) ?_ ?_
  ·
   refine zC (zA (mv rfl rfl (mv rfl rfl (gv (zQ rfl rfl (by omega) (by omega)) rfl (gv (xT (q := 1) rfl rfl (by omega) (by omega)) rfl (mv rfl rfl (gv (yA Tryz.underlying28 rfl hR) rfl (gv (zW rfl rfl) rfl (zD (zB ?_))))))))))
   refine zO rfl (fun hc110 => ?_) (fun hc110 => ?_)
   ·
    refine zA (mv rfl rfl (gv (kH (k := .u64) (s := 32) (yk := .u64) (W := 18446744073709551616) rfl rfl rfl rfl) rfl (mv rfl rfl (mv rfl rfl (mv rfl rfl (gv (zQ rfl rfl (by omega) (by omega)) rfl (gv (xT (q := 1) rfl rfl (by omega) (by omega)) rfl (gv (yO (K - 1 + n - 1) Tryz.underlying28 Tryz.sizeOf124 rfl rfl hR (by omega) (by omega)) rfl (gv (yS Tryz.isAgg124 rfl hR (by omega)) rfl (gv (xE (k := .u32) (k' := .u64) (W := 18446744073709551616) Tryz.underlying124 Tryz.underlying122 rfl rfl rfl (by omega)) rfl (gv (fP (k := .u64) rfl rfl rfl (by simp only [ub]; omega) (by simp only [ub]; omega)) rfl ?_)))))))))))
    rw [fZ (by omega) (by omega)]
    refine asg rfl rfl (zD ?_)
    refine yN (()) ?_ ⟨rfl, rfl, rfl, rfl, rfl, rfl, rfl, trivial⟩ rfl rfl
    trivial
   refine zA (mv rfl rfl (gv (kH (k := .u64) (s := 32) (yk := .u64) (W := 18446744073709551616) rfl rfl rfl rfl) rfl (asg rfl rfl (zD ?_))))
   refine yN (()) ?_ ⟨rfl, rfl, rfl, rfl, rfl, rfl, ?_, trivial⟩ rfl rfl
   ·
    trivial
   · exact congrArg some (congrArg (vU .u64) (by rw [gN (xs := zF R) (i := K - 1 + n - 1) (by omega)]; omega))
  intro _u hx
  obtain hcut := hx
  show GC _ _ _ _ _ _ [(1, v71), (4, v82), (5, vr), (13, vI ↑s), (14, vI ↑n), (15, vI (↑K - 1)), (16, vU .u64 ((zF R).getD (K - 1 + n) 0 * 4294967296 + (zF R).getD (K - 1 + n - 1) 0))] [.us 124 .u32 v82 (uW K qs)] k1
  have hVn : V < 4294967296 ^ n := by rw [← hvl]; exact uD V
  have hRn : R < 4294967296 ^ (K + n) := Nat.lt_of_lt_of_le hlt (by rw [Nat.pow_add]; exact Nat.mul_le_mul_left _ (Nat.le_of_lt hVn))
  have hz0 : ∀ i, K + n ≤ i → (zF R).getD i 0 = 0 := fun i hi => pL (by rw [zV]; exact hRn) hi
  obtain ⟨wr, hW, hwr⟩ := iE (j := K - 1) hn2 (fun i hi => hz0 i (by omega)) (vC R)
  rw [jH (vC R), zV] at hW
  have hWV := rdiv_low (R := R) (V := V) (k := K - 1) (by rw [Nat.sub_add_cancel (by omega)]; exact hlt)
  obtain ⟨top, htop⟩ : ∃ t, t = (zF R).getD (K - 1 + n) 0 * 4294967296 + (zF R).getD (K - 1 + n - 1) 0 := ⟨_, rfl⟩
  rw [← htop]
  rw [← htop] at hW
  have htb : top < 18446744073709551616 := by omega
  have hest := lt_of_div (by rw [hW] at hWV ⊢; exact rdiv_est hVd rfl ha3 hwr (by omega) hWV)
  have hv1p : 0 < (zF V).getD (n - 1) 0 := by omega
  refine zC (zA (mv rfl rfl (mv rfl rfl (mv rfl rfl (gv (xT (q := 1) rfl rfl (by omega) (by omega)) rfl ?_)))))
  replace hr71 := hr71.mono hmk1
  refine gv (yO (n - 1) Tryz.underlying28 Tryz.sizeOf124 rfl rfl hr71 (by omega) (by omega)) rfl (gv (yS Tryz.isAgg124 rfl hr71 (by omega)) rfl (gv (xE (k := .u32) (k' := .u64) (W := 18446744073709551616) Tryz.underlying124 Tryz.underlying122 rfl rfl rfl (by omega)) rfl (gv (sH (k := .u64) (W := 18446744073709551616) rfl rfl rfl rfl (by omega) (by omega)) rfl (gv (ov_min_u (k := .u64) (q := 4294967295) rfl rfl) rfl ?_))))
  rw [Nat.min_def]
  rw [← Nat.min_def]
  refine asg rfl rfl (zD (zJ (e' := [(1, _), (4, _), (5, _), (13, _), (14, _), (15, _), (17, _)]) ⟨rfl, rfl, rfl, rfl, rfl, rfl, rfl, trivial⟩ (zB (zC (zA (mv rfl rfl (mv rfl rfl (gv (xE (k := .u64) (k' := .u32) (W := 4294967296) Tryz.underlying122 Tryz.underlying124 rfl rfl rfl (by omega)) rfl ?_))))))))
  refine zM (vs := [_, _]) rfl rfl rfl rfl Tryz.call143 ⟨rfl, rfl, trivial⟩ (fun w hs => ref_times hs hr71 (by omega) (by omega)) ?_
  intro v136 h6 hh6 hr136
  have hlp := xN V (min (top / (zF V).getD (n - 1) 0) 4294967295)
  have hld := jR (n := min (top / (zF V).getD (n - 1) 0) 4294967295) (by omega)
  refine mv rfl rfl ?_
  rw [show (↑K : Int) - 1 = ↑(K - 1) by omega]
  refine zM (vs := [_, _]) rfl rfl rfl rfl Tryz.call142 ⟨rfl, rfl, trivial⟩ (fun w hs => nL hs hr136 (by omega) (by omega)) ?_
  intro v138 h7 hh7 hr138
  refine asg rfl rfl (zD (zB (zC (zS ?_))))
  refine wR (ι := Value × Nat × Mem) (fun (vp, d, k2) => MLe h7 k2 ∧ (Us .u32 k2 vp (zF (V * d * 4294967296 ^ (K - 1))) ∧ d ≤ 4294967295 ∧ R < V * (d + 1) * 4294967296 ^ (K - 1))) (fun (vp, d, k2) => [(1, v71), (4, v82), (5, vr), (13, vI ↑s), (14, vI ↑n), (15, vI ↑(K - 1)), (17, vU .u64 d), (18, vp)]) (fun (vp, d, k2) => [.us 124 .u32 v82 (uW K qs)]) (fun (vp, d, k2) => k2) (fun (vp, d, k2) => d) (v138, min (top / (zF V).getD (n - 1) 0) 4294967295, h7) ?_ ⟨rfl, rfl, rfl, rfl, rfl, rfl, rfl, rfl, trivial⟩ rfl rfl ?_
  ·
   refine ⟨MLe.refl _, ?_⟩
   exact ⟨hr138, Nat.min_le_right _ _, hest⟩
  intro x hx
  obtain ⟨vp, d, k2⟩ := x
  obtain ⟨hmk2, ⟨hp, hdb, hdl⟩⟩ := hx
  show GC _ _ _ _ _ _ [(1, v71), (4, v82), (5, vr), (13, vI ↑s), (14, vI ↑n), (15, vI ↑(K - 1)), (17, vU .u64 d), (18, vp)] [.us 124 .u32 v82 (uW K qs)] k2
  refine zC (zC (zA (mv rfl rfl (mv rfl rfl ?_))))
  replace hR := hR.mono ((hh6.trans hh7).trans hmk2)
  refine zM (vs := [_, _]) rfl rfl rfl rfl Tryz.call93 ⟨rfl, rfl, trivial⟩ (fun w hs => rS hs hp hR) ?_
  intro v141 h8 hh8 hr141
  subst hr141
  refine gv (uS (q := 0) rfl rfl) rfl (zD (zB ?_))
  refine zO rfl (fun hc142 => ?_) (fun hc142 => ?_)
  ·
   have hgt := f0.1 hc142
   have hd1 : 1 ≤ d := Nat.pos_of_ne_zero fun h0 => by rw [h0, Nat.mul_zero, Nat.zero_mul] at hgt; omega
   obtain ⟨hbk, hbl⟩ := rq_back (V := V) (p := 4294967296 ^ (K - 1)) hd1
   refine zL (zB (zS (zC (zA (mv rfl rfl (gv (sF (k := .u64) (q := 1) (W := 18446744073709551616) rfl rfl rfl rfl (by omega) (by omega)) rfl (asg rfl rfl (zD (zB (zA (mv rfl rfl (mv rfl rfl (mv rfl rfl ?_)))))))))))))
   replace hr71 := hr71.mono (((hh6.trans hh7).trans hmk2).trans hh8)
   refine zM (vs := [_, _]) rfl rfl rfl rfl Tryz.call142 ⟨rfl, rfl, trivial⟩ (fun w hs => nL hs hr71 (by omega) (by omega)) ?_
   intro v148 h9 hh9 hr148
   have hlq := eW (V * d) (K - 1)
   have hlq2 := xN V d
   have hlq3 := jR (n := d) (by omega)
   replace hp := hp.mono (hh8.trans hh9)
   refine zM (vs := [_, _]) rfl rfl rfl rfl Tryz.call121 ⟨rfl, rfl, trivial⟩ (fun w hs => lR hs hp hr148 hbl (by omega)) ?_
   intro v149 h10 hh10 hr149
   rw [hbk] at hr149
   refine asg rfl rfl (zD (yV ?_))
   refine yQ (v149, d - 1, h10) ?_ ?_ ⟨rfl, rfl, rfl, rfl, rfl, rfl, rfl, rfl, trivial⟩ rfl rfl
   ·
    refine ⟨(((hmk2.trans hh8).trans hh9).trans hh10), ?_⟩
    exact ⟨hr149, by omega, by rw [Nat.sub_add_cancel hd1]; exact hgt⟩
   dsimp only
   omega
  have hple : V * d * 4294967296 ^ (K - 1) ≤ R := Nat.le_of_not_lt fun hc => hc142 (f0.2 hc)
  refine xQ (yE (yE (xO (zB (zC (zA (mv rfl rfl (mv rfl rfl (mv rfl rfl (gv (xE (k := .u64) (k' := .u32) (W := 4294967296) Tryz.underlying122 Tryz.underlying124 rfl rfl rfl (by omega)) rfl (gv (wJ (A := []) (K - 1) Tryz.underlying28 Tryz.sizeOf124 rfl rfl (by omega) (by rw [jM]; omega)) rfl (vJ Tryz.sizeOf124 rfl rfl (by rw [jM]; omega) (zD ?_)))))))))))))
  refine zJ (e' := [(1, _), (4, _), (5, _), (13, _), (14, _), (15, _), (18, _)]) ⟨rfl, rfl, rfl, rfl, rfl, rfl, rfl, trivial⟩ (zB (zA (mv rfl rfl (mv rfl rfl ?_))))
  replace hR := hR.mono hh8
  replace hp := hp.mono hh8
  refine zM (vs := [_, _]) rfl rfl rfl rfl Tryz.call121 ⟨rfl, rfl, trivial⟩ (fun w hs => lR hs hR hp hple (by omega)) ?_
  intro v157 h9 hh9 hr157
  refine asg rfl rfl (zD (yV (zB (zA (mv rfl rfl (gv (xT (q := 1) rfl rfl (by omega) (by omega)) rfl (asg rfl rfl (zD ?_))))))))
  refine yQ (K - 1, v157, R - V * d * 4294967296 ^ (K - 1), d :: qs, h9) ?_ ?_ ⟨rfl, rfl, rfl, rfl, rfl, ?_, trivial⟩ ?_ rfl
  ·
   refine ⟨(((((hmk1.trans hh6).trans hh7).trans hmk2).trans hh8).trans hh9), ?_⟩
   have eK : (4294967296 : Nat) ^ K = 4294967296 ^ (K - 1) * 4294967296 := by rw [← Nat.pow_succ, Nat.succ_eq_add_one, Nat.sub_add_cancel (by omega)]
   rw [eK] at hval
   have hlm2 := xJ (Nat.sub_le R (V * d * 4294967296 ^ (K - 1)))
   exact ⟨hr157, by omega, by simp only [List.length_cons]; omega, fL.2 ⟨by omega, hfq⟩, rq_step hval hple, rq_lt hdl hple, by omega⟩
  ·
   dsimp only
   omega
  · exact congrArg some (congrArg vI (by omega))
  try dsimp only [List.nil_append, List.cons_append]
  rw [pB (by omega)]
 refine xQ (yE (yE (xO (zB (zC ?_)))))
 have hK0 : K = 0 := by omega
 subst hK0
 rw [sV]
 rw [Nat.pow_zero, Nat.one_mul] at hval hlt
 refine zA (mv rfl rfl (wC (by exact hfq) ?_))
 intro h6 hh6 hq
 refine zM (vs := [_]) rfl rfl rfl rfl Tryz.call118 ⟨rfl, trivial⟩ (fun w hs => gA hs hq (by omega)) ?_
 intro v159 h7 hh7 hr159
 refine mv rfl rfl (mv rfl rfl ?_)
 replace hR := hR.mono (hh6.trans hh7)
 refine zM (vs := [_, _]) rfl rfl rfl rfl Tryz.call144 ⟨rfl, rfl, trivial⟩ (fun w hs => ref_down hs hR (by omega) (by omega)) ?_
 intro v162 h8 hh8 hr162
 refine asg rfl rfl (asg rfl rfl (asg (v := vI (0)) rfl rfl (zD (zJ (e' := [(4, _), (5, _), (6, _)]) ⟨rfl, rfl, rfl, trivial⟩ (zB (zR (qF rfl rfl rfl rfl ?_)))))))
 replace hr159 := hr159.mono hh8
 obtain ⟨e1, e2⟩ := div_end (X := X) (Y := Y) (s := s) (u := R) (q := val qs) (by omega) (by rw [← hV, ← hU]; exact hval) (by rw [← hV]; exact hlt)
 rw [e1] at hr159
 rw [e2] at hr162
 rw [if_neg hyne, if_neg hyne]
 exact ⟨_, _, rfl, hr159, hr162⟩
theorem ref_gcd {w0 : World} {h0 : Mem}  (hs : MLe h0 (mem w0)) {v v' : Value} {A B : Nat} (hv : Us .u32 h0 v (zF A)) (hv' : Us .u32 h0 v' (zF B)) (hl : (zF A).length ≤ 549755813888) (hl' : (zF B).length ≤ 549755813888) :
    Calls Tryz.prog 119 #[v, v'] w0 (Ret w0 h0 (fun h r => Us .u32 h r (zF (Nat.gcd A B)))) := by
 obtain ⟨G, hG⟩ : ∃ G, G = Nat.gcd A B := ⟨_, rfl⟩
 rw [← hG]
 refine zP (n := 51) (e := [(0, v), (1, v')]) (vs := [v, v']) Tryz.func119 rfl rfl (Nat.le_of_ble_eq_true rfl) hs ⟨rfl, rfl, trivial⟩ (zC (zA (asg rfl rfl (zD (zB (zC (zA (mv rfl rfl ?_))))))))
 refine zM (vs := [_]) rfl rfl rfl rfl Tryz.call118 ⟨rfl, trivial⟩ (fun w hs => gA hs hv (by omega)) ?_
 intro v13 h1 hh1 hr13
 rw [zV] at hr13
 refine mv rfl rfl ?_
 replace hv' := hv'.mono hh1
 refine zM (vs := [_]) rfl rfl rfl rfl Tryz.call118 ⟨rfl, trivial⟩ (fun w hs => gA hs hv' (by omega)) ?_
 intro v15 h2 hh2 hr15
 rw [zV] at hr15
 refine asg rfl rfl (asg rfl rfl (zD (zB (zC (zS ?_)))))
 refine wR (ι := Value × Nat × Value × Nat × Mem) (fun (vx, X, vy, Y, k1) => MLe h2 k1 ∧ (Us .u32 k1 vx (zF X) ∧ Us .u32 k1 vy (zF Y) ∧ Nat.gcd X Y = G ∧ (zF X).length ≤ 549755813888 ∧ (zF Y).length ≤ 549755813888)) (fun (vx, X, vy, Y, k1) => [(0, vx), (1, vy)]) (fun (vx, X, vy, Y, k1) => []) (fun (vx, X, vy, Y, k1) => k1) (fun (vx, X, vy, Y, k1) => Y) (v13, A, v15, B, h2) ?_ ⟨rfl, rfl, trivial⟩ rfl rfl ?_
 ·
  refine ⟨MLe.refl _, ?_⟩
  replace hr13 := hr13.mono hh2
  exact ⟨hr13, hr15, hG.symm, by omega, by omega⟩
 intro x hx
 obtain ⟨vx, X, vy, Y, k1⟩ := x
 obtain ⟨hmk1, ⟨ha, hb, hg, hlX, hlY⟩⟩ := hx
 show GC _ _ _ _ _ _ [(0, vx), (1, vy)] [] k1
 refine zC (zC (zA (mv rfl rfl (gv (yA Tryz.underlying28 rfl hb) rfl (gv (uS (q := 0) rfl rfl) rfl (zD (zB ?_)))))))
 refine zO rfl (fun hc18 => ?_) (fun hc18 => ?_)
 ·
  have hY0 : Y ≠ 0 := wL.1 (by omega)
  refine zL (zB (zS (zC (zA (mv rfl rfl ?_)))))
  refine zM (vs := [_]) rfl rfl rfl rfl Tryz.call138 ⟨rfl, trivial⟩ (fun w hs => cW hs ha) ?_
  intro v21 h3 hh3 hr21
  subst hr21
  refine mv rfl rfl (gv (zN (vs := [_, _]) rfl rfl) rfl (gv (zN (vs := [_, _]) rfl rfl) rfl (asg rfl rfl (asg rfl rfl (zD (zB (zC (zA (mv rfl rfl ?_)))))))))
  replace hb := hb.mono hh3
  refine zM (vs := [_]) rfl rfl rfl rfl Tryz.call138 ⟨rfl, trivial⟩ (fun w hs => cW hs hb) ?_
  intro v26 h4 hh4 hr26
  subst hr26
  refine mv rfl rfl (gv (zN (vs := [_, _]) rfl rfl) rfl (gv (zN (vs := [_, _]) rfl rfl) rfl (asg rfl rfl (asg rfl rfl (zD (zJ (e' := [(0, _), (1, _), (5, _), (6, _), (7, _), (8, _)]) ⟨rfl, rfl, rfl, rfl, rfl, rfl, trivial⟩ (zB (zC (zC (zA (mv rfl rfl ?_)))))))))))
  refine vO (ι := Unit) 3 (fun _ => True) (fun _ => [(32, vB (((zF X).length ≤ 2) ∧ ((zF Y).length ≤ 2))), (0, vx), (1, vy), (5, vU .u64 (if (zF X).length ≤ 2 then X else 0)), (7, vU .u64 (if (zF Y).length ≤ 2 then Y else 0))]) (fun _ => []) (fun _ => h4) ?_ ?_
  ·
   refine wM ((zF X).length ≤ 2) (fun hg => ?_) (fun hg => ?_)
   ·
    refine xH (zG (v := .bool true) (congrArg some (xS hg))) rfl rfl rfl (xA rfl rfl rfl (mv rfl rfl (gv (xK rfl rfl) rfl (zD ?_))))
    refine yN () trivial ⟨?_, rfl, rfl, rfl, rfl, trivial⟩ rfl rfl
    exact congrArg some (uI hg)
   refine xH (zG (v := .bool false) (congrArg some (yX hg))) rfl rfl rfl (yL rfl rfl rfl rfl rfl rfl (gv (wB rfl rfl) rfl (zD ?_)))
   refine yN () trivial ⟨?_, rfl, rfl, rfl, rfl, trivial⟩ rfl rfl
   exact congrArg some (uJ hg)
  intro _ _
  show GL _ _ _ _ _ _ _ [(32, vB (((zF X).length ≤ 2) ∧ ((zF Y).length ≤ 2))), (0, vx), (1, vy), (5, vU .u64 (if (zF X).length ≤ 2 then X else 0)), (7, vU .u64 (if (zF Y).length ≤ 2 then Y else 0))] [] h4
  refine zD (zB ?_)
  refine zO rfl (fun hc32 => ?_) (fun hc32 => ?_)
  ·
   rw [if_pos hc32.1, if_pos hc32.2]
   have hwx := sS hc32.1
   have hwy := sS hc32.2
   refine zC (zS ?_)
   refine wR (ι := Nat × Nat) (fun (m, n) => Nat.gcd m n = G ∧ m < 18446744073709551616 ∧ n < 18446744073709551616) (fun (m, n) => [(5, vU .u64 m), (7, vU .u64 n)]) (fun (m, n) => []) (fun (m, n) => h4) (fun (m, n) => n) (X, Y) ?_ ⟨rfl, rfl, trivial⟩ rfl rfl ?_
   ·
    exact ⟨hg, hwx, hwy⟩
   intro x hx
   obtain ⟨m, n⟩ := x
   obtain ⟨hg3, hm, hn⟩ := hx
   show GC _ _ _ _ _ _ [(5, vU .u64 m), (7, vU .u64 n)] [] h4
   refine zC (zC (zA (mv rfl rfl (gv (gH (k := .u64) (q := 0) rfl rfl) rfl (zD (zB ?_))))))
   refine zO rfl (fun hc34 => ?_) (fun hc34 => ?_)
   ·
    refine zL (zB (zS ?_))
    refine yI 6 _ [] [(0, .q), (1, .q), (2, .q), (3, .q), (4, .q), (5, .q)] xI (fun x hx => by cases hx) (by kernel_rfl) (fun x hx => by cases hx) (fun r hr => hr) (w_q rfl (fun h' L' hh hR => zG rfl) rfl (w_q rfl (fun h' L' hh hR => zG rfl) rfl (w_q rfl (fun h' L' hh hR => zG rfl) rfl (w_q rfl (fun h' L' hh hR => sG (k := .u64) rfl rfl (by omega)) rfl (w_q rfl (fun h' L' hh hR => zY rfl) rfl (w_q rfl (fun h' L' hh hR => zY rfl) rfl (xB (yV ?_))))))))
    refine yQ (n, m % n) ?_ ?_ ⟨rfl, rfl, trivial⟩ rfl rfl
    ·
     have hlt := Nat.mod_lt m (Nat.pos_of_ne_zero hc34)
     exact ⟨by rw [rI]; exact hg3, hn, by omega⟩
    dsimp only
    exact Nat.mod_lt _ (Nat.pos_of_ne_zero hc34)
   refine xQ (yE (yE (xO (zB (zC (zA (mv rfl rfl ?_)))))))
   refine zM (vs := [_]) rfl rfl rfl rfl Tryz.call116 ⟨rfl, trivial⟩ (fun w hs => bN hs (by omega)) ?_
   intro v40 h5 hh5 hr40
   refine asg rfl rfl (zD (zB (zR (zX (wY (zX (wY (zX (yJ rfl rfl ?_)))))))))
   have hn0 : n = 0 := Classical.not_not.1 hc34
   rw [hn0, Nat.gcd_zero_right] at hg3
   rw [← hg3]
   exact hr40
  refine zL (zB (zC (zA (mv rfl rfl (mv rfl rfl ?_)))))
  replace ha := ha.mono (hh3.trans hh4)
  replace hb := hb.mono hh4
  refine zM (vs := [_, _]) rfl rfl rfl rfl Tryz.call120 ⟨rfl, rfl, trivial⟩ (fun w hs => dC hs ha hb (by omega) (by omega)) ?_
  intro v44 h5 hh5 hr44
  obtain ⟨q44, r44, rfl, hq44, hr44⟩ := hr44
  rw [if_neg hY0] at hr44
  have hlm := xJ (Nat.le_of_lt (Nat.mod_lt X (Nat.pos_of_ne_zero hY0)))
  refine mv rfl rfl (gv (zN (vs := [_, _, _]) rfl rfl) rfl (gv (zN (vs := [_, _, _]) rfl rfl) rfl (gv (zN (vs := [_, _, _]) rfl rfl) rfl (asg rfl rfl (asg rfl rfl (asg rfl rfl (zD (zJ (e' := [(1, _), (10, _)]) ⟨rfl, rfl, trivial⟩ (zB (zA (mv rfl rfl (mv rfl rfl (asg rfl rfl ?_)))))))))))))
  refine asg rfl rfl (zD (yV ?_))
  refine yQ (vy, Y, r44, X % Y, h5) ?_ ?_ ⟨rfl, rfl, trivial⟩ rfl rfl
  ·
   refine ⟨(((hmk1.trans hh3).trans hh4).trans hh5), ?_⟩
   replace hb := hb.mono hh5
   exact ⟨hb, hr44, by rw [rI]; exact hg, hlY, by omega⟩
  dsimp only
  exact Nat.mod_lt _ (Nat.pos_of_ne_zero hY0)
 have hY0 : Y = 0 := Classical.byContradiction fun hne => by have := wL.2 hne; omega
 refine xQ (yE (yE (xO (zB (zC (zA (mv rfl rfl (asg rfl rfl (zD (zB (zR (yJ rfl rfl ?_))))))))))))
 rw [hY0, Nat.gcd_zero_right] at hg
 rw [← hg]
 exact ha
end Go.Proofs.YtghhjjmjpeehdaaGreat
namespace Bk
set_option linter.unusedVariables false
set_option linter.unusedSimpArgs false
open Go Go.RowKit
section
variable {P : Program} {n : Nat} {w0 : World} {h0 : Mem} {e : List (Nat × Value)} {L : List Res} {h : Mem} {Q : Exit → Act → World → Prop}
variable {ds : Option Tmp} {ty : TypeId} {ps : String} {af : Array Edge} {gd : Option (Nat × Bool)}
abbrev Res.var (b : Nat) (E : TypeId) (cs : List Value) : Res := .blk b (.cells cs.toArray E)
abbrev vP (b k : Nat) : Value := .pointer (some ⟨b, k, none⟩)
theorem iT (w : World) (o : Obj) : (w.alloc o).heap[w.heap.size]? = some o := by
  show (w.heap.push o)[w.heap.size]? = some o
  exact Array.getElem?_push_size
theorem wW {E : TypeId} {x : Operand} {v : Value} {cs : List Value} (hx : yK e x = some v) (hc : v.cells = cs.toArray) :
    sZ P n w0 h0 ⟨ds, .box E x, ty, ps, af, gd⟩ e L h (fun u r => ∃ b, u = vP b 0 ∧ r = .var b E cs) := by
  intro a w Ev S
  refine ⟨_, w.alloc (.cells cs.toArray E), .var w.heap.size E cs, ?_, World.grownBy_alloc w _ none, ?_, fun b hb => ?_, _, rfl, rfl⟩
  · simp [execOp, Ev.eval hx, Instr.box, newVar, newRow, newObj, Sem.run, hc]
  · exact iT w _
  · simp only [Res.fp, Option.some.injEq] at hb
    omega
theorem vN {E : TypeId} {i : TypeInfo} {z : Value} {cs : List Value} (hi : P.info? E = some i) (hz : i.zero = some z) (hc : z.cells = cs.toArray) :
    sZ P n w0 h0 ⟨ds, .alloc E, ty, ps, af, gd⟩ e L h (fun u r => ∃ b, u = vP b 0 ∧ r = .var b E cs) := by
  intro a w Ev S
  refine ⟨_, w.alloc (.cells cs.toArray E), .var w.heap.size E cs, ?_, World.grownBy_alloc w _ none, ?_, fun b hb => ?_, _, rfl, rfl⟩
  · have hz' : (zeroValue E).run P w = .ok z w := by simp [zeroValue, typeInfo, hi, hz]
    simp [execOp, Instr.alloc, hz', newVar, newRow, newObj, Sem.run, hc]
  · exact iT w _
  · simp only [Res.fp, Option.some.injEq] at hb
    omega
theorem zI {t : TypeId} {x : Operand} {f b k : Nat} {fs : Array Field} {fl : Field} {m : Nat} (ht : P.underlying t = some (.struct fs)) (hf : fs[f]? = some fl) (hsz : ∀ w, (Go.sizeOf fl.type).run P w = .ok (m + 1) w) (hx : yK e x = some (vP b k)) :
    OpV P n w0 h0 ⟨ds, .fieldAddr t x f, ty, ps, af, gd⟩ e L h (vP b (k + fl.offset)) := by
  intro a w Ev S
  simp [execOp, Ev.eval hx, Instr.fieldAt, run_underlying ht, hf, Instr.sureAddr, fieldPlace, hsz, jZ]
theorem cU {b : Nat} {E : TypeId} {cs : List Value} {w : World} (hw : w.heap[b]? = some (.cells cs.toArray E)) (k : Nat) (vs : List Value) (hv : (cs.drop k).take vs.length = vs) : w.rangeAt b k vs := by
  intro j v hj
  have hjl : j < vs.length := (List.getElem?_eq_some_iff.1 hj).1
  have h1 : cs[k + j]? = some v := by
    rw [← hv, List.getElem?_take, if_pos hjl, List.getElem?_drop] at hj
    exact hj
  unfold World.cell?
  simp [hw, h1]
theorem zU {t : TypeId} {x : Operand} {b k : Nat} {E : TypeId} {cs : List Value} {v : Value} (hm : .var b E cs ∈ L) (ha : ∀ w, (isAgg t).run P w = .ok false w) (hx : yK e x = some (vP b k)) (hv : cs[k]? = some v) :
    OpV P n w0 h0 ⟨ds, .load t x, ty, ps, af, gd⟩ e L h v := by
  intro a w Ev S
  have hw : w.heap[b]? = some (.cells cs.toArray E) := S.ok _ hm
  have hc : w.cell? ⟨b, k, none⟩ = some v := by unfold World.cell?; simp [hw, hv]
  simp [execOp, Ev.eval hx, Instr.loadAt, Instr.sureAddr, loadVar, ha, Go.load, Sem.run, hc]
theorem yH {t : TypeId} {x : Operand} {b k : Nat} {E : TypeId} {cs vs : List Value} {d : TypeDesc} (hm : .var b E cs ∈ L) (hu : P.underlying t = some d) (hd : d.isRow = true) (hi : (P.info? t).map (·.size) = some vs.length) (hx : yK e x = some (vP b k)) (hv : (cs.drop k).take vs.length = vs) :
    OpV P n w0 h0 ⟨ds, .load t x, ty, ps, af, gd⟩ e L h (.agg vs.toArray) := by
  intro a w Ev S
  have hw : w.heap[b]? = some (.cells cs.toArray E) := S.ok _ hm
  simp only [execOp, Ev.eval hx]
  rw [Sem.run_bind, run_loadAt_mid w b k t vs d (cU hw k vs hv) hu hd hi]
  rfl
theorem rP {b : Nat} {E : TypeId} : ∀ (vs : List Value) (k : Nat) (cs : List Value) (w : World), w.heap[b]? = some (.cells cs.toArray E) →
    (w.setCells b k vs).heap[b]? = some (.cells (vs.zipIdx.foldl (fun c p => c.set (k + p.2) p.1) cs).toArray E) ∧ w.grownBy (w.setCells b k vs) (some b)
  | [], k, cs, w, hw => ⟨hw, ⟨rfl, rfl, rfl, Nat.le_refl _, fun _ _ _ => rfl⟩⟩
  | v :: r, k, cs, w, hw => by
    have h1 : (w.setCell ⟨b, k, none⟩ v).heap[b]? = some (.cells (cs.set k v).toArray E) := by
      simp [World.setCell, Array.getElem?_modify, hw]
    obtain ⟨h2, h3⟩ := rP r (k + 1) (cs.set k v) _ h1
    have e1 : ((v :: r).zipIdx.foldl (fun c p => c.set (k + p.2) p.1) cs) = (r.zipIdx.foldl (fun c p => c.set (k + 1 + p.2) p.1) (cs.set k v)) := by
      rw [List.zipIdx_cons, List.foldl_cons, Nat.add_zero, List.zipIdx_succ, List.foldl_map]
      congr 1
      funext c p
      rw [show k + (p.2 + 1) = k + 1 + p.2 by omega]
    refine ⟨?_, ?_⟩
    · rw [World.setCells, e1]; exact h2
    · have hlt : b < w.heap.size := (Array.getElem?_eq_some_iff.1 hw).1
      refine ⟨?_, ?_, ?_, ?_, ?_⟩
      · exact h3.os
      · exact h3.tape
      · exact h3.output
      · have := h3.size
        simpa [World.setCells, World.setCell] using this
      · intro b' hb' hne
        have h4 := h3.block b' (by simpa [World.setCell] using hb') hne
        rw [World.setCells, h4]
        have : b ≠ b' := fun hh => hne (by rw [hh])
        simp [World.setCell, Array.getElem?_modify, this]
def nM (cs : List Value) (k : Nat) (vs : List Value) : List Value := vs.zipIdx.foldl (fun c p => c.set (k + p.2) p.1) cs
theorem yC {A B : List Res} {E t : TypeId} {b k : Nat} {cs vs : List Value} {v : Value} {x y : Operand} (hx : yK e x = some (vP b k)) (hy : yK e y = some v) (hv : v.cells = vs.toArray) (h1 : vs.all (·.oneCell') = true)
    (hi : (P.info? t).map (·.size) = some vs.length) (hk : k + vs.length ≤ cs.length) : Upd P n w0 h0 ⟨ds, .store t x y, ty, ps, af, gd⟩ e A (.var b E cs) B h (.var b E (nM cs k vs)) := by
  intro a w Ev S
  have hw : w.heap[b]? = some (.cells cs.toArray E) := S.ok (.var b E cs) (by simp)
  obtain ⟨h2, h3⟩ := rP vs k cs w hw
  refine ⟨w.setCells b k vs, ?_, h3, h2⟩
  have hthere : w.there b k vs.length := by
    intro j hj
    have : k + j < cs.length := by omega
    refine ⟨?_, ?_⟩
    · unfold World.cell?
      simp [hw, this]
    · simp [World.frozen?, hw]
  have hrun := run_storeCells_cells (P := P) b k vs 0 w (fun j hj => by simpa using (hthere j hj).1) (fun j hj => by simpa using (hthere j hj).2) (fun u hu => List.all_eq_true.1 h1 u hu)
  have hsz : (Go.sizeOf t).run P w = .ok vs.length w := by
    cases hq : P.info? t with
    | none => simp [hq] at hi
    | some i =>
      have : i.size = vs.length := by simpa [hq] using hi
      simp [Go.sizeOf, typeInfo, hq, this]
  simp only [Nat.add_zero] at hrun
  simp [execOp, Ev.eval hx, Ev.eval hy, Instr.storeAt, Instr.sureAddr, storeVar, hsz, hv, hrun]
def pI (e : List (Nat × Value)) : List (Nat × Operand) → List (Nat × Value) → Prop
  | [], [] => True
  | (i, x) :: r, (j, v) :: s => i = j ∧ yK e x = some v ∧ pI e r s
  | _, _ => False
theorem pI.eval {a : Act} (Ev : Env n e a) : ∀ {ps : List (Nat × Operand)} {vs : List (Nat × Value)}, pI e ps vs → (ps.map fun p => (p.1, a.eval p.2)) = vs
  | [], [], _ => rfl
  | (i, x) :: r, (j, v) :: s, h => by
    obtain ⟨rfl, h2, h3⟩ := h
    rw [List.map_cons, pI.eval Ev h3, Ev.eval h2]
  | [], _ :: _, h => h.elim
  | _ :: _, [], h => h.elim
theorem Us.oneCell {k : IntKind} {v : Value} {xs : List Nat} (s : Us k h v xs) : v.oneCell' = true := by
  obtain ⟨_, _, rfl⟩ := s.one
  rfl
theorem Us.cells {k : IntKind} {v : Value} {xs : List Nat} (s : Us k h v xs) : v.cells = [v].toArray := by
  obtain ⟨_, _, rfl⟩ := s.one
  rfl
theorem oc0 : ([] : List Value).all (·.oneCell') = true := rfl
theorem ocu {k : IntKind} {h : Mem} {v : Value} {xs : List Nat} {cs : List Value} (s : Us k h v xs) (r : cs.all (·.oneCell') = true) : (v :: cs).all (·.oneCell') = true := by
  rw [List.all_cons, s.oneCell, r]; rfl
theorem ocr {v : Value} {cs : List Value} (s : v.oneCell' = true) (r : cs.all (·.oneCell') = true) : (v :: cs).all (·.oneCell') = true := by
  rw [List.all_cons, s, r]; rfl
theorem s1 : ∀ (cs B A C : List Value), cs.length = B.length → (cs.zipIdx.foldl (fun (a : Array Value) (p : Value × Nat) => a.setIfInBounds (A.length + p.2) p.1) (A ++ B ++ C).toArray) = (A ++ cs ++ C).toArray := by
  have key : ∀ (cs B A C : List Value) (k : Nat) (A0 : Nat), A.length = A0 + k → cs.length = B.length → ((cs.zipIdx k).foldl (fun (a : Array Value) (p : Value × Nat) => a.setIfInBounds (A0 + p.2) p.1) (A ++ B ++ C).toArray) = (A ++ cs ++ C).toArray := by
    intro cs
    induction cs with
    | nil =>
      intro B A C k A0 hA hB
      have : B = [] := List.eq_nil_of_length_eq_zero hB.symm
      subst this; rfl
    | cons c cs ih =>
      intro B A C k A0 hA hB
      cases B with
      | nil => simp at hB
      | cons b B =>
        have e : (A ++ b :: B ++ C).toArray.setIfInBounds (A0 + k) c = ((A ++ [c]) ++ B ++ C).toArray := by
          rw [← hA]
          simp [List.set_append]
        rw [List.zipIdx_cons, List.foldl_cons]
        show List.foldl _ ((A ++ b :: B ++ C).toArray.setIfInBounds (A0 + k) c) _ = _
        rw [e, ih B (A ++ [c]) C (k + 1) A0 (by simp; omega) (by simpa using hB)]
        simp
  intro cs B A C h
  exact key cs B A C 0 A.length rfl h
theorem wX {place : Nat → Option (Nat × Nat)} {i off size : Nat} {A B C cs : List Value} {v : Value} {rest : List (Nat × Value)} {r : Option (Array Value)} (hp : place i = some (off, size)) (hA : A.length = off) (hB : B.length = size) (hs : cs.length = size) (hc : v.cells = cs.toArray)
    (k : Instr.fill place (A ++ cs ++ C).toArray rest = r) : Instr.fill place (A ++ B ++ C).toArray ((i, v) :: rest) = r := by
  subst hA
  have h1 : v.cells.size = size := by rw [hc]; simpa using hs
  have h3 : (decide (v.cells.size ≠ size) || decide (A.length + v.cells.size > (A ++ B ++ C).toArray.size)) = false := by
    rw [h1]; simp; omega
  simp only [Instr.fill, hp]
  rw [h3, if_neg (by decide), hc, ← Array.foldl_toList, Array.toList_zipIdx, s1 cs B A C (by omega)]
  exact k
theorem qD {place : Nat → Option (Nat × Nat)} {vs : List Value} : Instr.fill place vs.toArray [] = some vs.toArray := rfl
theorem wN {t : TypeId} {i : TypeInfo} {z : Value} {fs : Array Field} {places : Array (Nat × Nat)} {parts : List (Nat × Operand)} {ps' : List (Nat × Value)} {vs : List Value} (ht : P.underlying t = some (.struct fs)) (hi : P.info? t = some i) (hz : i.zero = some z)
    (hpl : ∀ w, (fs.mapM fun (f : Field) => do pure (f.offset, ← Go.sizeOf f.type)).run P w = .ok places w) (hp : pI e parts ps') (hf : Instr.fill (places[·]?) z.cells ps' = some vs.toArray) :
    OpV P n w0 h0 ⟨ds, .build t parts.toArray, ty, ps, af, gd⟩ e L h (.agg vs.toArray) := by
  intro a w Ev S
  have hpa : (parts.toArray.map fun (p : Nat × Operand) => (p.1, a.eval p.2)).toList = ps' := by
    rw [List.map_toArray]
    exact hp.eval Ev
  have hz' : (zeroValue t).run P w = .ok z w := by simp [zeroValue, typeInfo, hi, hz]
  simp only [execOp, Instr.build]
  rw [show (parts.toArray.map fun (i, x) => (i, a.eval x)).toList = ps' from hpa]
  simp only [Sem.run_bind, hz', Result.andThen_ok, run_underlying ht, hpl, hf]
  rfl
def mP (tmps : Array Value) : ResultVar → Sem Value
  | .tmp t => pure (tmps.getD t undef)
  | .cell a t => do loadVar t (← asAddr (tmps.getD a undef))
def RV (P : Program) (n : Nat) (w0 : World) (h0 : Mem) (r : ResultVar) (e : List (Nat × Value)) (L : List Res) (h : Mem) (v : Value) : Prop := ∀ a w, Env n e a → St w0 h0 L h w → (mP a.tmps r).run P w = .ok v w
theorem tP {t : Nat} {v : Value} (hv : yK e (.tmp t) = some v) : RV P n w0 h0 (.tmp t) e L h v := by
  intro a w E S
  have := E.eval hv
  simp only [Act.eval] at this
  simp [mP, this]
theorem wS {t : Nat} {T E : TypeId} {b : Nat} {cs : List Value} {d : TypeDesc} (hm : .var b E cs ∈ L) (hu : P.underlying T = some d) (hd : d.isRow = true) (hi : (P.info? T).map (·.size) = some cs.length) (hx : yK e (.tmp t) = some (vP b 0)) : RV P n w0 h0 (.cell t T) e L h (.agg cs.toArray) := by
  intro a w Ev S
  have hw : w.heap[b]? = some (.cells cs.toArray E) := S.ok _ hm
  have := Ev.eval hx
  simp only [Act.eval] at this
  have h2 := run_loadVar_mid (P := P) w b 0 T cs d (cU hw 0 cs (by simp)) hu hd hi
  simp [mP, this, asAddr, h2]
theorem nK (fn : Func) (tmps : Array Value) : results fn tmps = (do let vs ← fn.results.mapM (mP tmps); pure (if h : vs.size = 1 then vs[0] else .tuple vs)) := by
  unfold results
  congr 1
section
variable {fn : Func} {r1 r2 r3 r4 : ResultVar} {v1 v2 v3 v4 : Value} {R : Mem → Value → Prop} {RO : Mem → Value → List Res → Prop}
theorem yP (hr : fn.results = #[r1]) (h1 : RV P n w0 h0 r1 e L h v1) {a : Act} {w : World} (Ev : Env n e a) (S : St w0 h0 L h w) : (results fn a.tmps).run P w = .ok v1 w := by
  simp [nK, hr, h1 a w Ev S]
theorem kZ (hr : fn.results = #[r1, r2]) (h1 : RV P n w0 h0 r1 e L h v1) (h2 : RV P n w0 h0 r2 e L h v2) {a : Act} {w : World} (Ev : Env n e a) (S : St w0 h0 L h w) : (results fn a.tmps).run P w = .ok (.tuple #[v1, v2]) w := by
  simp [nK, hr, h1 a w Ev S, h2 a w Ev S]
theorem xX {v : Value} (hres : ∀ {a : Act} {w : World}, Env n e a → St w0 h0 L h w → (results fn a.tmps).run P w = .ok v w) (hR : R h v) : GQ n w0 h0 (bodyPost P fn (Ret w0 h0 R)) .ret e L h := by
  intro a w E S
  exact bodyPost_ret (hres E S) E.defers ⟨_, h, rfl, hR, S.sublist (List.nil_sublist _)⟩
theorem jC {v : Value} (hres : ∀ {a : Act} {w : World}, Env n e a → St w0 h0 L h w → (results fn a.tmps).run P w = .ok v w) (hR : RO h v L) : GQ n w0 h0 (bodyPost P fn (rD w0 h0 RO)) .ret e L h := by
  intro a w E S
  exact bodyPost_ret (hres E S) E.defers ⟨_, h, L, rfl, hR, S⟩
end
end
end Bk
namespace Bk
set_option linter.unusedVariables false
set_option linter.unusedSimpArgs false
open Go Go.RowKit
def jU (k : Nat) (v : Value) (lo hi mx : Nat) : Value :=
  match v with
  | .slice a _ _ => .slice (if mx = lo then a else a.map (·.add (lo * k))) (hi - lo) (mx - lo)
  | _ => undef
section
variable {P : Program} {n : Nat} {w0 : World} {h0 : Mem} {e : List (Nat × Value)} {L : List Res} {h : Mem} {Q : Exit → Act → World → Prop}
variable {ds : Option Tmp} {ty : TypeId} {ps : String} {af : Array Edge} {gd : Option (Nat × Bool)}
theorem Sl.sub3 {h : Mem} {k : Nat} {v : Value} {m : Nat} {cs : List Value} (s : Sl h k v m cs) {lo hi mx : Nat} (h1 : lo ≤ hi) (h2 : hi ≤ mx) (h3 : mx ≤ m) : Sl h k (jU k v lo hi mx) (hi - lo) ((cs.drop (lo * k)).take ((hi - lo) * k)) := by
  obtain ⟨a, cap, rfl, h4, h5, h6, h7⟩ := s
  refine ⟨_, _, rfl, by omega, by omega, ?_, fun i hi' => ?_⟩
  · rw [List.length_take, List.length_drop, h6]
    have := Nat.mul_le_mul_right k (show lo + (hi - lo) ≤ m by omega)
    rw [Nat.add_mul] at this
    omega
  · rw [List.length_take, List.length_drop] at hi'
    have hlt : i < (hi - lo) * k := by omega
    have hpos : 0 < (hi - lo) * k := by omega
    have hlohi : lo < hi := by
      rcases Nat.lt_or_ge lo hi with h' | h'
      · exact h'
      · rw [show hi - lo = 0 by omega, Nat.zero_mul] at hpos; omega
    obtain ⟨b, o, ha, hc⟩ := h7 (lo * k + i) (by omega)
    subst ha
    refine ⟨b, o + lo * k, by rw [if_neg (by omega)]; simp [jZ], ?_⟩
    rw [List.getElem?_take, if_pos hlt, List.getElem?_drop, ← hc, Nat.add_assoc]
theorem Us.sub3 {k : IntKind} {h : Mem} {v : Value} {xs : List Nat} (s : Us k h v xs) {lo hi mx : Nat} (h1 : lo ≤ hi) (h2 : hi ≤ mx) (h3 : mx ≤ xs.length) : Us k h (jU 1 v lo hi mx) ((xs.drop lo).take (hi - lo)) := by
  have := s.sl.sub3 h1 h2 h3
  simp only [Nat.mul_one] at this
  refine ⟨?_, fun x hx => s.lt x (List.mem_of_mem_drop (List.mem_of_mem_take hx))⟩
  have hl : ((xs.drop lo).take (hi - lo)).length = hi - lo := by rw [List.length_take, List.length_drop]; omega
  rw [hl]
  simpa [us] using this
theorem St.own_shape {E : Nat} {k : IntKind} {v : Value} {xs : List Nat} {w : World} (S : St w0 h0 L h w) (hm : .us E k v xs ∈ L) : ∃ a cap, v = .slice a xs.length cap ∧ xs.length ≤ cap ∧ cap ≤ maxLen ∧ (0 < xs.length → ∃ g, a = some ⟨g, 0, none⟩) := by
  obtain ⟨hl, hr⟩ := S.ok _ hm
  rcases hr with ⟨rfl, h0'⟩ | ⟨g, cap, cur, rfl, hb, hg, hn, hcm, hcs, ht⟩
  · exact ⟨none, 0, by rw [h0'], by omega, by omega, fun h => by omega⟩
  · exact ⟨_, cap, rfl, hn, hcm, fun _ => ⟨g, rfl⟩⟩
theorem St.own_self {E : Nat} {k : IntKind} {v : Value} {xs : List Nat} {w : World} (S : St w0 h0 L h w) (hm : .us E k v xs ∈ L) : v = gG 1 v 0 xs.length := by
  obtain ⟨a, cap, rfl, h1, h2, h3⟩ := S.own_shape hm
  simp only [gG, Nat.zero_mul, Nat.sub_zero]
  by_cases hc : cap = 0
  · rw [if_pos hc]
  · rw [if_neg hc]
    cases a with
    | none => rfl
    | some x =>
      obtain ⟨b, o, sp⟩ := x
      simp [Addr.add]
theorem mR {E : Nat} {k : IntKind} {v : Value} {xs : List Nat} {t E' : TypeId} {x lo : Operand} {p : Int} (hm : .us E k v xs ∈ L) (i : Nat) (ht : P.underlying t = some (.slice E')) (hsz : ∀ w, (Go.sizeOf E').run P w = .ok 1 w) (hx : yK e x = some v) (hl : yK e lo = some (vI p))
    (hp : p = (i : Int)) (h1 : i ≤ xs.length) : OpV P n w0 h0 ⟨ds, .slice t x (some lo) none none, ty, ps, af, gd⟩ e L h (gG 1 v i xs.length) := by
  intro a w Ev S
  obtain ⟨ad, cap, hv, hc, _⟩ := S.own_shape hm
  exact bO i ht hsz hx hl ⟨ad, cap, hv, hc⟩ hp h1 a w Ev S
theorem s2 {t E : TypeId} {w : World} (ht : P.underlying t = some (.slice E)) (hsz : ∀ w, (Go.sizeOf E).run P w = .ok 1 w) (a : Option Addr) (m cap lo hi mx : Nat) (h1 : lo ≤ hi) (h2 : hi ≤ mx) (h3 : mx ≤ cap) :
    (Instr.sliceAt t (.slice a m cap) (some (vI lo)) (some (vI hi)) (some (vI mx))).run P w = .ok (jU 1 (.slice a m cap) lo hi mx) w := by
  simp [Instr.sliceAt, Instr.slice, run_underlying ht, Instr.sliceBounds, Instr.sliceBound, asIntOf, vI, hsz, jU, h1, h2, h3]
theorem x6 {t E : TypeId} {w : World} (ht : P.underlying t = some (.slice E)) (hsz : ∀ w, (Go.sizeOf E).run P w = .ok 1 w) (a : Option Addr) (m cap hi mx : Nat) (h2 : hi ≤ mx) (h3 : mx ≤ cap) :
    (Instr.sliceAt t (.slice a m cap) none (some (vI hi)) (some (vI mx))).run P w = .ok (jU 1 (.slice a m cap) 0 hi mx) w := by
  simp [Instr.sliceAt, Instr.slice, run_underlying ht, Instr.sliceBounds, Instr.sliceBound, asIntOf, vI, hsz, jU, h2, h3]
theorem eR {E : Nat} {k : IntKind} {v : Value} {xs : List Nat} {t E' : TypeId} {x lo hi mx : Operand} {p q r : Int} (hm : .us E k v xs ∈ L) (i j l : Nat) (ht : P.underlying t = some (.slice E')) (hsz : ∀ w, (Go.sizeOf E').run P w = .ok 1 w) (hx : yK e x = some v) (hl : yK e lo = some (vI p)) (hh : yK e hi = some (vI q)) (hmx : yK e mx = some (vI r))
    (hp : p = (i : Int)) (hq : q = (j : Int)) (hr : r = (l : Int)) (h1 : i ≤ j) (h2 : j ≤ l) (h3 : l ≤ xs.length) : OpV P n w0 h0 ⟨ds, .slice t x (some lo) (some hi) (some mx), ty, ps, af, gd⟩ e L h (jU 1 v i j l) := by
  subst hp; subst hq; subst hr
  intro a w Ev S
  obtain ⟨ad, cap, rfl, hc, _⟩ := S.own_shape hm
  have := s2 (P := P) (w := w) ht hsz ad xs.length cap i j l h1 h2 (by omega)
  simp [execOp, Ev.eval hx, Ev.eval hl, Ev.eval hh, Ev.eval hmx, this]
theorem mS {E : Nat} {k : IntKind} {v : Value} {xs : List Nat} {t E' : TypeId} {x hi mx : Operand} {q r : Int} (hm : .us E k v xs ∈ L) (j l : Nat) (ht : P.underlying t = some (.slice E')) (hsz : ∀ w, (Go.sizeOf E').run P w = .ok 1 w) (hx : yK e x = some v) (hh : yK e hi = some (vI q)) (hmx : yK e mx = some (vI r))
    (hq : q = (j : Int)) (hr : r = (l : Int)) (h2 : j ≤ l) (h3 : l ≤ xs.length) : OpV P n w0 h0 ⟨ds, .slice t x none (some hi) (some mx), ty, ps, af, gd⟩ e L h (jU 1 v 0 j l) := by
  subst hq; subst hr
  intro a w Ev S
  obtain ⟨ad, cap, rfl, hc, _⟩ := S.own_shape hm
  have := x6 (P := P) (w := w) ht hsz ad xs.length cap j l h2 (by omega)
  simp [execOp, Ev.eval hx, Ev.eval hh, Ev.eval hmx, this]
theorem bJ {E : Nat} {k : IntKind} {v u : Value} {xs : List Nat} {t E' : TypeId} {x y : Operand} {q : Int} {lo : Nat} (hm : .us E k v xs ∈ L) (hu : u = gG 1 v lo xs.length) (i : Nat) (ht : P.underlying t = some (.slice E')) (hsz : ∀ w, (Go.sizeOf E').run P w = .ok 1 w) (hx : yK e x = some u) (hy : yK e y = some (vI q))
    (hq : q = (i : Int)) (hi : lo + i < xs.length) : OpV P n w0 h0 ⟨ds, .indexAddr t x y, ty, ps, af, gd⟩ e L h (xD 1 v (lo + i)) := by
  subst hq; subst hu
  intro a w Ev S
  obtain ⟨ad, cap, rfl, hc, hc2, hg⟩ := S.own_shape hm
  obtain ⟨g, rfl⟩ := hg (by omega)
  have hcl : ¬ cap = lo := by omega
  have h2 : (i : Int) < ((xs.length - lo : Nat) : Int) := by omega
  have h3 : (0 : Int) ≤ (i : Int) := by omega
  simp only [gG, if_neg hcl, Option.map_some, jZ, Nat.mul_one, Nat.zero_add] at hx
  simp [execOp, Ev.eval hx, Ev.eval hy, Instr.indexAt, asIntOf, vI, run_underlying ht, h2, h3, hsz, xD, jZ]
  intro hge
  omega
theorem gl_shape {ops : Array Oper} {l : List Oper} {E : Nat} {k : IntKind} {v : Value} {xs : List Nat} (hm : .us E k v xs ∈ L) (k' : ∀ a cap, v = .slice a xs.length cap → xs.length ≤ cap → GL P n w0 h0 ops Q l e L h) : GL P n w0 h0 ops Q l e L h := by
  intro a w Ev S
  obtain ⟨ad, cap, hv, hc, _⟩ := S.own_shape hm
  exact k' ad cap hv hc a w Ev S
theorem k9 {ops : Array Oper} {l : List Oper} {A B : List Res} {r : Res} (k' : GL P n w0 h0 ops Q l e (r :: (A ++ B)) h) : GL P n w0 h0 ops Q l e (A ++ r :: B) h :=
  fun a w Ev S => k' a w Ev (S.perm List.perm_middle)
theorem ov_callx {f : Nat} {xs : List Operand} {ts : Array TypeId} {vs : List Value} {v : Value} (hcall : ∀ w, (callFunc f vs.toArray).run P w = .ok (.value v) w) (hvs : pM e xs vs) :
    OpV P n w0 h0 ⟨ds, .call { callee := .value (.func f), args := xs.toArray, argTypes := ts }, ty, ps, af, gd⟩ e L h v := by
  intro a w Ev S
  have hargs : xs.toArray.map a.eval = vs.toArray := by rw [List.map_toArray, Ev.evals hvs]
  simp only [execOp, resolve, Act.eval]
  simp [Deferred.ofValue, invoke, hcall, hargs]
theorem jG.nil : jG P n [] := fun x hx => by cases hx
theorem jG.cons {i d E : Nat} {cs : List Value} {al : Als} (hd : Nat.ble (d + 1) n = true) (hz : ∀ w, ∃ z, (zeroValue E).run P w = .ok z w ∧ z.cells = cs.toArray) (h : jG P n al) : jG P n ((i, (d, E, cs)) :: al) := by
  intro x hx
  rcases List.mem_cons.1 hx with rfl | hx
  · exact ⟨Nat.le_of_ble_eq_true hd, hz⟩
  · exact h x hx
theorem uT {E : TypeId} {i : TypeInfo} {z : Value} {cs : List Value} (hi : P.info? E = some i) (hz : i.zero = some z) (hc : z.cells = cs.toArray) (w : World) : ∃ z, (zeroValue E).run P w = .ok z w ∧ z.cells = cs.toArray :=
  ⟨z, by simp [zeroValue, typeInfo, hi, hz], hc⟩
theorem jY {e : List (Nat × Value)} {al : Als} : ∀ x ∈ ([] : Als), al.lookup x.1 = some x.2 ∧ e.lookup x.2.1 = none := fun x hx => by cases hx
theorem uV {e : List (Nat × Value)} {al al' : Als} {y : Nat × (Nat × TypeId × List Value)} (h1 : al.lookup y.1 = some y.2) (h2 : e.lookup y.2.1 = none) (h : ∀ x ∈ al', al.lookup x.1 = some x.2 ∧ e.lookup x.2.1 = none) : ∀ x ∈ y :: al', al.lookup x.1 = some x.2 ∧ e.lookup x.2.1 = none := by
  intro x hx
  rcases List.mem_cons.1 hx with rfl | hx
  · exact ⟨h1, h2⟩
  · exact h x hx
end
end Bk
namespace Bk
set_option linter.unusedVariables false
set_option linter.unusedSimpArgs false
open Go Go.RowKit
open Classical
noncomputable def sg (s : Prop) (n : Nat) : Int := if s then -(n : Int) else n
theorem pO {s : Prop} (h : s) (n : Nat) : sg s n = -(n : Int) := if_pos h
theorem pP {s : Prop} (h : ¬ s) (n : Nat) : sg s n = n := if_neg h
theorem cV (s : Prop) (n : Nat) : (sg s n).natAbs = n := by
  by_cases h : s
  · rw [pO h]; omega
  · rw [pP h]; omega
theorem sg_zero (s : Prop) : sg s 0 = 0 := by
  by_cases h : s
  · rw [pO h]; omega
  · rw [pP h]; omega
theorem sg_neg (s : Prop) (n : Nat) : sg s n < 0 ↔ s ∧ n ≠ 0 := by
  by_cases h : s
  · rw [pO h]; exact ⟨fun h1 => ⟨h, by omega⟩, fun h1 => by omega⟩
  · rw [pP h]; exact ⟨fun h1 => by omega, fun h1 => absurd h1.1 h⟩
theorem sg_div (s : Prop) {n g : Nat} (h : g ∣ n) : sg s n / (g : Int) = sg s (n / g) := by
  by_cases hs : s
  · rw [pO hs, pO hs]
    obtain ⟨k, rfl⟩ := h
    rcases Nat.eq_zero_or_pos g with h0 | h0
    · subst h0; simp
    · rw [Nat.mul_div_cancel_left _ h0, Int.natCast_mul, ← Int.mul_neg, Int.mul_ediv_cancel_left _ (by omega)]
  · rw [pP hs, pP hs]; omega
theorem sg_num (q : Rat) : sg (q.num < 0) q.num.natAbs = q.num := by
  by_cases h : q.num < 0
  · rw [pO h]; omega
  · rw [pP h]; omega
def vK (d : Nat) : Nat := if d = 1 then 0 else d
theorem sK : vK 1 = 0 := rfl
theorem sW {d : Nat} (h : d ≠ 1) : vK d = d := if_neg h
theorem pE {d : Nat} (h0 : d ≠ 0) : zF (vK d) = [] ↔ d = 1 := by
  by_cases h : d = 1
  · subst h; rw [sK, wK]; simp
  · rw [sW h]
    exact ⟨fun e => by have := wL.2 h0; rw [e] at this; simp at this, fun e => absurd e h⟩
theorem uF (q : Rat) : (if zF (vK q.den) = [] then [1] else zF (vK q.den)) = zF q.den := by
  by_cases h : q.den = 1
  · rw [if_pos ((pE q.den_nz).2 h), h, jW (by omega) (by omega)]
  · rw [if_neg (fun e => h ((pE q.den_nz).1 e)), sW h]
def vQ (h : Mem) (v : Value) (q : Rat) : Prop := ∃ vn vd, v = .agg #[vB (q.num < 0), vn, vd] ∧ Us .u32 h vn (zF q.num.natAbs) ∧ Us .u32 h vd (zF (vK q.den))
theorem zb : vB ((0 : Rat).num < 0) = .bool false := yX (by decide)
theorem nI (h : Mem) : Us .u32 h (.slice none 0 0) (zF (0 : Rat).num.natAbs) := by
  have : zF (0 : Rat).num.natAbs = [] := wK
  rw [this]; exact Us.nil _ _
theorem nJ (h : Mem) : Us .u32 h (.slice none 0 0) (zF (vK (0 : Rat).den)) := by
  have : zF (vK (0 : Rat).den) = [] := wK
  rw [this]; exact Us.nil _ _
theorem vQ.zero (h : Mem) : vQ h (.agg #[vB ((0 : Rat).num < 0), .slice none 0 0, .slice none 0 0]) 0 := ⟨_, _, rfl, nI _, nJ _⟩
theorem lZ {s : Prop} {n d : Nat} (hd : d ≠ 0) : (mkRat (sg s n) d).num = sg s (n / Nat.gcd n d) := by
  rw [Rat.num_mkRat, if_neg hd, cV, Nat.gcd_comm]
  exact sg_div s (Nat.gcd_dvd_left n d)
theorem iS {s : Prop} {n d : Nat} (hd : d ≠ 0) : (mkRat (sg s n) d).den = d / Nat.gcd n d := by
  rw [Rat.den_mkRat, if_neg hd, cV, Nat.gcd_comm]
theorem vQ.make {h : Mem} {s : Prop} {n d : Nat} {vn vd : Value} (hn0 : n ≠ 0) (hd0 : d ≠ 0) (hn : Us .u32 h vn (zF (n / Nat.gcd n d))) (hd : Us .u32 h vd (zF (vK (d / Nat.gcd n d)))) : vQ h (.agg #[vB s, vn, vd]) (mkRat (sg s n) d) := by
  have hg : n / Nat.gcd n d ≠ 0 := by
    have h1 := Nat.gcd_dvd_left n d
    have h2 := Nat.gcd_pos_of_pos_left d (Nat.pos_of_ne_zero hn0)
    exact Nat.ne_of_gt (Nat.div_pos (Nat.le_of_dvd (Nat.pos_of_ne_zero hn0) h1) h2)
  refine ⟨vn, vd, ?_, ?_, ?_⟩
  · have : vB ((mkRat (sg s n) d).num < 0) = vB s := by
      rw [lZ hd0]
      exact pR ⟨fun h => ((sg_neg _ _).1 h).1, fun h => (sg_neg _ _).2 ⟨h, hg⟩⟩
    rw [this]
  · rw [lZ hd0, cV]; exact hn
  · rw [iS hd0]; exact hd
noncomputable def absQ (q : Rat) : Rat := if q.num < 0 then -q else q
theorem vQ.negB {h : Mem} {q : Rat} {vn vd : Value} (hn : Us .u32 h vn (zF q.num.natAbs)) (hd : Us .u32 h vd (zF (vK q.den))) : vQ h (.agg #[vB (¬ q.num < 0 ∧ (0 : Int) < ↑(zF q.num.natAbs).length), vn, vd]) (-q) := by
  refine ⟨vn, vd, ?_, ?_, ?_⟩
  · have : vB ((-q).num < 0) = vB (¬ q.num < 0 ∧ (0 : Int) < ↑(zF q.num.natAbs).length) := by
      have h1 := wL (n := q.num.natAbs)
      rw [Rat.neg_num]
      exact pR ⟨fun h => ⟨by omega, by omega⟩, fun h => by omega⟩
    rw [this]
  · rw [Rat.neg_num, Int.natAbs_neg]; exact hn
  · rw [Rat.neg_den]; exact hd
theorem oU {m n k : Nat} (h1 : (zF m).length ≤ k) (h2 : (zF n).length ≤ k) : (zF (m + n)).length ≤ k + 1 := by
  refine uN ?_
  have a1 := Nat.lt_of_lt_of_le (uD m) (Nat.pow_le_pow_right (by decide) h1)
  have a2 := Nat.lt_of_lt_of_le (uD n) (Nat.pow_le_pow_right (by decide) h2)
  rw [Nat.pow_succ]
  generalize 4294967296 ^ k = p at *
  omega
theorem putL {xs : List Nat} {lo n : Nat} (h : lo + 1 ≤ xs.length) (h0 : n ≠ 0) (hn : n < 4294967296) : xs.set lo n = xs.take lo ++ zF n ++ xs.drop (lo + (zF n).length) := by
  rw [jW h0 hn, List.set_eq_take_append_cons_drop, if_pos (by omega)]
  simp
theorem putL2 {xs : List Nat} {lo n : Nat} (h : lo + 2 ≤ xs.length) (hn : n < 18446744073709551616) (hn' : 4294967296 ≤ n) : (xs.set lo (n % 4294967296)).set (lo + 1) (n / 4294967296) = xs.take lo ++ zF n ++ xs.drop (lo + (zF n).length) := by
  have e : zF n = [n % 4294967296, n / 4294967296] := by rw [jO (by omega), jW (t := n / 4294967296) (by omega) (by omega)]
  rw [e]
  apply List.ext_getElem?
  intro i
  simp only [List.getElem?_set, List.length_set, List.getElem?_append, List.length_append, List.length_take, List.length_cons, List.length_nil, List.getElem?_take, List.getElem?_drop]
  rcases Nat.lt_trichotomy i lo with hi | hi | hi
  · rw [if_neg (by omega), if_neg (by omega), if_pos (by omega), if_pos (by omega), if_pos (by omega)]
  · subst hi
    rw [if_neg (by omega), if_pos rfl, if_pos (by omega), if_pos (by omega), if_neg (by omega)]
    simp [show min i xs.length = i by omega]
  · by_cases h1 : i = lo + 1
    · subst h1
      rw [if_pos rfl, if_pos (by omega), if_pos (by omega), if_neg (by omega)]
      simp [show min lo xs.length = lo by omega]
    · rw [if_neg (by omega), if_neg (by omega), if_neg (by omega)]
      congr 1
      omega
noncomputable def rz (s : Prop) (n : Rat) : Rat := if s then -n else n
theorem pW {s : Prop} (h : s) (n : Rat) : rz s n = -n := if_pos h
theorem pX {s : Prop} (h : ¬ s) (n : Rat) : rz s n = n := if_neg h
theorem tF (s : Prop) (n d : Nat) : mkRat (sg s n) d = rz s n / d := by
  rw [Rat.mkRat_eq_div]
  by_cases h : s
  · rw [pO h, pW h, Rat.intCast_neg]; rfl
  · rw [pP h, pX h]; rfl
theorem jJ (q : Rat) : mkRat (sg (q.num < 0) q.num.natAbs) q.den = q := by rw [sg_num, Rat.mkRat_self]
theorem tX {d : Nat} (h : d ≠ 0) : (d : Rat) ≠ 0 := fun e => h (Rat.natCast_eq_zero_iff.1 e)
theorem aT (s : Prop) (d : Nat) : mkRat (sg s 0) d = 0 := by rw [sg_zero, Rat.zero_mkRat]
theorem oM (s : Prop) (n : Nat) : mkRat (sg s n) 0 = 0 := by rw [Rat.mkRat_zero]
theorem dJ {s t : Prop} (h : s ↔ t) (n d : Nat) : mkRat (sg s n) d = mkRat (sg t n) d := by rw [propext h]
theorem mk_add (s : Prop) {n m d e : Nat} (hd : d ≠ 0) (he : e ≠ 0) : mkRat (sg s n) d + mkRat (sg s m) e = mkRat (sg s (n * e + m * d)) (d * e) := by
  rw [tF, tF, tF, Rat.natCast_mul, Rat.natCast_add, Rat.natCast_mul, Rat.natCast_mul]
  have h1 := tX hd
  have h2 := tX he
  generalize (d : Rat) = D at *
  generalize (e : Rat) = E at *
  generalize (n : Rat) = N at *
  generalize (m : Rat) = M at *
  by_cases h : s
  · rw [pW h, pW h, pW h]; grind
  · rw [pX h, pX h, pX h]; grind
theorem mk_sub {s t : Prop} (hst : ¬ (s ↔ t)) {n m d e : Nat} (hd : d ≠ 0) (he : e ≠ 0) (hle : m * d ≤ n * e) : mkRat (sg s n) d + mkRat (sg t m) e = mkRat (sg s (n * e - m * d)) (d * e) := by
  have hsub : ((n * e - m * d : Nat) : Rat) = n * e - m * d := by
    have h3 : n * e - m * d + m * d = n * e := by omega
    have h4 : ((n * e - m * d + m * d : Nat) : Rat) = ((n * e : Nat) : Rat) := by rw [h3]
    rw [Rat.natCast_add, Rat.natCast_mul, Rat.natCast_mul] at h4
    generalize ((n * e - m * d : Nat) : Rat) = X at *
    grind
  rw [tF, tF, tF, hsub, Rat.natCast_mul]
  have h1 := tX hd
  have h2 := tX he
  generalize (d : Rat) = D at *
  generalize (e : Rat) = E at *
  generalize (n : Rat) = N at *
  generalize (m : Rat) = M at *
  by_cases h : s
  · have ht : ¬ t := fun ht => hst ⟨fun _ => ht, fun _ => h⟩
    rw [pW h, pX ht, pW h]; grind
  · have ht : t := Classical.byContradiction fun ht => hst ⟨fun a => absurd a h, fun a => absurd a ht⟩
    rw [pX h, pW ht, pX h]; grind
theorem mk_sub' {s t : Prop} (hst : ¬ (s ↔ t)) {n m d e : Nat} (hd : d ≠ 0) (he : e ≠ 0) (hle : n * e ≤ m * d) : mkRat (sg s n) d + mkRat (sg t m) e = mkRat (sg t (m * d - n * e)) (d * e) := by
  rw [Rat.add_comm, mk_sub (fun h => hst h.symm) he hd hle, Nat.mul_comm e d]
theorem mk_mul (s t : Prop) (n m d e : Nat) : mkRat (sg s n) d * mkRat (sg t m) e = mkRat (sg (¬ (s ↔ t)) (n * m)) (d * e) := by
  rw [Rat.mkRat_mul_mkRat]
  congr 1
  by_cases h : s <;> by_cases h' : t
  · rw [pO h, pO h', pP (by simp [h, h']), Int.natCast_mul, Int.neg_mul_neg]
  · rw [pO h, pP h', pO (by simp [h, h']), Int.natCast_mul, Int.neg_mul]
  · rw [pP h, pO h', pO (by simp [h, h']), Int.natCast_mul, Int.mul_neg]
  · rw [pP h, pP h', pP (by simp [h, h']), Int.natCast_mul]
theorem mk_quo (s t : Prop) {n m d e : Nat} (hd : d ≠ 0) (hm : m ≠ 0) (he : e ≠ 0) : mkRat (sg s n) d / mkRat (sg t m) e = mkRat (sg (¬ (s ↔ t)) (n * e)) (d * m) := by
  rw [tF, tF, tF, Rat.natCast_mul, Rat.natCast_mul]
  have h1 := tX hd
  have h2 := tX hm
  have h3 := tX he
  generalize (d : Rat) = D at *
  generalize (e : Rat) = E at *
  generalize (n : Rat) = N at *
  generalize (m : Rat) = M at *
  by_cases h : s <;> by_cases h' : t
  · rw [pW h, pW h', pX (by simp [h, h'])]; grind
  · rw [pW h, pX h', pW (by simp [h, h'])]; grind
  · rw [pX h, pW h', pW (by simp [h, h'])]; grind
  · rw [pX h, pX h', pX (by simp [h, h'])]; grind
theorem mk_neg (s : Prop) (n d : Nat) : -mkRat (sg s n) d = mkRat (sg (¬ s) n) d := by
  rw [Rat.neg_mkRat]
  congr 1
  by_cases h : s
  · rw [pO h, pP (by simp [h])]; omega
  · rw [pP h, pO h]
theorem oN (s : Prop) (n d : Nat) {k : Nat} (hk : k ≠ 0) : mkRat (sg s (n * k)) (d * k) = mkRat (sg s n) d := by
  rw [tF, tF, Rat.natCast_mul, Rat.natCast_mul]
  have h1 := tX hk
  by_cases hd : d = 0
  · subst hd
    have : ((0 : Nat) : Rat) = 0 := rfl
    rw [this]
    grind
  have h2 := tX hd
  generalize (d : Rat) = D at *
  generalize (k : Rat) = K at *
  generalize (n : Rat) = N at *
  by_cases h : s
  · rw [pW h, pW h]; grind
  · rw [pX h, pX h]; grind
def lq (q : Rat) : Nat := max (zF q.num.natAbs).length (zF q.den).length
theorem vH (q : Rat) : (zF q.num.natAbs).length ≤ lq q := Nat.le_max_left _ _
theorem vL (q : Rat) : (zF q.den).length ≤ lq q := Nat.le_max_right _ _
theorem denL_len (d : Nat) : (zF (vK d)).length ≤ (zF d).length := by
  by_cases h : d = 1
  · subst h; rw [sK, wK]; simp
  · rw [sW h]; exact Nat.le_refl _
theorem wZ (q : Rat) : (zF (vK q.den)).length ≤ lq q := Nat.le_trans (denL_len _) (vL q)
theorem nA (q : Rat) : 0 < lq q := Nat.lt_of_lt_of_le (wL.2 q.den_nz) (vL q)
theorem bK {s : Prop} {n d k : Nat} (hn : (zF n).length ≤ k) (hd : (zF d).length ≤ k) (hk : 0 < k) : lq (mkRat (sg s n) d) ≤ k := by
  by_cases h0 : d = 0
  · subst h0
    rw [oM]
    refine Nat.max_le.2 ⟨?_, ?_⟩
    · have : (zF (0 : Rat).num.natAbs) = [] := wK
      rw [this]; simp
    · have : zF (0 : Rat).den = [1] := by rw [show (0 : Rat).den = 1 from rfl, jO (by omega), wK]
      rw [this]; exact hk
  · refine Nat.max_le.2 ⟨?_, ?_⟩
    · rw [lZ h0, cV]
      exact Nat.le_trans (xJ (Nat.div_le_self _ _)) hn
    · rw [iS h0]
      exact Nat.le_trans (xJ (Nat.div_le_self _ _)) hd
theorem nX : lq 0 = 1 := by
  have h := bK (s := False) (n := 0) (d := 0) (k := 1) (by rw [wK]; simp) (by rw [wK]; simp) (by omega)
  rw [oM] at h
  have := nA 0
  omega
theorem lq_neg (q : Rat) : lq (-q) = lq q := by unfold lq; rw [Rat.neg_num, Rat.neg_den, Int.natAbs_neg]
theorem oS (a b : Rat) : lq (a * b) ≤ lq a + lq b := by
  rw [← jJ a, ← jJ b, mk_mul, jJ, jJ]
  have h1 := vH a; have h2 := vH b; have h3 := vL a; have h4 := vL b; have h5 := nA a
  exact bK (Nat.le_trans (xN _ _) (by omega)) (Nat.le_trans (xN _ _) (by omega)) (by omega)
theorem rY (a b : Rat) : lq (a + b) ≤ lq a + lq b + 1 := by
  have h1 := vH a; have h2 := vH b; have h3 := vL a; have h4 := vL b; have h5 := nA a
  have h6 := xN a.num.natAbs b.den
  have h7 := xN b.num.natAbs a.den
  have h8 := xN a.den b.den
  have e : a + b = mkRat (sg (a.num < 0) a.num.natAbs) a.den + mkRat (sg (b.num < 0) b.num.natAbs) b.den := by rw [jJ, jJ]
  rw [e]
  by_cases h : (a.num < 0) ↔ (b.num < 0)
  · rw [dJ h, mk_add _ a.den_nz b.den_nz]
    refine bK (Nat.le_trans (oU ?_ ?_) (Nat.le_refl _)) (by omega) (by omega)
    · omega
    · omega
  · rcases Nat.le_total (b.num.natAbs * a.den) (a.num.natAbs * b.den) with hle | hle
    · rw [mk_sub h a.den_nz b.den_nz hle]
      exact bK (Nat.le_trans (xJ (Nat.sub_le _ _)) (by omega)) (by omega) (by omega)
    · rw [mk_sub' h a.den_nz b.den_nz hle]
      exact bK (Nat.le_trans (xJ (Nat.sub_le _ _)) (by omega)) (by omega) (by omega)
theorem oR (a b : Rat) : lq (a - b) ≤ lq a + lq b + 1 := by
  rw [Rat.sub_eq_add_neg]
  have := rY a (-b)
  rw [lq_neg] at this
  exact this
theorem oH {q : Rat} : q.num.natAbs ≠ 0 ↔ q ≠ 0 := by
  rw [Int.natAbs_ne_zero]; exact not_congr Rat.num_eq_zero
theorem lq_quo (a b : Rat) : lq (a / b) ≤ lq a + lq b := by
  have h1 := vH a; have h2 := vH b; have h3 := vL a; have h4 := vL b; have h5 := nA a
  by_cases hb : b = 0
  · subst hb
    have : a / 0 = 0 := by grind
    rw [this, nX]
    omega
  have e : a / b = mkRat (sg (a.num < 0) a.num.natAbs) a.den / mkRat (sg (b.num < 0) b.num.natAbs) b.den := by rw [jJ, jJ]
  rw [e, mk_quo _ _ a.den_nz (oH.2 hb) b.den_nz]
  exact bK (Nat.le_trans (xN _ _) (by omega)) (Nat.le_trans (xN _ _) (by omega)) (by omega)
noncomputable def kF (a b : Rat) : Int := if a < b then -1 else if a = b then 0 else 1
noncomputable def uY (q : Rat) : Int := if q = 0 then 0 else if q.num < 0 then -1 else 1
theorem lt_mk (s : Prop) {n m d e : Nat} (hd : d ≠ 0) (he : e ≠ 0) : mkRat (sg s n) d < mkRat (sg s m) e ↔ if s then m * d < n * e else n * e < m * d := by
  have e1 : ∀ x y : Nat, (x : Rat) < (y : Rat) ↔ x < y := fun x y => by rw [Rat.natCast_lt_natCast]
  have h1 : (0 : Rat) < (d : Rat) := by rw [show (0 : Rat) = ((0 : Nat) : Rat) from rfl, e1]; omega
  have h2 : (0 : Rat) < (e : Rat) := by rw [show (0 : Rat) = ((0 : Nat) : Rat) from rfl, e1]; omega
  rw [tF, tF, ← e1, ← e1, Rat.natCast_mul, Rat.natCast_mul, Rat.div_lt_iff h1]
  generalize (d : Rat) = D at *
  generalize (e : Rat) = E at *
  generalize (n : Rat) = N at *
  generalize (m : Rat) = M at *
  have e3 : ∀ X : Rat, X / E * D = X * D / E := fun X => by grind
  rw [e3, Rat.lt_div_iff h2]
  by_cases h : s
  · rw [pW h, pW h, if_pos h]; grind
  · rw [pX h, pX h, if_neg h]
theorem eq_mk (s : Prop) {n m d e : Nat} (hd : d ≠ 0) (he : e ≠ 0) : mkRat (sg s n) d = mkRat (sg s m) e ↔ n * e = m * d := by
  rw [Rat.mkRat_eq_iff hd he]
  by_cases h : s
  · rw [pO h, pO h]
    rw [Int.neg_mul, Int.neg_mul, Int.neg_inj, ← Int.natCast_mul, ← Int.natCast_mul]
    omega
  · rw [pP h, pP h, ← Int.natCast_mul, ← Int.natCast_mul]; omega
theorem cmp_mk (s : Prop) {n m d e : Nat} (hd : d ≠ 0) (he : e ≠ 0) : kF (mkRat (sg s n) d) (mkRat (sg s m) e) = if s then -(gP (n * e) (m * d)) else gP (n * e) (m * d) := by
  unfold kF gP
  by_cases h : s
  · simp only [lt_mk s hd he, eq_mk s hd he, if_pos h]
    by_cases h1 : m * d < n * e
    · rw [if_pos h1, if_neg (by omega), if_neg (by omega)]
    · rw [if_neg h1]
      by_cases h2 : n * e = m * d
      · rw [if_pos h2, if_neg (by omega)]; rfl
      · rw [if_neg h2, if_pos (by omega)]; rfl
  · simp only [lt_mk s hd he, eq_mk s hd he, if_neg h]
theorem g6 (a b : Rat) (h : (a.num < 0) ↔ (b.num < 0)) : kF a b = if a.num < 0 then -(gP (a.num.natAbs * b.den) (b.num.natAbs * a.den)) else gP (a.num.natAbs * b.den) (b.num.natAbs * a.den) := by
  have := cmp_mk (a.num < 0) (n := a.num.natAbs) (m := b.num.natAbs) a.den_nz b.den_nz
  rw [jJ, dJ h, jJ] at this
  rw [this]
  by_cases h : a.num < 0
  · rw [if_pos h, if_pos h]
  · rw [if_neg h, if_neg h]
theorem cH (q : Rat) : q.num < 0 ↔ q < 0 := by
  have := Rat.num_nonneg (q := q)
  rw [← Rat.not_le, ← this]; omega
theorem lG {a b : Rat} (h : uY a ≠ uY b) : kF a b = if uY a < uY b then -1 else 1 := by
  have ea : uY a = if a = 0 then 0 else if a < 0 then -1 else 1 := by unfold uY; simp only [cH]
  have eb : uY b = if b = 0 then 0 else if b < 0 then -1 else 1 := by unfold uY; simp only [cH]
  rw [ea, eb] at h ⊢
  unfold kF
  clear ea eb
  grind
theorem vY (q : Rat) : -1 ≤ uY q ∧ uY q ≤ 1 := by
  unfold uY
  split
  · omega
  · split <;> omega
theorem tG (a b : Rat) : -1 ≤ kF a b ∧ kF a b ≤ 1 := by
  unfold kF
  split
  · omega
  · split <;> omega
theorem g8 {a b : Rat} : kF a b < 0 ↔ a < b := by
  unfold kF
  by_cases h : a < b
  · simp [h]
  · by_cases h' : a = b
    · simp [h']
    · simp [h, h']
theorem g4 {a b : Rat} : 0 < kF a b ↔ b < a := by
  unfold kF
  by_cases h : a < b
  · simp [h]; grind
  · by_cases h' : a = b
    · simp [h']
    · simp [h, h']; grind
theorem cmpQ_zero {a b : Rat} : kF a b = 0 ↔ a = b := by
  unfold kF
  by_cases h : a < b
  · simp [h]; grind
  · by_cases h' : a = b
    · simp [h']
    · simp [h, h']
def kR (q : Rat) : Prop := (zF q.num.natAbs).length ≤ 1 ∧ (zF (vK q.den)).length ≤ 1
theorem t8 {q : Rat} (h : (1 : Int) < ↑(zF q.num.natAbs).length ∨ (1 : Int) < ↑(zF (vK q.den)).length) : ¬ kR q := fun ⟨h1, h2⟩ => by omega
theorem smallQ_of {q : Rat} (h : ¬ ((1 : Int) < ↑(zF q.num.natAbs).length ∨ (1 : Int) < ↑(zF (vK q.den)).length)) : kR q := ⟨by omega, by omega⟩
theorem sT {n : Nat} (h : (zF n).length ≤ 1) : n < 4294967296 := by
  have := Nat.lt_of_lt_of_le (uD n) (Nat.pow_le_pow_right (by decide) h)
  omega
theorem denL_one {d : Nat} (h : (↑(zF (vK d)).length : Int) = 1) : (zF (vK d)).getD 0 0 = d := by
  by_cases h1 : d = 1
  · subst h1; rw [sK, wK] at h; simp at h
  · rw [sW h1] at h ⊢
    have h3 := sT (n := d) (by omega)
    have h4 : d ≠ 0 := wL.1 (by omega)
    rw [jW h4 h3]; rfl
theorem denL_zero {d : Nat} (h0 : d ≠ 0) (h : ¬ (↑(zF (vK d)).length : Int) = 1) (h1 : (zF (vK d)).length ≤ 1) : d = 1 := by
  by_cases h2 : d = 1
  · exact h2
  · rw [sW h2] at h h1
    have := wL.2 h0
    omega
theorem denL_nil {q : Rat} (h : ¬ (↑(zF (vK q.den)).length : Int) = 1) (hs : kR q) : q.den = 1 := denL_zero q.den_nz h hs.2
theorem kP {q : Rat} (h : kR q) : q.num.natAbs < 4294967296 := sT h.1
theorem kQ {q : Rat} (h : kR q) : q.den < 4294967296 := by
  by_cases h1 : q.den = 1
  · omega
  · have h2 := h.2
    rw [sW h1] at h2
    exact sT h2
noncomputable def pN (q : Rat) : Nat := if kR q then q.num.natAbs else 0
noncomputable def pD (q : Rat) : Nat := if kR q then q.den else 0
theorem eP {q : Rat} (h : kR q) : pN q = q.num.natAbs := if_pos h
theorem pN_f {q : Rat} (h : ¬ kR q) : pN q = 0 := if_neg h
theorem eQ {q : Rat} (h : kR q) : pD q = q.den := if_pos h
theorem pD_f {q : Rat} (h : ¬ kR q) : pD q = 0 := if_neg h
theorem rB {n : Nat} : vS n = 0 ↔ n = 0 := by
  unfold vS
  by_cases h : n = 0
  · simp [h]
  · simp [h]
theorem rZ {Y : Nat} : ((↑(zF Y).length : Int) = 1 ∧ (zF Y).getD 0 0 = 1) ↔ Y = 1 := by
  constructor
  · intro ⟨h1, h2⟩
    have h3 := sT (n := Y) (by omega)
    have h4 : Y ≠ 0 := wL.1 (by omega)
    rw [jW h4 h3] at h2
    exact h2
  · intro h
    subst h
    rw [jW (by omega) (by omega)]
    exact ⟨rfl, rfl⟩
theorem iZ {n : Nat} (h : ¬ (1 : Int) < ↑(vS n)) (h0 : n ≠ 0) : n = 1 := by
  have h1 := rX n
  have h2 := Nat.pow_le_pow_right (n := 2) (by decide) (show vS n ≤ 1 by omega)
  omega
theorem vQ.fin {h : Mem} {s : Prop} {n d : Nat} {vn vd : Value} (hn0 : n ≠ 0) (hd0 : d ≠ 0) (hn : Us .u32 h vn (zF (n / Nat.gcd n d))) (hd : Us .u32 h vd (zF (d / Nat.gcd n d))) (h1 : ¬ ((↑(zF (d / Nat.gcd n d)).length : Int) = 1 ∧ (zF (d / Nat.gcd n d)).getD 0 0 = 1)) : vQ h (.agg #[vB s, vn, vd]) (mkRat (sg s n) d) :=
  vQ.make hn0 hd0 hn (by rw [sW (fun e => h1 (rZ.2 e))]; exact hd)
theorem vQ.fin1 {h : Mem} {s : Prop} {n d : Nat} {vn : Value} (hn0 : n ≠ 0) (hd0 : d ≠ 0) (hn : Us .u32 h vn (zF (n / Nat.gcd n d))) (h1 : (↑(zF (d / Nat.gcd n d)).length : Int) = 1 ∧ (zF (d / Nat.gcd n d)).getD 0 0 = 1) : vQ h (.agg #[vB s, vn, .slice none 0 0]) (mkRat (sg s n) d) :=
  vQ.make hn0 hd0 hn (by rw [rZ.1 h1, sK, wK]; exact Us.nil _ _)
theorem lS : [1] = zF 1 := (jW (by omega) (by omega)).symm
theorem len_one : (zF 1).length = 1 := by rw [← lS]; rfl
theorem bL (m n : Nat) : (zF (Nat.gcd m n)).length ≤ max (zF m).length (zF n).length := by
  by_cases h : m = 0
  · subst h; rw [Nat.gcd_zero_left]; omega
  · have := xJ (Nat.gcd_le_left n (Nat.pos_of_ne_zero h))
    omega
end Bk
namespace Bk
set_option linter.unusedVariables false
set_option linter.unusedSimpArgs false
open Go Go.RowKit
open Classical
theorem rE {q : Rat} (h : q = 0) : uY q = 0 := if_pos h
theorem bZ {q : Rat} (h : q.num < 0) : uY q = -1 := by
  unfold uY
  rw [if_neg (fun e => by rw [e] at h; exact absurd h (by decide)), if_pos h]
theorem bY {q : Rat} (h : q ≠ 0) (h' : ¬ q.num < 0) : uY q = 1 := by unfold uY; rw [if_neg h, if_neg h']
theorem eS {q : Rat} (h : (↑(vS q.num.natAbs) : Int) = 0) : q = 0 := by
  have := (rB (n := q.num.natAbs)).1 (by omega)
  exact Rat.num_eq_zero.1 (by omega)
theorem iB {q : Rat} (h : q = 0) : (↑(vS q.num.natAbs) : Int) = 0 := by subst h; decide
theorem den_eq {a b : Rat} : zF (vK a.den) = zF (vK b.den) ↔ a.den = b.den := by
  refine ⟨fun h => ?_, fun h => by rw [h]⟩
  have h1 := bA h
  have ha := a.den_nz
  have hb := b.den_nz
  unfold vK at h1
  split at h1 <;> split at h1 <;> omega
theorem rat_eq {a b : Rat} (h1 : a.num = b.num) (h2 : a.den = b.den) : a = b := by
  rw [← Rat.mkRat_self a, ← Rat.mkRat_self b, h1, h2]
theorem y8 {a b : Rat} : (((a.num < 0 ↔ b.num < 0) ∧ zF a.num.natAbs = zF b.num.natAbs) ∧ zF (vK a.den) = zF (vK b.den)) ↔ a = b := by
  refine ⟨fun ⟨⟨h1, h2⟩, h3⟩ => rat_eq ?_ (den_eq.1 h3), fun h => by subst h; simp⟩
  have := bA h2
  omega
theorem y2 {a b : Rat} (h : ¬ uY a ≠ uY b) : a.num < 0 ↔ b.num < 0 := by
  have h := Classical.not_not.1 h
  by_cases h1 : a.num < 0 <;> by_cases h2 : b.num < 0
  · simp [h1, h2]
  · rw [bZ h1] at h
    by_cases h3 : b = 0
    · rw [rE h3] at h; omega
    · rw [bY h3 h2] at h; omega
  · rw [bZ h2] at h
    by_cases h3 : a = 0
    · rw [rE h3] at h; omega
    · rw [bY h3 h1] at h; omega
  · simp [h1, h2]
def cN (a b : Rat) : Int := gP (a.num.natAbs * b.den) (b.num.natAbs * a.den)
theorem f5 (a b : Rat) : -1 ≤ cN a b ∧ cN a b ≤ 1 := by
  unfold cN gP
  split
  · omega
  · split <;> omega
theorem cmpQ_cN {a b : Rat} (h : a.num < 0 ↔ b.num < 0) (hn : a.num < 0) : kF a b = -(cN a b) := by rw [g6 a b h, if_pos hn]; rfl
theorem g9 {a b : Rat} (h : a.num < 0 ↔ b.num < 0) (hn : ¬ a.num < 0) : kF a b = cN a b := by rw [g6 a b h, if_neg hn]; rfl
theorem cN_den {a b : Rat} (h : zF (vK a.den) = zF (vK b.den)) : cN a b = gP a.num.natAbs b.num.natAbs := by
  unfold cN gP
  rw [den_eq.1 h]
  have hp := Nat.pos_of_ne_zero b.den_nz
  by_cases h1 : a.num.natAbs < b.num.natAbs
  · rw [if_pos h1, if_pos (Nat.mul_lt_mul_of_pos_right h1 hp)]
  · rw [if_neg h1, if_neg (fun e => h1 (Nat.lt_of_mul_lt_mul_right e))]
    by_cases h2 : a.num.natAbs = b.num.natAbs
    · rw [if_pos h2, h2, if_pos rfl]
    · rw [if_neg h2, if_neg (fun e => h2 (Nat.eq_of_mul_eq_mul_right hp e))]
theorem qA {m n : Nat} (hm : m < 4294967296) (hn : n < 4294967296) : m * n ≤ 18446744065119617025 := by
  have := Nat.mul_le_mul (show m ≤ 4294967295 by omega) (show n ≤ 4294967295 by omega)
  omega
noncomputable def sgd (s : Prop) (b : Rat) : Rat := mkRat (sg s b.num.natAbs) b.den
theorem aB (b : Rat) : sgd (b.num < 0) b = b := jJ b
theorem sgd_neg (b : Rat) : sgd (¬ b.num < 0) b = -b := by
  unfold sgd
  rw [← mk_neg, jJ]
theorem lq_sgd (s : Prop) (b : Rat) : lq (sgd s b) ≤ lq b := bK (vH b) (vL b) (nA b)
theorem mB {a b : Rat} {s : Prop} (h : (a.num < 0) ↔ s) : a + sgd s b = mkRat (sg s (a.num.natAbs * b.den + b.num.natAbs * a.den)) (a.den * b.den) := by
  have := mk_add s (n := a.num.natAbs) (m := b.num.natAbs) a.den_nz b.den_nz
  rw [← dJ h a.num.natAbs, jJ] at this
  exact this
theorem nR {a b : Rat} {s : Prop} (h : ¬ ((a.num < 0) ↔ s)) (hle : b.num.natAbs * a.den ≤ a.num.natAbs * b.den) : a + sgd s b = mkRat (sg (a.num < 0) (a.num.natAbs * b.den - b.num.natAbs * a.den)) (a.den * b.den) := by
  have := mk_sub h (n := a.num.natAbs) (m := b.num.natAbs) a.den_nz b.den_nz hle
  rw [jJ] at this
  exact this
theorem bW {a b : Rat} {s : Prop} (h : ¬ ((a.num < 0) ↔ s)) (hle : a.num.natAbs * b.den ≤ b.num.natAbs * a.den) : a + sgd s b = mkRat (sg s (b.num.natAbs * a.den - a.num.natAbs * b.den)) (a.den * b.den) := by
  have := mk_sub' h (n := a.num.natAbs) (m := b.num.natAbs) a.den_nz b.den_nz hle
  rw [jJ] at this
  exact this
theorem add_sgd1 {a b : Rat} {s : Prop} (h : (a.num < 0) ↔ s) (hd : a.den = b.den) : a + sgd s b = mkRat (sg s (a.num.natAbs + b.num.natAbs)) a.den := by
  rw [mB h, ← hd, ← Nat.add_mul, oN _ _ _ a.den_nz]
theorem sub_sgd1 {a b : Rat} {s : Prop} (h : ¬ ((a.num < 0) ↔ s)) (hd : a.den = b.den) (hle : b.num.natAbs ≤ a.num.natAbs) : a + sgd s b = mkRat (sg (a.num < 0) (a.num.natAbs - b.num.natAbs)) a.den := by
  rw [nR h (by rw [← hd]; exact Nat.mul_le_mul_right _ hle), ← hd, ← Nat.sub_mul, oN _ _ _ a.den_nz]
theorem sub_sgd1' {a b : Rat} {s : Prop} (h : ¬ ((a.num < 0) ↔ s)) (hd : a.den = b.den) (hle : a.num.natAbs ≤ b.num.natAbs) : a + sgd s b = mkRat (sg s (b.num.natAbs - a.num.natAbs)) a.den := by
  rw [bW h (by rw [← hd]; exact Nat.mul_le_mul_right _ hle), ← hd, ← Nat.sub_mul, oN _ _ _ a.den_nz]
theorem mul_eq (a b : Rat) : mkRat (sg (¬ ((a.num < 0) ↔ (b.num < 0))) (a.num.natAbs * b.num.natAbs)) (a.den * b.den) = a * b := by
  rw [← mk_mul, jJ, jJ]
theorem quo_eq (a : Rat) {b : Rat} (hb : b ≠ 0) : mkRat (sg (¬ ((a.num < 0) ↔ (b.num < 0))) (a.num.natAbs * b.den)) (a.den * b.num.natAbs) = a / b := by
  rw [← mk_quo _ _ a.den_nz (oH.2 hb) b.den_nz, jJ, jJ]
theorem tM {q : Rat} (h : (↑(zF q.num.natAbs).length : Int) = 0) : q = 0 := by
  refine Classical.byContradiction fun hne => ?_
  have := wL.2 (oH.2 hne)
  omega
theorem uK {q : Rat} : uY q = 0 ↔ q = 0 := by
  refine ⟨fun h => ?_, rE⟩
  unfold uY at h
  by_cases h1 : q = 0
  · exact h1
  · rw [if_neg h1] at h; split at h <;> omega
noncomputable def kL (a b : Rat) : Rat := if b < a then b else a
noncomputable def kI (a b : Rat) : Rat := if a < b then b else a
theorem minQ_t {a b : Rat} (h : kF b a < 0) : kL a b = b := if_pos (g8.1 h)
theorem minQ_f {a b : Rat} (h : ¬ kF b a < 0) : kL a b = a := if_neg (fun e => h (g8.2 e))
theorem maxQ_t {a b : Rat} (h : 0 < kF b a) : kI a b = b := if_pos (g4.1 h)
theorem maxQ_f {a b : Rat} (h : ¬ 0 < kF b a) : kI a b = a := if_neg (fun e => h (g4.2 e))
theorem lq_min (a b : Rat) : lq (kL a b) ≤ max (lq a) (lq b) := by unfold kL; split <;> omega
theorem lq_max (a b : Rat) : lq (kI a b) ≤ max (lq a) (lq b) := by unfold kI; split <;> omega
noncomputable def halfQ : Rat := mkRat (sg False 1) 2
theorem lq_half : lq halfQ ≤ 1 := bK (by rw [jW (by omega) (by omega)]; simp) (by rw [jW (by omega) (by omega)]; simp) (by omega)
noncomputable def midQ (a b : Rat) : Rat := (a + b) * halfQ
noncomputable def floorQ (q : Rat) : Rat := ((q.floor : Int) : Rat)
def kN (k : Int) : Nat := (min (max k 0) 4096).toNat
noncomputable def downQ (q : Rat) (k : Int) : Rat := mkRat (q * (2 ^ kN k : Nat)).floor (2 ^ kN k)
noncomputable def upQ (q : Rat) (k : Int) : Rat := -downQ (-q) k
theorem lq_quo' (a b : Rat) : lq (if b = 0 then 0 else a / b) ≤ lq a + lq b := by
  have := lq_quo a b
  have h1 := nA a
  split
  · rw [nX]; omega
  · exact this
theorem sub_ok {p : Prop} [Decidable p] (h : (if p then 7 else 0 : Int) = 0) : ¬ p := by
  intro hp
  rw [if_pos hp] at h
  omega
theorem sub_no {p : Prop} [Decidable p] (h : ¬ (if p then 7 else 0 : Int) = 0) : p := by
  refine Classical.byContradiction fun hp => h ?_
  rw [if_neg hp]
noncomputable def bitsQ (q : Rat) : Int := max (↑(vS q.num.natAbs) : Int) ↑(vS q.den)
theorem gC {n : Int} (h1 : -9223372036854775808 ≤ n) (h2 : n < 9223372036854775808) : (zF n.natAbs).length ≤ 2 := jR (by omega)
noncomputable def wU (n d : Int) : Rat := (n : Rat) / (d : Rat)
theorem oQ (n : Int) : wU n 0 = 0 := by
  unfold wU
  have : ((0 : Int) : Rat) = 0 := rfl
  rw [this]; grind
theorem int_eq (n : Int) : mkRat (sg (n < 0) n.natAbs) 1 = (n : Rat) := by
  have e : sg (n < 0) n.natAbs = n := by
    by_cases h : n < 0
    · rw [pO h]; omega
    · rw [pP h]; omega
  rw [e, Rat.mkRat_one]
theorem j6 {n d : Int} (hd : d ≠ 0) : mkRat (sg (¬ ((n < 0) ↔ (d < 0))) n.natAbs) d.natAbs = wU n d := by
  unfold wU
  rw [← int_eq n, ← int_eq d, mk_quo _ _ (by omega) (by omega) (by omega), Nat.mul_one, Nat.one_mul]
theorem lq_int (n : Int) (h1 : -9223372036854775808 ≤ n) (h2 : n < 9223372036854775808) : lq (n : Rat) ≤ 2 := by
  rw [← int_eq]
  exact bK (gC h1 h2) (by rw [len_one]; omega) (by omega)
theorem dN {n d : Int} (h1 : -9223372036854775808 ≤ n) (h2 : n < 9223372036854775808) (h3 : -9223372036854775808 ≤ d) (h4 : d < 9223372036854775808) : lq (wU n d) ≤ 2 := by
  by_cases hd : d = 0
  · subst hd; rw [oQ, nX]; omega
  · rw [← j6 hd]; exact bK (gC h1 h2) (gC h3 h4) (by omega)
def dV (ys : List Nat) : Nat := if ys = [] then 1 else val ys
def canon (xs : List Nat) : Prop := xs = [] ∨ xs.getD (xs.length - 1) 0 ≠ 0
def badP (xs ys : List Nat) : Prop := ((¬ canon xs) ∨ (¬ canon ys)) ∨ ((↑ys.length : Int) = 1 ∧ ys.getD 0 0 = 1)
def validP (s : Prop) (xs ys : List Nat) : Prop := ¬ badP xs ys ∧ ((xs = [] → ¬ s ∧ ys = []) ∧ (xs ≠ [] → ys = [] ∨ Nat.gcd (val xs) (val ys) = 1))
theorem k4 {xs : List Nat} : (↑xs.length : Int) = 0 ↔ xs = [] := ⟨fun h => List.eq_nil_of_length_eq_zero (by omega), fun h => by rw [h]; rfl⟩
theorem oX {g : Nat} (h : ¬ ((↑(zF g).length : Int) ≠ 1 ∨ (zF g).getD 0 0 ≠ 1)) : g = 1 :=
  rZ.1 ⟨Classical.not_not.1 fun e => h (.inl e), Classical.not_not.1 fun e => h (.inr e)⟩
theorem cmp_same {a b : Rat} : (((a.num < 0) ↔ (b.num < 0)) ∧ gP a.num.natAbs b.num.natAbs = 0) ∧ gP (vK a.den) (vK b.den) = 0 ↔ a = b := by
  rw [nE, nE, ← y8]
  constructor
  · rintro ⟨⟨h1, h2⟩, h3⟩
    exact ⟨⟨h1, by rw [h2]⟩, by rw [h3]⟩
  · rintro ⟨⟨h1, h2⟩, h3⟩
    exact ⟨⟨h1, bA h2⟩, bA h3⟩
theorem len_num {q : Rat} : (↑(zF q.num.natAbs).length : Int) = 0 ↔ q = 0 := by
  refine ⟨tM, fun h => ?_⟩
  subst h
  rw [show (0 : Rat).num.natAbs = 0 from rfl, wK]; rfl
theorem oG {q : Rat} (h : ¬ (↑(zF q.num.natAbs).length : Int) = 0) : q ≠ 0 := fun e => h (len_num.2 e)
theorem add_same {a b : Rat} (h : (a.num < 0) ↔ (b.num < 0)) : mkRat (sg (a.num < 0) (a.num.natAbs * b.den + b.num.natAbs * a.den)) (a.den * b.den) = a + b := by
  have := mB (a := a) (b := b) h
  rw [aB, dJ h.symm] at this
  exact this.symm
theorem add_ge {a b : Rat} (h : ¬ ((a.num < 0) ↔ (b.num < 0))) (hle : b.num.natAbs * a.den ≤ a.num.natAbs * b.den) : mkRat (sg (a.num < 0) (a.num.natAbs * b.den - b.num.natAbs * a.den)) (a.den * b.den) = a + b := by
  have := nR (a := a) (b := b) h hle
  rw [aB] at this
  exact this.symm
theorem add_lt {a b : Rat} (h : ¬ ((a.num < 0) ↔ (b.num < 0))) (hle : a.num.natAbs * b.den ≤ b.num.natAbs * a.den) : mkRat (sg (b.num < 0) (b.num.natAbs * a.den - a.num.natAbs * b.den)) (a.den * b.den) = a + b := by
  have := bW (a := a) (b := b) h hle
  rw [aB] at this
  exact this.symm
theorem t5 {h : Mem} {v : Value} {n : Int} (s : Us .u32 h v (zF n.natAbs)) : Us .u32 h v (zF (n : Rat).num.natAbs) := by
  rw [Rat.num_intCast]; exact s
theorem t6 {h : Mem} {n : Int} : Us .u32 h (.slice none 0 0) (zF (vK (n : Rat).den)) := by
  rw [Rat.den_intCast, sK, wK]; exact Us.nil _ _
theorem vQ.int {h : Mem} {v : Value} {n : Int} (s : Us .u32 h v (zF n.natAbs)) : vQ h (.agg #[vB (n < 0), v, .slice none 0 0]) (n : Rat) :=
  ⟨v, .slice none 0 0, by rw [Rat.num_intCast], t5 s, t6⟩
noncomputable def numQ (s : Prop) (xs ys : List Nat) : Rat := mkRat (sg s (val xs)) (dV ys)
end Bk
namespace Go.Proofs.YtghhjjmjpeehdaaGreat
open Bk Go
set_option linter.unusedVariables false
set_option linter.unusedSimpArgs false
set_option maxRecDepth 10000
theorem rat_one {w0 : World} {h0 : Mem}  (hs : MLe h0 (mem w0))  :
    Calls Tryz.prog 108 #[] w0 (Ret w0 h0 (fun h r => Us .u32 h r [1])) := by
 refine zP (n := 2) (e := []) (vs := []) Tryz.func108 rfl rfl (Nat.le_of_ble_eq_true rfl) hs trivial (zC (zA (asg rfl rfl (zD (zB (zC (zA (zK (tE (kd := .u32) (p := 1) Tryz.underlying28 uA rfl rfl rfl) rfl rfl rfl ?_))))))))
 intro v1 r1 hr1
 obtain rfl := hr1
 refine wC (by intro z hz; simp only [List.mem_singleton] at hz; subst hz; decide) ?_
 intro h1 hh1 h1
 refine asg rfl rfl (zD (zB (zR (yJ rfl rfl ?_))))
 exact h1
theorem gE {w0 : World} {h0 : Mem}  (hs : MLe h0 (mem w0)) {sa : Bool} {vna vda : Value} {na da : List Nat} (hna : Us .u32 h0 vna na) (hda : Us .u32 h0 vda da) :
    Calls Tryz.prog 127 #[.agg #[.bool sa, vna, vda]] w0 (Ret w0 h0 (fun h r => Us .u32 h r (if da = [] then [1] else da))) := by
 refine zP (n := 10) (e := [(0, .agg #[.bool sa, vna, vda])]) (vs := [.agg #[.bool sa, vna, vda]]) Tryz.func127 rfl rfl (Nat.le_of_ble_eq_true rfl) hs ⟨rfl, trivial⟩ (zC (zA (zK (wW (cs := [_, _, _]) rfl rfl) rfl rfl rfl ?_)))
 intro v1 r1 hr1
 obtain ⟨b1, rfl, rfl⟩ := hr1
 refine asg rfl rfl (zD (zB (zC (zC (zA (gv (zI Tryz.underlying30 rfl Tryz.sizeOf28 rfl) rfl (gv (zU (.head _) Tryz.isAgg28 rfl rfl) rfl (gv (yA Tryz.underlying28 rfl hda) rfl (gv (xZ (q := 0) rfl rfl) rfl (zD (zB ?_)))))))))))
 refine zO rfl (fun hc6 => ?_) (fun hc6 => ?_)
 ·
  refine zC (zA ?_)
  refine zM (vs := []) rfl rfl rfl rfl Tryz.call108 trivial (fun w hs => rat_one hs) ?_
  intro v7 h1 hh1 hr7
  rw [lS] at hr7
  have hlm7 := len_one
  refine asg rfl rfl (zD (zB (zR (zX (yJ rfl rfl ?_)))))
  rw [if_pos (List.eq_nil_of_length_eq_zero (by omega)), lS]
  exact hr7
 refine zL (zB (zC (zA (gv (zI Tryz.underlying30 rfl Tryz.sizeOf28 rfl) rfl (gv (zU (.head _) Tryz.isAgg28 rfl rfl) rfl (asg rfl rfl (zD (zB (zR (yJ rfl rfl ?_))))))))))
 rw [if_neg (fun h => hc6 (by rw [h]; rfl))]
 exact hda
theorem rT {w0 : World} {h0 : Mem}  (hs : MLe h0 (mem w0)) {qa : Rat} {vna vda : Value} (hna : Us .u32 h0 vna (zF qa.num.natAbs)) (hda : Us .u32 h0 vda (zF (vK qa.den))) (hl : (zF qa.num.natAbs).length ≤ 1099511627776) (hl' : (zF (vK qa.den)).length ≤ 1099511627776) :
    Calls Tryz.prog 105 #[.agg #[vB (qa.num < 0), vna, vda]] w0 (Ret w0 h0 (fun h r => vQ h r qa)) := by
 refine zP (n := 12) (e := [(0, .agg #[vB (qa.num < 0), vna, vda])]) (vs := [.agg #[vB (qa.num < 0), vna, vda]]) Tryz.func105 rfl rfl (Nat.le_of_ble_eq_true rfl) hs ⟨rfl, trivial⟩ (zC (zA (zK (wW (cs := [_, _, _]) rfl rfl) rfl rfl rfl ?_)))
 intro v1 r1 hr1
 obtain ⟨b1, rfl, rfl⟩ := hr1
 refine zK (vN (cs := [vB ((0 : Rat).num < 0), .slice none 0 0, .slice none 0 0]) wP rfl (by simp only [zb]; rfl)) rfl rfl rfl ?_
 intro v2 r2 hr2
 obtain ⟨b2, rfl, rfl⟩ := hr2
 refine zD (zB (zC ?_))
 refine yI 9 _ [] [(0, .q), (1, .q), (2, .q), (3, .q), (5, .q), (6, .q), (4, .c), (7, .c), (8, .c), (9, .t)] xI (fun x hx => by cases hx) (by kernel_rfl) (fun x hx => by cases hx) (fun r hr => hr) (w_q rfl (fun h' L' hh hR => zI Tryz.underlying30 rfl Tryz.sizeOf4 rfl) rfl (w_q rfl (fun h' L' hh hR => zU (hR _ (.tail _ (.head _))) Tryz.isAgg4 rfl rfl) rfl (w_q rfl (fun h' L' hh hR => zI Tryz.underlying30 rfl Tryz.sizeOf28 rfl) rfl (w_q rfl (fun h' L' hh hR => zU (hR _ (.tail _ (.head _))) Tryz.isAgg28 rfl rfl) rfl (w_q rfl (fun h' L' hh hR => zI Tryz.underlying30 rfl Tryz.sizeOf28 rfl) rfl (w_q rfl (fun h' L' hh hR => zU (hR _ (.tail _ (.head _))) Tryz.isAgg28 rfl rfl) rfl ?_))))))
 refine w_c rfl ?_
 refine rQ (vs := [_]) Tryz.call130 ⟨rfl, trivial⟩ (fun w hs => sE hs hna (by omega)) rfl ?_
 intro v7 h1 L7 hh1 hr7
 obtain rfl := hr7
 refine w_c rfl ?_
 replace hda := hda.mono hh1
 refine rQ (vs := [_]) Tryz.call130 ⟨rfl, trivial⟩ (fun w hs => sE hs hda (by omega)) rfl ?_
 intro v10 h2 L10 hh2 hr10
 obtain rfl := hr10
 refine w_c rfl ?_
 replace hna := hna.mono (hh1.trans hh2)
 refine aC (A := [_]) (by exact hna.lt) (by simp only [List.mem_cons, List.not_mem_nil, or_false]; rintro r (rfl | rfl) _ <;> simp) ?_
 intro h3 hh3 hc1
 replace hda := hda.mono (hh2.trans hh3)
 refine aC (A := []) (by exact hda.lt) (by simp only [List.mem_cons, List.not_mem_nil, or_false]; rintro r (rfl | rfl) _ <;> simp) ?_
 intro h4 hh4 hc2
 replace hc1 := hc1.mono hh4
 refine s_val (fun X => wN (ps' := [(0, _), (1, _), (2, _)]) (vs := [vB (qa.num < 0), v7, v10]) Tryz.underlying30 wP rfl (qE Tryz.underlying30) ⟨rfl, rfl, rfl, rfl, rfl, rfl, trivial⟩ (wX (A := []) (B := [_]) (C := [_, _]) (cs := [_]) (off := 0) (size := 1) rfl rfl rfl rfl rfl (wX (A := [_]) (B := [_]) (C := [_]) (cs := [_]) (off := 1) (size := 1) rfl rfl rfl rfl hc1.cells (wX (A := [_, _]) (B := [_]) (C := []) (cs := [_]) (off := 2) (size := 1) rfl rfl rfl rfl hc2.cells qD)))) rfl (gQ (A := []) (q' := .var b2 30 [vB (qa.num < 0), v7, v10]) rfl (yC (k := 0) (cs := [_, _, _]) (vs := [_, _, _]) rfl rfl rfl (ocr rfl (ocu hc1 (ocu hc2 oc0))) zZ (Nat.le_of_ble_eq_true rfl)) rfl (xB (zJ (e' := [(2, _)]) ⟨rfl, trivial⟩ (zB (zR (xX (fun E S => yP rfl (wS (cs := [_, _, _]) (.head _) Tryz.underlying30 rfl zZ rfl) E S) ?_))))))
 exact ⟨_, _, rfl, hc1, hc2⟩
end Go.Proofs.YtghhjjmjpeehdaaGreat
namespace Go.Proofs.YtghhjjmjpeehdaaGreat
open Bk Go
set_option linter.unusedVariables false
set_option linter.unusedSimpArgs false
set_option maxRecDepth 10000
theorem aD {w0 : World} {h0 : Mem}  (hs : MLe h0 (mem w0)) {v : Value} {xs : List Nat} (hv : Us .u32 h0 v xs) (hl : xs.length ≤ 2) :
    Calls Tryz.prog 131 #[v] w0 (Ret w0 h0 (fun _ r => r = vU .u64 (val xs))) := by
 have hf : Fit xs := hv.lt
 refine zP (n := 21) (e := [(0, v)]) (vs := [v]) Tryz.func131 rfl rfl (Nat.le_of_ble_eq_true rfl) hs ⟨rfl, trivial⟩ (zC (zA (asg (v := vU .u64 0) rfl rfl (zD (zB (zC (zA (asg (v := vU .u64 0) rfl rfl (zD (zB (zC (zC (zA ?_)))))))))))))
 refine mv rfl rfl (gv (yA Tryz.underlying28 rfl hv) rfl (gv (xT (q := 1) rfl rfl (by omega) (by omega)) rfl (asg rfl rfl (zD (zB (zS ?_))))))
 have hd0 : val (xs.drop xs.length) = 0 := by rw [List.drop_of_length_le (Nat.le_refl _)]; rfl
 refine wR (ι := Nat) (fun (j : (Nat)) => j ≤ xs.length) (fun (j : (Nat)) => [(0, v), (3, vU .u64 (val (xs.drop j))), (4, vI (↑j - 1))]) (fun (j : (Nat)) => []) (fun (j : (Nat)) => h0) (fun (j : (Nat)) => j) xs.length ?_ ⟨?_, ?_, ?_, trivial⟩ rfl rfl ?_
 ·
  exact Nat.le_refl _
 · exact rfl
 · exact congrArg some (congrArg (vU .u64) hd0.symm)
 · exact rfl
 intro j hx
 obtain hj := hx
 show GC _ _ _ _ _ _ [(0, v), (3, vU .u64 (val (xs.drop j))), (4, vI (↑j - 1))] [] h0
 refine zC (zC (zA (mv rfl rfl (gv (qL (q := 0) rfl rfl) rfl (zD (zB ?_))))))
 refine zO rfl (fun hc9 => ?_) (fun hc9 => ?_)
 ·
  refine zL (zB (zC (zS (zA (mv rfl rfl (gv (kH (k := .u64) (s := 32) (yk := .u64) (W := 18446744073709551616) rfl rfl rfl rfl) rfl (mv rfl rfl (mv rfl rfl (gv (yO (j - 1) Tryz.underlying28 Tryz.sizeOf124 rfl rfl hv (by omega) (by omega)) rfl (gv (yS Tryz.isAgg124 rfl hv (by omega)) rfl ?_))))))))))
  have hx1 := hv.get32 (j - 1)
  refine gv (xE (k := .u32) (k' := .u64) (W := 18446744073709551616) Tryz.underlying124 Tryz.underlying122 rfl rfl rfl (by omega)) rfl (gv (fP (k := .u64) rfl rfl rfl (by simp only [ub]; omega) (by simp only [ub]; omega)) rfl ?_)
  rw [fZ (by
        have h2 := jT (cO hf j)
        rw [List.length_drop] at h2
        have h3 : (4294967296 : Nat) ^ (xs.length - j) ≤ 4294967296 ^ 1 := Nat.pow_le_pow_right (by omega) (by omega)
        omega) hx1]
  refine asg rfl rfl (zD (yV (zJ (e' := [(0, _), (4, _), (3, _)]) ⟨rfl, rfl, rfl, trivial⟩ (zB (zA (mv rfl rfl (gv (xT (q := 1) rfl rfl (by omega) (by omega)) rfl (asg rfl rfl (zD ?_)))))))))
  refine yQ (j - 1) ?_ ?_ ⟨rfl, ?_, ?_, trivial⟩ rfl rfl
  ·
   omega
  ·
   omega
  ·
          rw [qU xs (j - 1) (by omega)]
          exact congrArg some (congrArg (vU .u64) (by rw [show j - 1 + 1 = j by omega]; omega))
  · exact congrArg some (congrArg vI (by omega))
 refine xQ (yE (yE (xO (zB (zC (zA (mv rfl rfl (asg rfl rfl (zD (zB (zR (yJ rfl rfl ?_))))))))))))
 rw [show j = 0 by omega]; rfl
theorem w4 {w0 : World} {h0 : Mem}  (hs : MLe h0 (mem w0)) {m n : Nat} (hm0 : m < 18446744073709551616) (hn0 : n < 18446744073709551616) :
    Calls Tryz.prog 147 #[vU .u64 m, vU .u64 n] w0 (Ret w0 h0 (fun _ r => r = vU .u64 (Nat.gcd m n))) := by
 refine zP (n := 12) (e := [(0, vU .u64 m), (1, vU .u64 n)]) (vs := [vU .u64 m, vU .u64 n]) Tryz.func147 rfl rfl (Nat.le_of_ble_eq_true rfl) hs ⟨rfl, rfl, trivial⟩ (zC (zA (asg (v := vU .u64 0) rfl rfl (zD (zB (zC (zS ?_)))))))
 refine wR (ι := Nat × Nat) (fun (x, y) => Nat.gcd x y = Nat.gcd m n ∧ x < 18446744073709551616 ∧ y < 18446744073709551616) (fun (x, y) => [(0, vU .u64 x), (1, vU .u64 y)]) (fun (x, y) => []) (fun (x, y) => h0) (fun (x, y) => y) (m, n) ?_ ⟨rfl, rfl, trivial⟩ rfl rfl ?_
 ·
  exact ⟨rfl, hm0, hn0⟩
 intro x hx
 obtain ⟨x, y⟩ := x
 obtain ⟨hg3, hm, hn⟩ := hx
 show GC _ _ _ _ _ _ [(0, vU .u64 x), (1, vU .u64 y)] [] h0
 refine zC (zC (zA (mv rfl rfl (gv (gH (k := .u64) (q := 0) rfl rfl) rfl (zD (zB ?_))))))
 refine zO rfl (fun hc6 => ?_) (fun hc6 => ?_)
 ·
  refine zL (zB (zS ?_))
  refine yI 6 _ [] [(0, .q), (1, .q), (2, .q), (3, .q), (4, .q), (5, .q)] xI (fun x hx => by cases hx) (by kernel_rfl) (fun x hx => by cases hx) (fun r hr => hr) (w_q rfl (fun h' L' hh hR => zG rfl) rfl (w_q rfl (fun h' L' hh hR => zG rfl) rfl (w_q rfl (fun h' L' hh hR => zG rfl) rfl (w_q rfl (fun h' L' hh hR => sG (k := .u64) rfl rfl (by omega)) rfl (w_q rfl (fun h' L' hh hR => zY rfl) rfl (w_q rfl (fun h' L' hh hR => zY rfl) rfl (xB (yV ?_))))))))
  refine yQ (y, x % y) ?_ ?_ ⟨rfl, rfl, trivial⟩ rfl rfl
  ·
   have hlt := Nat.mod_lt x (Nat.pos_of_ne_zero hc6)
   exact ⟨by rw [rI]; exact hg3, hn, by omega⟩
  dsimp only
  exact Nat.mod_lt _ (Nat.pos_of_ne_zero hc6)
 refine xQ (yE (yE (xO (zB (zC (zA (mv rfl rfl (asg rfl rfl (zD (zB (zR (yJ rfl rfl ?_))))))))))))
 have hy0 : y = 0 := Classical.not_not.1 hc6
 rw [hy0, Nat.gcd_zero_right] at hg3
 rw [hg3]
end Go.Proofs.YtghhjjmjpeehdaaGreat
namespace Go.Proofs.YtghhjjmjpeehdaaGreat
open Bk Go
set_option linter.unusedVariables false
set_option linter.unusedSimpArgs false
set_option maxRecDepth 10000
theorem iK {w0 w : World} {h0 h : Mem}  {v u : Value} {xs : List Nat} {L : List Res} {lo n : Nat} (hu : u = gG 1 v lo xs.length) (hlo : lo + 2 ≤ xs.length) (hn0 : n ≠ 0) (hn : n < 18446744073709551616) (hs : St w0 h0 (.us 124 .u32 v xs :: L) h w) :
    Calls Tryz.prog 148 #[u, vU .u64 n] w (rD w0 h0 (fun g r K => g = h ∧ K = .us 124 .u32 v (xs.take lo ++ zF n ++ xs.drop (lo + (zF n).length)) :: L ∧ r = vI ↑(zF n).length)) := by
 refine kK (n := 17) (e := [(0, u), (1, vU .u64 n)]) (vs := [u, vU .u64 n]) Tryz.func148 rfl rfl (Nat.le_of_ble_eq_true rfl) hs ⟨rfl, rfl, trivial⟩ (zC (zA (asg (v := vI (0)) rfl rfl (zD (zB (zC (zA (mv rfl rfl (mv rfl rfl (gv (vD (k := .u64) (k' := .u32) (W := 4294967296) Tryz.underlying122 Tryz.underlying124 rfl rfl rfl) rfl (gv (bJ (q := 0) (.head _) hu (0) Tryz.underlying28 Tryz.sizeOf124 rfl rfl rfl (by omega)) rfl (vJ Tryz.sizeOf124 rfl rfl (by omega) (zD ?_)))))))))))))
 refine zB (zC (zC (zA (mv rfl rfl (gv (qB (k := .u64) (s := 32) (yk := .u64) rfl rfl rfl (by simp only [ub]; omega)) rfl (gv (fJ (k := .u64) (q := 0) rfl rfl) rfl (zD (zB ?_))))))))
 refine zO rfl (fun hc11 => ?_) (fun hc11 => ?_)
 ·
  refine wH (e' := []) trivial (zC (zA (asg (v := vI (1)) rfl rfl (zD (zB (zR (zX (jK rfl rfl ?_))))))))
  have hn1 : n < 4294967296 := by omega
  refine ⟨rfl, ?_, by rw [jW hn0 hn1]; rfl⟩
  rw [Nat.mod_eq_of_lt hn1, Nat.add_zero, putL (by omega) hn0 hn1]
 refine zL (zB (zC (zA (mv rfl rfl (mv rfl rfl (gv (qB (k := .u64) (s := 32) (yk := .u64) rfl rfl rfl (by simp only [ub]; omega)) rfl (gv (vD (k := .u64) (k' := .u32) (W := 4294967296) Tryz.underlying122 Tryz.underlying124 rfl rfl rfl) rfl (gv (bJ (q := 1) (.head _) (by rw [List.length_set]; exact hu) (1) Tryz.underlying28 Tryz.sizeOf124 rfl rfl rfl (by rw [List.length_set]; omega)) rfl (vJ Tryz.sizeOf124 rfl rfl (by simp; omega) (zD (zJ (e' := []) trivial (zB (zC ?_)))))))))))))
 refine zA (asg (v := vI (2)) rfl rfl (zD (zB (zR (jK rfl rfl ?_)))))
 have hn1 : 4294967296 ≤ n := by omega
 have e1 : n / 2 ^ 32 % 4294967296 = n / 4294967296 := by omega
 refine ⟨rfl, ?_, ?_⟩
 · rw [e1, Nat.add_zero, putL2 hlo hn hn1]
 · rw [jO (by omega), jW (t := n / 4294967296) (by omega) (by omega)]; rfl
theorem tY {w0 : World} {h0 : Mem}  (hs : MLe h0 (mem w0)) {s : Prop} {n d : Nat} (hn : n < 18446744073709551616) (hd : d < 18446744073709551616) (hd0 : d ≠ 0) :
    Calls Tryz.prog 125 #[vB s, vU .u64 n, vU .u64 d] w0 (Ret w0 h0 (fun h r => vQ h r (mkRat (sg s n) d))) := by
 refine zP (n := 50) (e := [(0, vB s), (1, vU .u64 n), (2, vU .u64 d)]) (vs := [vB s, vU .u64 n, vU .u64 d]) Tryz.func125 rfl rfl (Nat.le_of_ble_eq_true rfl) hs ⟨rfl, rfl, rfl, trivial⟩ (zC (zA (zK (vN (cs := [vB ((0 : Rat).num < 0), .slice none 0 0, .slice none 0 0]) wP rfl (by simp only [zb]; rfl)) rfl rfl rfl ?_)))
 intro v6 r6 hr6
 obtain ⟨b6, rfl, rfl⟩ := hr6
 refine zD (zB (zC (zC (zA (mv rfl rfl (gv (fJ (k := .u64) (q := 0) rfl rfl) rfl (zD (zB ?_))))))))
 refine zO rfl (fun hc13 => ?_) (fun hc13 => ?_)
 ·
  refine zC (zA (gv (wN (ps' := []) (vs := [vB ((0 : Rat).num < 0), .slice none 0 0, .slice none 0 0]) Tryz.underlying30 wP rfl (qE Tryz.underlying30) trivial (by simp only [zb]; exact qD)) rfl (wT (A := []) (r' := .var b6 30 [vB ((0 : Rat).num < 0), .slice none 0 0, .slice none 0 0]) (yC (k := 0) (cs := [_, _, _]) (vs := [_, _, _]) rfl rfl rfl rfl zZ (Nat.le_of_ble_eq_true rfl)) rfl rfl rfl (zD (zB (zR (zX (xX (fun E S => yP rfl (wS (cs := [_, _, _]) (.head _) Tryz.underlying30 rfl zZ rfl) E S) ?_))))))))
  rw [hc13, aT]
  exact vQ.zero _
 have hn0 : n ≠ 0 := by omega
 refine zL (zB (zC (zA (mv rfl rfl (mv rfl rfl ?_)))))
 refine zM (vs := [_, _]) rfl rfl rfl rfl Tryz.call147 ⟨rfl, rfl, trivial⟩ (fun w hs => w4 hs (by omega) (by omega)) ?_
 intro v17 h1 hh1 hr17
 subst hr17
 refine asg rfl rfl ?_
 have hg0 : 0 < Nat.gcd n d := Nat.gcd_pos_of_pos_left d (by omega)
 have hn1 : n / Nat.gcd n d ≠ 0 := Nat.ne_of_gt (Nat.div_pos (Nat.le_of_dvd (by omega) (Nat.gcd_dvd_left n d)) hg0)
 have hd1 : d / Nat.gcd n d ≠ 0 := Nat.ne_of_gt (Nat.div_pos (Nat.le_of_dvd (by omega) (Nat.gcd_dvd_right n d)) hg0)
 have hn2 := Nat.div_le_self n (Nat.gcd n d)
 have hd2 := Nat.div_le_self d (Nat.gcd n d)
 refine zD (zB (zC ?_))
 refine yI 8 _ [] [(0, .q), (1, .q), (2, .q), (3, .q), (4, .q), (5, .q), (6, .q), (7, .q)] xI (fun x hx => by cases hx) (by kernel_rfl) (fun x hx => by cases hx) (fun r hr => hr) (w_q rfl (fun h' L' hh hR => zG rfl) rfl (w_q rfl (fun h' L' hh hR => zG rfl) rfl (w_q rfl (fun h' L' hh hR => sH (k := .u64) (W := 18446744073709551616) rfl rfl rfl rfl (by omega) (by omega)) rfl (w_q rfl (fun h' L' hh hR => zG rfl) rfl (w_q rfl (fun h' L' hh hR => zG rfl) rfl (w_q rfl (fun h' L' hh hR => sH (k := .u64) (W := 18446744073709551616) rfl rfl rfl rfl (by omega) (by omega)) rfl (w_q rfl (fun h' L' hh hR => zY rfl) rfl (w_q rfl (fun h' L' hh hR => zY rfl) rfl ?_))))))))
 generalize hA : n / Nat.gcd n d = A at *
 generalize hB : d / Nat.gcd n d = B at *
 have hlA := jR (n := A) (by omega)
 have hlB := jR (n := B) (by omega)
 refine xB (zJ (e' := [(0, _), (6, _), (1, _), (2, _)]) ⟨rfl, rfl, rfl, rfl, trivial⟩ (zB (zC (zA (qG (kd := .u32) (by' := 4) (q := 4) (q' := 4) 4 Tryz.underlying28 uA rfl rfl rfl rfl rfl rfl rfl (by omega) (by omega) rfl ?_)))))
 intro v24
 refine asg rfl rfl (zD (zB (zC (zA (mv rfl rfl (mv rfl rfl ?_))))))
 refine cK (vs := [_, _]) rfl rfl rfl rfl Tryz.call148 ⟨rfl, rfl, trivial⟩ (fun w hs => iK (hs.own_self (.head _)) (by decide) hn1 (by omega) hs) ?_
 intro v27 g27 L27 hr27
 obtain ⟨e1, e2, hr27⟩ := hr27
 rw [e1, e2]
 clear e1 e2 g27 L27
 subst hr27
 rw [show List.take 0 (List.replicate 4 0) ++ zF A ++ List.drop (0 + (zF A).length) (List.replicate 4 0) = zF A ++ List.replicate (4 - (zF A).length) 0 from by rw [List.take_zero, List.nil_append, Nat.zero_add, List.drop_replicate]]
 have hlen4 : (zF A ++ List.replicate (4 - (zF A).length) 0).length = 4 := by simp; omega
 refine asg rfl rfl (zD (zB (zC (zA (mv rfl rfl (mv rfl rfl (mv rfl rfl (mv rfl rfl ?_))))))))
 refine gl_shape (.head _) (fun ad cap hsh hcap => ?_)
 have eq1 : jU 1 v24 0 (zF A).length (zF A).length = .slice (if (zF A).length = 0 then ad else ad.map (·.add (0 * 1))) ((zF A).length - 0) ((zF A).length - 0) := by rw [hsh]; rfl
 refine gv (mS (.head _) _ _ Tryz.underlying28 Tryz.sizeOf124 rfl rfl rfl rfl rfl (by omega) (by omega)) rfl (gv (wN (ps' := [(0, _), (1, _)]) (vs := [vB s, jU 1 v24 0 _ _, .slice none 0 0]) Tryz.underlying30 wP rfl (qE Tryz.underlying30) ⟨rfl, rfl, rfl, rfl, trivial⟩ (wX (A := []) (B := [_]) (C := [_, _]) (cs := [_]) (off := 0) (size := 1) rfl rfl rfl rfl rfl (wX (A := [_]) (B := [_]) (C := [_]) (cs := [_]) (off := 1) (size := 1) rfl rfl rfl rfl (by rw [eq1]; rfl) qD))) rfl (zK (vN (cs := [vB ((0 : Rat).num < 0), .slice none 0 0, .slice none 0 0]) wP rfl (by simp only [zb]; rfl)) rfl rfl rfl ?_))
 intro v10 r10 hr10
 obtain ⟨b10, rfl, rfl⟩ := hr10
 refine wT (A := []) (r' := .var b10 30 [vB s, jU 1 v24 0 _ _, .slice none 0 0]) (yC (k := 0) (cs := [_, _, _]) (vs := [vB s, jU 1 v24 0 _ _, .slice none 0 0]) rfl rfl rfl (by rw [eq1]; rfl) zZ (Nat.le_of_ble_eq_true rfl)) rfl rfl rfl (zD (zJ (e' := [(6, _), (2, _), (8, _), (9, _), (10, _)]) ⟨rfl, rfl, rfl, rfl, rfl, trivial⟩ (zB (zC (zC (zA (mv rfl rfl (gv (aK (k := .u64) (q := 1) rfl rfl) rfl (zD (zB ?_))))))))))
 refine zO rfl (fun hc35 => ?_) (fun hc35 => ?_)
 ·
  refine zC (zA (mv rfl rfl (mv rfl rfl (mv rfl rfl (gv (mR (.tail _ (.head _)) _ Tryz.underlying28 Tryz.sizeOf124 rfl rfl rfl (by omega)) rfl (mv rfl rfl (k9 (A := [_]) ?_)))))))
  refine cK (vs := [_, _]) rfl rfl rfl rfl Tryz.call148 ⟨rfl, rfl, trivial⟩ (fun w hs => iK (lo := (zF A).length) (by rfl) (by omega) hd1 (by omega) hs) ?_
  intro v41 g41 L41 hr41
  obtain ⟨e1, e2, hr41⟩ := hr41
  rw [e1, e2]
  clear e1 e2 g41 L41
  subst hr41
  rw [show List.take (zF A).length (zF A ++ List.replicate (4 - (zF A).length) 0) ++ zF B ++ List.drop ((zF A).length + (zF B).length) (zF A ++ List.replicate (4 - (zF A).length) 0) = zF A ++ zF B ++ List.replicate (4 - (zF A).length - (zF B).length) 0 from by simp]
  have hlen5 : (zF A ++ zF B ++ List.replicate (4 - (zF A).length - (zF B).length) 0).length = 4 := by simp; omega
  refine gv (zQ rfl rfl (by omega) (by omega)) rfl (asg rfl rfl (zD (zJ (e' := [(6, _), (8, _), (9, _), (10, _), (11, _)]) ⟨rfl, rfl, rfl, rfl, rfl, trivial⟩ (zB (zA (mv rfl rfl (mv rfl rfl (mv rfl rfl (mv rfl rfl ?_)))))))))
  have eq2 : jU 1 v24 (zF A).length ((zF A).length + (zF B).length) ((zF A).length + (zF B).length) = .slice (if (zF A).length + (zF B).length = (zF A).length then ad else ad.map (·.add ((zF A).length * 1))) ((zF A).length + (zF B).length - (zF A).length) ((zF A).length + (zF B).length - (zF A).length) := by rw [hsh]; rfl
  refine gv (eR (.head _) ((zF A).length) ((zF A).length + (zF B).length) ((zF A).length + (zF B).length) Tryz.underlying28 Tryz.sizeOf124 rfl rfl rfl rfl (by omega) (by omega) (by omega) (by omega) (by omega) (by omega)) rfl (gv (zI Tryz.underlying30 rfl Tryz.sizeOf28 rfl) rfl (wT (A := [_]) (r' := .var b10 30 [vB s, jU 1 v24 0 _ _, jU 1 v24 ((zF A).length) ((zF A).length + (zF B).length) ((zF A).length + (zF B).length)]) (yC (k := 2) (cs := [_, _, _]) (vs := [jU 1 v24 ((zF A).length) ((zF A).length + (zF B).length) ((zF A).length + (zF B).length)]) rfl rfl (by rw [eq2]; rfl) (by rw [eq2]; rfl) size28 (Nat.le_of_ble_eq_true rfl)) rfl rfl rfl (zD (zB (zC (zA (wC (by first | exact vZ (vZ (vC A) (vC B)) (qT _) | exact vZ (vC A) (qT _)) ?_)))))))
  intro h2 hh2 hz
  refine gv (yH (vs := [_, _, _]) (.head _) Tryz.underlying30 rfl zZ rfl rfl) rfl (wT (A := [_]) (r' := .var b6 30 [vB s, jU 1 v24 0 _ _, jU 1 v24 ((zF A).length) ((zF A).length + (zF B).length) ((zF A).length + (zF B).length)]) (yC (k := 0) (cs := [_, _, _]) (vs := [vB s, jU 1 v24 0 _ _, jU 1 v24 ((zF A).length) ((zF A).length + (zF B).length) ((zF A).length + (zF B).length)]) rfl rfl rfl (by rw [eq1, eq2]; rfl) zZ (Nat.le_of_ble_eq_true rfl)) rfl rfl rfl (zD (zJ (e' := [(6, _)]) ⟨rfl, trivial⟩ (zB (zR (xX (fun E S => yP rfl (wS (cs := [_, _, _]) (.tail _ (.head _)) Tryz.underlying30 rfl zZ rfl) E S) ?_))))))
  have z1 := hz.sub3 (lo := 0) (hi := (zF A).length) (mx := (zF A).length) (by omega) (by omega) (by omega)
  have z2 := hz.sub3 (lo := (zF A).length) (hi := (zF A).length + (zF B).length) (mx := (zF A).length + (zF B).length) (by omega) (by omega) (by omega)
  refine vQ.make hn0 hd0 ?_ ?_
  · rw [hA]; simpa using z1
  · rw [hB]; rw [sW (by omega)]; simpa using z2
 refine zL (zB (zC (zA (eX (by first | exact vZ (vZ (vC A) (vC B)) (qT _) | exact vZ (vC A) (qT _)) ?_))))
 intro h2 hh2 hz
 refine gv (yH (vs := [_, _, _]) (.head _) Tryz.underlying30 rfl zZ rfl rfl) rfl (wT (A := [_]) (r' := .var b6 30 [vB s, jU 1 v24 0 _ _, .slice none 0 0]) (yC (k := 0) (cs := [_, _, _]) (vs := [vB s, jU 1 v24 0 _ _, .slice none 0 0]) rfl rfl rfl (by rw [eq1]; rfl) zZ (Nat.le_of_ble_eq_true rfl)) rfl rfl rfl (zD (zB (zR (xX (fun E S => yP rfl (wS (cs := [_, _, _]) (.tail _ (.head _)) Tryz.underlying30 rfl zZ rfl) E S) ?_)))))
 have z1 := hz.sub3 (lo := 0) (hi := (zF A).length) (mx := (zF A).length) (by omega) (by omega) (by omega)
 refine vQ.make hn0 hd0 ?_ ?_
 · rw [hA]; simpa using z1
 · rw [hB]; rw [show B = 1 by omega, sK, wK]; exact Us.nil _ _
theorem fV {w0 : World} {h0 : Mem}  (hs : MLe h0 (mem w0)) {qa : Rat} {vna vda : Value} (hna : Us .u32 h0 vna (zF qa.num.natAbs)) (hda : Us .u32 h0 vda (zF (vK qa.den))) :
    Calls Tryz.prog 124 #[.agg #[vB (qa.num < 0), vna, vda]] w0 (Ret w0 h0 (fun _ r => r = .tuple #[vU .u64 (pN qa), vU .u64 (pD qa), vB (kR qa)])) := by
 refine zP (n := 30) (e := [(0, .agg #[vB (qa.num < 0), vna, vda])]) (vs := [.agg #[vB (qa.num < 0), vna, vda]]) Tryz.func124 rfl rfl (Nat.le_of_ble_eq_true rfl) hs ⟨rfl, trivial⟩ (zC (zA (zK (wW (cs := [_, _, _]) rfl rfl) rfl rfl rfl ?_)))
 intro v1 r1 hr1
 obtain ⟨b1, rfl, rfl⟩ := hr1
 refine asg (v := vU .u64 0) rfl rfl (asg (v := vU .u64 0) rfl rfl (asg rfl rfl (zD (zB (zC (zC (zA (gv (zI Tryz.underlying30 rfl Tryz.sizeOf28 rfl) rfl (gv (zU (.head _) Tryz.isAgg28 rfl rfl) rfl (gv (yA Tryz.underlying28 rfl hna) rfl (gv (uS (q := 1) rfl rfl) rfl ?_)))))))))))
 refine vO (ι := Unit) 6 (fun _ => True) (fun _ => [(14, vB (((1 : Int) < (↑(zF qa.num.natAbs).length : Int)) ∨ ((1 : Int) < (↑(zF (vK qa.den)).length : Int)))), (1, vP b1 0)]) (fun _ => [.var b1 30 [vB (qa.num < 0), vna, vda]]) (fun _ => h0) ?_ ?_
 ·
  refine wM ((1 : Int) < (↑(zF qa.num.natAbs).length : Int)) (fun hg => ?_) (fun hg => ?_)
  ·
   refine xH (zG (v := .bool true) (congrArg some (xS hg))) rfl rfl rfl (yL rfl rfl rfl rfl rfl rfl (yL rfl rfl rfl rfl rfl rfl (yL rfl rfl rfl rfl rfl rfl (yL rfl rfl rfl rfl rfl rfl (gv (xK rfl rfl) rfl (zD ?_))))))
   refine yN () trivial ⟨?_, rfl, trivial⟩ rfl rfl
   exact congrArg some (qR hg)
  refine xH (zG (v := .bool false) (congrArg some (yX hg))) rfl rfl rfl (xA rfl rfl rfl (gv (zI Tryz.underlying30 rfl Tryz.sizeOf28 rfl) rfl (xA rfl rfl rfl (gv (zU (.head _) Tryz.isAgg28 rfl rfl) rfl (xA rfl rfl rfl (gv (yA Tryz.underlying28 rfl hda) rfl (xA rfl rfl rfl (gv (uS (q := 1) rfl rfl) rfl (gv (wB rfl rfl) rfl (zD ?_))))))))))
  refine yN () trivial ⟨?_, rfl, trivial⟩ rfl rfl
  exact congrArg some (qS hg)
 intro _ _
 show GL _ _ _ _ _ _ _ [(14, vB (((1 : Int) < (↑(zF qa.num.natAbs).length : Int)) ∨ ((1 : Int) < (↑(zF (vK qa.den)).length : Int)))), (1, vP b1 0)] [.var b1 30 [vB (qa.num < 0), vna, vda]] h0
 refine zD (zB ?_)
 refine zO rfl (fun hc14 => ?_) (fun hc14 => ?_)
 ·
  have hns : ¬ kR qa := t8 hc14
  refine zC (zA (asg (v := vU .u64 0) rfl rfl (asg (v := vU .u64 0) rfl rfl (asg rfl rfl (zD (zB (zR (zX (qF rfl rfl rfl rfl ?_)))))))))
  rw [pN_f hns, pD_f hns, yX hns]
 have hsm : kR qa := smallQ_of hc14
 have hsn := kP hsm
 have hsd := kQ hsm
 refine zL (zB (zC (zA (asg (v := vU .u64 1) rfl rfl (zD (zB (zC (zC (zA (gv (zI Tryz.underlying30 rfl Tryz.sizeOf28 rfl) rfl (gv (zU (.head _) Tryz.isAgg28 rfl rfl) rfl (gv (yA Tryz.underlying28 rfl hda) rfl (gv (xZ (q := 1) rfl rfl) rfl ?_)))))))))))))
 refine zD (zB ?_)
 refine zO rfl (fun hc18 => ?_) (fun hc18 => ?_)
 ·
  have hd1 : (zF (vK qa.den)).getD 0 0 = qa.den := denL_one hc18
  refine zA (gv (zI Tryz.underlying30 rfl Tryz.sizeOf28 rfl) rfl (gv (zU (.head _) Tryz.isAgg28 rfl rfl) rfl (gv (yO (q := 0) (0) Tryz.underlying28 Tryz.sizeOf124 rfl rfl hda rfl (by omega)) rfl (gv (yS Tryz.isAgg124 rfl hda (by omega)) rfl ?_))))
  rw [hd1]
  refine gv (xE (k := .u32) (k' := .u64) (W := 18446744073709551616) Tryz.underlying124 Tryz.underlying122 rfl rfl rfl (by omega)) rfl (asg rfl rfl (zD (zJ (e' := [(1, _), (3, _)]) ⟨rfl, rfl, trivial⟩ (zB (zC (zA (gv (zI Tryz.underlying30 rfl Tryz.sizeOf28 rfl) rfl (gv (zU (.head _) Tryz.isAgg28 rfl rfl) rfl ?_))))))))
  refine zM (vs := [_]) rfl rfl rfl rfl Tryz.call131 ⟨rfl, trivial⟩ (fun w hs => aD hs hna (by omega)) ?_
  intro v26 h1 hh1 hr26
  try simp only [zV] at hr26
  subst hr26
  refine mv rfl rfl (mv rfl rfl (gv (OpV.tr (by have := qa.den_nz; omega) (gH (k := .u64) (q := 0) rfl rfl)) rfl (asg rfl rfl (asg rfl rfl (asg rfl rfl (zD (zB (zR (qF rfl rfl rfl rfl ?_)))))))))
  rw [eP hsm, eQ hsm, xS hsm]
 have hd1 : qa.den = 1 := denL_nil hc18 hsm
 refine zL (zB (zC (zA (gv (zI Tryz.underlying30 rfl Tryz.sizeOf28 rfl) rfl (gv (zU (.head _) Tryz.isAgg28 rfl rfl) rfl ?_)))))
 refine zM (vs := [_]) rfl rfl rfl rfl Tryz.call131 ⟨rfl, trivial⟩ (fun w hs => aD hs hna (by omega)) ?_
 intro v26 h1 hh1 hr26
 try simp only [zV] at hr26
 subst hr26
 refine mv rfl rfl (mv rfl rfl (gv (OpV.tr (by have := qa.den_nz; omega) (gH (k := .u64) (q := 0) rfl rfl)) rfl (asg rfl rfl (asg rfl rfl (asg rfl rfl (zD (zJ (e' := [(2, _), (3, _), (4, _)]) ⟨rfl, rfl, rfl, trivial⟩ (zB (zR (qF rfl rfl rfl rfl ?_))))))))))
 rw [eP hsm, eQ hsm, xS hsm, hd1]
theorem kA {w0 : World} {h0 : Mem}  (hs : MLe h0 (mem w0)) {s : Prop} {vn vd : Value} {xs ys : List Nat} (hn : Us .u32 h0 vn xs) (hd : Us .u32 h0 vd ys) (hl : xs.length ≤ 1000000000000) (hl' : ys.length ≤ 1000000000000) :
    Calls Tryz.prog 106 #[vB s, vn, vd] w0 (Ret w0 h0 (fun h r => vQ h r (mkRat (sg s (val xs)) (val ys)))) := by
 have hbx := rB (n := val xs)
 have hby := rB (n := val ys)
 have hlx := uE hn.lt
 have hly := uE hd.lt
 refine zP (n := 68) (e := [(0, vB s), (1, vn), (2, vd)]) (vs := [vB s, vn, vd]) Tryz.func106 rfl rfl (Nat.le_of_ble_eq_true rfl) hs ⟨rfl, rfl, rfl, trivial⟩ (zC (zA (zK (vN (cs := [vB ((0 : Rat).num < 0), .slice none 0 0, .slice none 0 0]) wP rfl (by simp only [zb]; rfl)) rfl rfl rfl ?_)))
 intro v6 r6 hr6
 obtain ⟨b6, rfl, rfl⟩ := hr6
 refine zD (zB (zC (zC (zA (mv rfl rfl ?_)))))
 refine zM (vs := [_]) rfl rfl rfl rfl Tryz.call123 ⟨rfl, trivial⟩ (fun w hs => aR hs hn (by omega)) ?_
 intro v9 h1 hh1 hr9
 try simp only [zV] at hr9
 subst hr9
 refine gv (xZ (q := 0) rfl rfl) rfl ?_
 refine vO (ι := Mem) 5 (fun m_ => MLe h1 m_) (fun _ => [(15, vB (((↑(vS (val (xs))) : Int) = (0 : Int)) ∨ ((↑(vS (val (ys))) : Int) = (0 : Int)))), (0, vB s), (1, vn), (2, vd), (6, vP b6 0)]) (fun _ => [.var b6 30 [vB ((0 : Rat).num < 0), .slice none 0 0, .slice none 0 0]]) (fun m_ => m_) ?_ ?_
 ·
  refine wM ((↑(vS (val (xs))) : Int) = (0 : Int)) (fun hg => ?_) (fun hg => ?_)
  ·
   refine xH (zG (v := .bool true) (congrArg some (xS hg))) rfl rfl rfl (yL rfl rfl rfl rfl rfl rfl (yL rfl rfl rfl rfl rfl rfl (yL rfl rfl rfl rfl rfl rfl (gv (xK rfl rfl) rfl (zD ?_)))))
   refine yN h1 (MLe.refl _) ⟨?_, rfl, rfl, rfl, rfl, trivial⟩ rfl rfl
   exact congrArg some (qR hg)
  refine xH (zG (v := .bool false) (congrArg some (yX hg))) rfl rfl rfl (xA rfl rfl rfl (mv rfl rfl (xA rfl rfl rfl ?_)))
  replace hd := hd.mono hh1
  refine zM (vs := [_]) rfl rfl rfl rfl Tryz.call123 ⟨rfl, trivial⟩ (fun w hs => aR hs hd (by omega)) ?_
  intro v13 h2 hh2 hr13
  try simp only [zV] at hr13
  subst hr13
  refine xA rfl rfl rfl (gv (xZ (q := 0) rfl rfl) rfl (gv (wB rfl rfl) rfl (zD ?_)))
  refine yN h2 hh2 ⟨?_, rfl, rfl, rfl, rfl, trivial⟩ rfl rfl
  exact congrArg some (qS hg)
 intro mg1_3 hmmg1_3
 show GL _ _ _ _ _ _ _ [(15, vB (((↑(vS (val (xs))) : Int) = (0 : Int)) ∨ ((↑(vS (val (ys))) : Int) = (0 : Int)))), (0, vB s), (1, vn), (2, vd), (6, vP b6 0)] [.var b6 30 [vB ((0 : Rat).num < 0), .slice none 0 0, .slice none 0 0]] mg1_3
 refine zD (zB ?_)
 refine zO rfl (fun hc15 => ?_) (fun hc15 => ?_)
 ·
  refine zC (zA (gv (wN (ps' := []) (vs := [vB ((0 : Rat).num < 0), .slice none 0 0, .slice none 0 0]) Tryz.underlying30 wP rfl (qE Tryz.underlying30) trivial (by simp only [zb]; exact qD)) rfl (wT (A := []) (r' := .var b6 30 [vB ((0 : Rat).num < 0), .slice none 0 0, .slice none 0 0]) (yC (k := 0) (cs := [_, _, _]) (vs := [_, _, _]) rfl rfl rfl rfl zZ (Nat.le_of_ble_eq_true rfl)) rfl rfl rfl (zD (zB (zR (zX (xX (fun E S => yP rfl (wS (cs := [_, _, _]) (.head _) Tryz.underlying30 rfl zZ rfl) E S) ?_))))))))
  rcases hc15 with h | h
  · rw [show val xs = 0 by omega, aT]; exact vQ.zero _
  · rw [show val ys = 0 by omega, oM]; exact vQ.zero _
 have hn0 : val xs ≠ 0 := fun h => hc15 (.inl (by omega))
 have hd0 : val ys ≠ 0 := fun h => hc15 (.inr (by omega))
 refine zL (zB (zC (zC (zA (mv rfl rfl ?_)))))
 replace hn := hn.mono (hh1.trans hmmg1_3)
 refine gv (yA Tryz.underlying28 rfl hn) rfl (gv (sI (q := 2) rfl rfl) rfl ?_)
 refine vO (ι := Unit) 5 (fun _ => True) (fun _ => [(24, vB (((↑(xs).length : Int) ≤ (2 : Int)) ∧ ((↑(ys).length : Int) ≤ (2 : Int)))), (0, vB s), (1, vn), (2, vd), (6, vP b6 0)]) (fun _ => [.var b6 30 [vB ((0 : Rat).num < 0), .slice none 0 0, .slice none 0 0]]) (fun _ => mg1_3) ?_ ?_
 ·
  refine wM ((↑(xs).length : Int) ≤ (2 : Int)) (fun hg => ?_) (fun hg => ?_)
  ·
   refine xH (zG (v := .bool true) (congrArg some (xS hg))) rfl rfl rfl (xA rfl rfl rfl (mv rfl rfl (xA rfl rfl rfl ?_)))
   replace hd := hd.mono (hh1.trans hmmg1_3)
   refine gv (yA Tryz.underlying28 rfl hd) rfl (xA rfl rfl rfl (gv (sI (q := 2) rfl rfl) rfl (gv (xK rfl rfl) rfl (zD ?_))))
   refine yN () trivial ⟨?_, rfl, rfl, rfl, rfl, trivial⟩ rfl rfl
   exact congrArg some (uI hg)
  refine xH (zG (v := .bool false) (congrArg some (yX hg))) rfl rfl rfl (yL rfl rfl rfl rfl rfl rfl (yL rfl rfl rfl rfl rfl rfl (yL rfl rfl rfl rfl rfl rfl (gv (wB rfl rfl) rfl (zD ?_)))))
  refine yN () trivial ⟨?_, rfl, rfl, rfl, rfl, trivial⟩ rfl rfl
  exact congrArg some (uJ hg)
 intro _ _
 show GL _ _ _ _ _ _ _ [(24, vB (((↑(xs).length : Int) ≤ (2 : Int)) ∧ ((↑(ys).length : Int) ≤ (2 : Int)))), (0, vB s), (1, vn), (2, vd), (6, vP b6 0)] [.var b6 30 [vB ((0 : Rat).num < 0), .slice none 0 0, .slice none 0 0]] mg1_3
 refine zD (zB ?_)
 refine zO rfl (fun hc24 => ?_) (fun hc24 => ?_)
 ·
  have hnw := sS (n := val xs) (by omega)
  have hdw := sS (n := val ys) (by omega)
  refine zC (zA (mv rfl rfl (mv rfl rfl ?_)))
  refine zM (vs := [_]) rfl rfl rfl rfl Tryz.call131 ⟨rfl, trivial⟩ (fun w hs => aD hs hn (by omega)) ?_
  intro v27 h2 hh2 hr27
  try simp only [zV] at hr27
  subst hr27
  refine mv rfl rfl ?_
  replace hd := hd.mono ((hh1.trans hmmg1_3).trans hh2)
  refine zM (vs := [_]) rfl rfl rfl rfl Tryz.call131 ⟨rfl, trivial⟩ (fun w hs => aD hs hd (by omega)) ?_
  intro v29 h3 hh3 hr29
  try simp only [zV] at hr29
  subst hr29
  refine zM (vs := [_, _, _]) rfl rfl rfl rfl Tryz.call125 ⟨rfl, rfl, rfl, trivial⟩ (fun w hs => tY hs (by omega) (by omega) (by omega)) ?_
  intro v30 h4 hh4 hr30
  obtain ⟨vn30, vd30, rfl, hn30, hd30⟩ := hr30
  refine wT (A := []) (r' := .var b6 30 [vB ((mkRat (sg (s) (val (xs))) (val (ys))).num < 0), vn30, vd30]) (yC (k := 0) (cs := [_, _, _]) (vs := [_, _, _]) rfl rfl rfl (ocr rfl (ocu hn30 (ocu hd30 oc0))) zZ (Nat.le_of_ble_eq_true rfl)) rfl rfl rfl (zD (zJ (e' := [(6, _)]) ⟨rfl, trivial⟩ (zB (zR (zX (xX (fun E S => yP rfl (wS (cs := [_, _, _]) (.head _) Tryz.underlying30 rfl zZ rfl) E S) ?_))))))
  exact ⟨_, _, rfl, hn30, hd30⟩
 refine zL (zB (zC (zC (zA (mv rfl rfl (mv rfl rfl ?_))))))
 replace hd := hd.mono (hh1.trans hmmg1_3)
 refine zM (vs := [_, _]) rfl rfl rfl rfl Tryz.call132 ⟨rfl, rfl, trivial⟩ (fun w hs => nat_gcd hs hn hd (by omega) (by omega)) ?_
 intro v33 h2 hh2 hr33
 try simp only [zV] at hr33
 have hlm33 := bL (val (xs)) (val (ys))
 have hg0 : Nat.gcd (val xs) (val ys) ≠ 0 := Nat.ne_of_gt (Nat.gcd_pos_of_pos_left _ (by omega))
 have hgl := xJ (Nat.le_of_dvd (by omega) (Nat.gcd_dvd_left (val xs) (val ys)))
 refine asg rfl rfl (zD (zB (zC (zA (mv rfl rfl ?_)))))
 refine zM (vs := [_]) rfl rfl rfl rfl Tryz.call123 ⟨rfl, trivial⟩ (fun w hs => aR hs hr33 (by omega)) ?_
 intro v35 h3 hh3 hr35
 try simp only [zV] at hr35
 subst hr35
 refine gv (uS (q := 1) rfl rfl) rfl (zD (zB ?_))
 refine zO rfl (fun hc36 => ?_) (fun hc36 => ?_)
 ·
  refine zC (zA (mv rfl rfl (mv rfl rfl ?_)))
  replace hn := hn.mono (hh2.trans hh3)
  replace hr33 := hr33.mono hh3
  refine zM (vs := [_, _]) rfl rfl rfl rfl Tryz.call133 ⟨rfl, rfl, trivial⟩ (fun w hs => nU hs hn hr33 (by omega) (by omega)) ?_
  intro v40 h4 hh4 hr40
  obtain ⟨q40, r40, rfl, hq40, hr40⟩ := hr40
  try simp only [zV] at hq40 hr40 ⊢
  have hlm40 := xJ (Nat.div_le_self (val (xs)) (((Nat.gcd (val (xs)) (val (ys))))))
  have hl7 := xJ (Nat.div_le_self (val xs) (Nat.gcd (val xs) (val ys)))
  refine mv rfl rfl (gv (zN (vs := [_, _, _]) rfl rfl) rfl (gv (zN (vs := [_, _, _]) rfl rfl) rfl (gv (zN (vs := [_, _, _]) rfl rfl) rfl (asg rfl rfl (zD (zJ (e' := [(0, _), (2, _), (6, _), (7, _), (1, _)]) ⟨rfl, rfl, rfl, rfl, rfl, trivial⟩ (zB (zA (mv rfl rfl (mv rfl rfl ?_))))))))))
  replace hd := hd.mono ((hh2.trans hh3).trans hh4)
  replace hr33 := hr33.mono hh4
  refine zM (vs := [_, _]) rfl rfl rfl rfl Tryz.call133 ⟨rfl, rfl, trivial⟩ (fun w hs => nU hs hd hr33 (by omega) (by omega)) ?_
  intro v47 h5 hh5 hr47
  obtain ⟨q47, r47, rfl, hq47, hr47⟩ := hr47
  try simp only [zV] at hq47 hr47 ⊢
  have hlm47 := xJ (Nat.div_le_self (val (ys)) (((Nat.gcd (val (xs)) (val (ys))))))
  have hl8 := xJ (Nat.div_le_self (val ys) (Nat.gcd (val xs) (val ys)))
  refine mv rfl rfl (gv (zN (vs := [_, _, _]) rfl rfl) rfl (gv (zN (vs := [_, _, _]) rfl rfl) rfl (gv (zN (vs := [_, _, _]) rfl rfl) rfl (asg rfl rfl (zD (zB (zC (zA (mv rfl rfl ?_)))))))))
  replace hq40 := hq40.mono hh5
  refine zM (vs := [_, _]) rfl rfl rfl rfl Tryz.call134 ⟨rfl, rfl, trivial⟩ (fun w hs => cZ hs hq40 (Us.nil _ _) (by first | omega | (simp only [List.length_nil]; omega)) (by first | omega | (simp only [List.length_nil]; omega))) ?_
  intro v52 h6 hh6 hr52
  try simp only [zV] at hr52
  have hlm52 := jL ((((val (xs)) / (((Nat.gcd (val (xs)) (val (ys)))))))) (val ([]))
  refine mv rfl rfl ?_
  replace hq47 := hq47.mono hh6
  refine zM (vs := [_, _]) rfl rfl rfl rfl Tryz.call134 ⟨rfl, rfl, trivial⟩ (fun w hs => cZ hs hq47 (Us.nil _ _) (by first | omega | (simp only [List.length_nil]; omega)) (by first | omega | (simp only [List.length_nil]; omega))) ?_
  intro v54 h7 hh7 hr54
  try simp only [zV] at hr54
  have hlm54 := jL ((((val (ys)) / (((Nat.gcd (val (xs)) (val (ys)))))))) (val ([]))
  refine asg rfl rfl (asg rfl rfl (zD (zJ (e' := [(0, _), (6, _), (1, _), (2, _)]) ⟨rfl, rfl, rfl, rfl, trivial⟩ (zB (zC (zC (zA (mv rfl rfl (gv (yA Tryz.underlying28 rfl hr54) rfl (gv (xZ (q := 1) rfl rfl) rfl ?_))))))))))
  refine vO (ι := Unit) 6 (fun _ => True) (fun _ => [(63, vB (((↑(zF (((((val (ys)) / (((Nat.gcd (val (xs)) (val (ys)))))))) + (val ([])))).length : Int) = (1 : Int)) ∧ (((zF (((((val (ys)) / (((Nat.gcd (val (xs)) (val (ys)))))))) + (val ([])))).getD (0) 0) = (1 : Nat)))), (0, vB s), (6, vP b6 0), (1, v52), (2, v54)]) (fun _ => [.var b6 30 [vB ((0 : Rat).num < 0), .slice none 0 0, .slice none 0 0]]) (fun _ => h7) ?_ ?_
  ·
   refine wM ((↑(zF (((((val (ys)) / (((Nat.gcd (val (xs)) (val (ys)))))))) + (val ([])))).length : Int) = (1 : Int)) (fun hg => ?_) (fun hg => ?_)
   ·
    refine xH (zG (v := .bool true) (congrArg some (xS hg))) rfl rfl rfl (xA rfl rfl rfl (mv rfl rfl (xA rfl rfl rfl (gv (yO (q := 0) (0) Tryz.underlying28 Tryz.sizeOf124 rfl rfl hr54 rfl (by omega)) rfl (xA rfl rfl rfl (gv (yS Tryz.isAgg124 rfl hr54 (by omega)) rfl (xA rfl rfl rfl (gv (fJ (k := .u32) (q := 1) rfl rfl) rfl (gv (xK rfl rfl) rfl (zD ?_))))))))))
    refine yN () trivial ⟨?_, rfl, rfl, rfl, rfl, trivial⟩ rfl rfl
    exact congrArg some (uI hg)
   refine xH (zG (v := .bool false) (congrArg some (yX hg))) rfl rfl rfl (yL rfl rfl rfl rfl rfl rfl (yL rfl rfl rfl rfl rfl rfl (yL rfl rfl rfl rfl rfl rfl (yL rfl rfl rfl rfl rfl rfl (gv (wB rfl rfl) rfl (zD ?_))))))
   refine yN () trivial ⟨?_, rfl, rfl, rfl, rfl, trivial⟩ rfl rfl
   exact congrArg some (uJ hg)
  intro _ _
  show GL _ _ _ _ _ _ _ [(63, vB (((↑(zF (((((val (ys)) / (((Nat.gcd (val (xs)) (val (ys)))))))) + (val ([])))).length : Int) = (1 : Int)) ∧ (((zF (((((val (ys)) / (((Nat.gcd (val (xs)) (val (ys)))))))) + (val ([])))).getD (0) 0) = (1 : Nat)))), (0, vB s), (6, vP b6 0), (1, v52), (2, v54)] [.var b6 30 [vB ((0 : Rat).num < 0), .slice none 0 0, .slice none 0 0]] h7
  refine zD (zB ?_)
  refine zO rfl (fun hc63 => ?_) (fun hc63 => ?_)
  ·
   refine zA (asg rfl rfl (zD (zB (zC (zA (mv rfl rfl (mv rfl rfl (mv rfl rfl ?_))))))))
   replace hr52 := hr52.mono hh7
   refine gv (wN (ps' := [(0, _), (1, _), (2, _)]) (vs := [vB s, v52, .slice none 0 0]) Tryz.underlying30 wP rfl (qE Tryz.underlying30) ⟨rfl, rfl, rfl, rfl, rfl, rfl, trivial⟩ (wX (A := []) (B := [_]) (C := [_, _]) (cs := [_]) (off := 0) (size := 1) rfl rfl rfl rfl rfl (wX (A := [_]) (B := [_]) (C := [_]) (cs := [_]) (off := 1) (size := 1) rfl rfl rfl rfl hr52.cells (wX (A := [_, _]) (B := [_]) (C := []) (cs := [_]) (off := 2) (size := 1) rfl rfl rfl rfl rfl qD)))) rfl (wT (A := []) (r' := .var b6 30 [vB s, v52, .slice none 0 0]) (yC (k := 0) (cs := [_, _, _]) (vs := [_, _, _]) rfl rfl rfl (ocr rfl (ocu hr52 (ocr rfl oc0))) zZ (Nat.le_of_ble_eq_true rfl)) rfl rfl rfl (zD (zB (zR (xX (fun E S => yP rfl (wS (cs := [_, _, _]) (.head _) Tryz.underlying30 rfl zZ rfl) E S) ?_)))))
   exact vQ.fin1 hn0 hd0 hr52 hc63
  refine zL (zB (zC (zA (mv rfl rfl (mv rfl rfl (mv rfl rfl ?_))))))
  replace hr52 := hr52.mono hh7
  refine gv (wN (ps' := [(0, _), (1, _), (2, _)]) (vs := [vB s, v52, v54]) Tryz.underlying30 wP rfl (qE Tryz.underlying30) ⟨rfl, rfl, rfl, rfl, rfl, rfl, trivial⟩ (wX (A := []) (B := [_]) (C := [_, _]) (cs := [_]) (off := 0) (size := 1) rfl rfl rfl rfl rfl (wX (A := [_]) (B := [_]) (C := [_]) (cs := [_]) (off := 1) (size := 1) rfl rfl rfl rfl hr52.cells (wX (A := [_, _]) (B := [_]) (C := []) (cs := [_]) (off := 2) (size := 1) rfl rfl rfl rfl hr54.cells qD)))) rfl (wT (A := []) (r' := .var b6 30 [vB s, v52, v54]) (yC (k := 0) (cs := [_, _, _]) (vs := [_, _, _]) rfl rfl rfl (ocr rfl (ocu hr52 (ocu hr54 oc0))) zZ (Nat.le_of_ble_eq_true rfl)) rfl rfl rfl (zD (zB (zR (xX (fun E S => yP rfl (wS (cs := [_, _, _]) (.head _) Tryz.underlying30 rfl zZ rfl) E S) ?_)))))
  exact vQ.fin hn0 hd0 hr52 hr54 hc63
 refine zL (zB (zC (zA (mv rfl rfl ?_))))
 replace hn := hn.mono (hh2.trans hh3)
 refine zM (vs := [_, _]) rfl rfl rfl rfl Tryz.call134 ⟨rfl, rfl, trivial⟩ (fun w hs => cZ hs hn (Us.nil _ _) (by first | omega | (simp only [List.length_nil]; omega)) (by first | omega | (simp only [List.length_nil]; omega))) ?_
 intro v52 h4 hh4 hr52
 try simp only [zV] at hr52
 have hlm52 := jL (val (xs)) (val ([]))
 refine mv rfl rfl ?_
 replace hd := hd.mono ((hh2.trans hh3).trans hh4)
 refine zM (vs := [_, _]) rfl rfl rfl rfl Tryz.call134 ⟨rfl, rfl, trivial⟩ (fun w hs => cZ hs hd (Us.nil _ _) (by first | omega | (simp only [List.length_nil]; omega)) (by first | omega | (simp only [List.length_nil]; omega))) ?_
 intro v54 h5 hh5 hr54
 try simp only [zV] at hr54
 have hlm54 := jL (val (ys)) (val ([]))
 refine asg rfl rfl (asg rfl rfl (zD (zJ (e' := [(0, _), (6, _), (1, _), (2, _)]) ⟨rfl, rfl, rfl, rfl, trivial⟩ (zB (zC (zC (zA (mv rfl rfl (gv (yA Tryz.underlying28 rfl hr54) rfl (gv (xZ (q := 1) rfl rfl) rfl ?_))))))))))
 refine vO (ι := Unit) 6 (fun _ => True) (fun _ => [(63, vB (((↑(zF ((val (ys)) + (val ([])))).length : Int) = (1 : Int)) ∧ (((zF ((val (ys)) + (val ([])))).getD (0) 0) = (1 : Nat)))), (0, vB s), (6, vP b6 0), (1, v52), (2, v54)]) (fun _ => [.var b6 30 [vB ((0 : Rat).num < 0), .slice none 0 0, .slice none 0 0]]) (fun _ => h5) ?_ ?_
 ·
  refine wM ((↑(zF ((val (ys)) + (val ([])))).length : Int) = (1 : Int)) (fun hg => ?_) (fun hg => ?_)
  ·
   refine xH (zG (v := .bool true) (congrArg some (xS hg))) rfl rfl rfl (xA rfl rfl rfl (mv rfl rfl (xA rfl rfl rfl (gv (yO (q := 0) (0) Tryz.underlying28 Tryz.sizeOf124 rfl rfl hr54 rfl (by omega)) rfl (xA rfl rfl rfl (gv (yS Tryz.isAgg124 rfl hr54 (by omega)) rfl (xA rfl rfl rfl (gv (fJ (k := .u32) (q := 1) rfl rfl) rfl (gv (xK rfl rfl) rfl (zD ?_))))))))))
   refine yN () trivial ⟨?_, rfl, rfl, rfl, rfl, trivial⟩ rfl rfl
   exact congrArg some (uI hg)
  refine xH (zG (v := .bool false) (congrArg some (yX hg))) rfl rfl rfl (yL rfl rfl rfl rfl rfl rfl (yL rfl rfl rfl rfl rfl rfl (yL rfl rfl rfl rfl rfl rfl (yL rfl rfl rfl rfl rfl rfl (gv (wB rfl rfl) rfl (zD ?_))))))
  refine yN () trivial ⟨?_, rfl, rfl, rfl, rfl, trivial⟩ rfl rfl
  exact congrArg some (uJ hg)
 intro _ _
 show GL _ _ _ _ _ _ _ [(63, vB (((↑(zF ((val (ys)) + (val ([])))).length : Int) = (1 : Int)) ∧ (((zF ((val (ys)) + (val ([])))).getD (0) 0) = (1 : Nat)))), (0, vB s), (6, vP b6 0), (1, v52), (2, v54)] [.var b6 30 [vB ((0 : Rat).num < 0), .slice none 0 0, .slice none 0 0]] h5
 refine zD (zB ?_)
 refine zO rfl (fun hc63 => ?_) (fun hc63 => ?_)
 ·
  refine zA (asg rfl rfl (zD (zB (zC (zA (mv rfl rfl (mv rfl rfl (mv rfl rfl ?_))))))))
  replace hr52 := hr52.mono hh5
  refine gv (wN (ps' := [(0, _), (1, _), (2, _)]) (vs := [vB s, v52, .slice none 0 0]) Tryz.underlying30 wP rfl (qE Tryz.underlying30) ⟨rfl, rfl, rfl, rfl, rfl, rfl, trivial⟩ (wX (A := []) (B := [_]) (C := [_, _]) (cs := [_]) (off := 0) (size := 1) rfl rfl rfl rfl rfl (wX (A := [_]) (B := [_]) (C := [_]) (cs := [_]) (off := 1) (size := 1) rfl rfl rfl rfl hr52.cells (wX (A := [_, _]) (B := [_]) (C := []) (cs := [_]) (off := 2) (size := 1) rfl rfl rfl rfl rfl qD)))) rfl (wT (A := []) (r' := .var b6 30 [vB s, v52, .slice none 0 0]) (yC (k := 0) (cs := [_, _, _]) (vs := [_, _, _]) rfl rfl rfl (ocr rfl (ocu hr52 (ocr rfl oc0))) zZ (Nat.le_of_ble_eq_true rfl)) rfl rfl rfl (zD (zB (zR (xX (fun E S => yP rfl (wS (cs := [_, _, _]) (.head _) Tryz.underlying30 rfl zZ rfl) E S) ?_)))))
  have hg1 := iZ hc36 hg0
  exact vQ.fin1 hn0 hd0 (by rw [hg1, Nat.div_one]; exact hr52) (by rw [hg1, Nat.div_one]; exact hc63)
 refine zL (zB (zC (zA (mv rfl rfl (mv rfl rfl (mv rfl rfl ?_))))))
 replace hr52 := hr52.mono hh5
 refine gv (wN (ps' := [(0, _), (1, _), (2, _)]) (vs := [vB s, v52, v54]) Tryz.underlying30 wP rfl (qE Tryz.underlying30) ⟨rfl, rfl, rfl, rfl, rfl, rfl, trivial⟩ (wX (A := []) (B := [_]) (C := [_, _]) (cs := [_]) (off := 0) (size := 1) rfl rfl rfl rfl rfl (wX (A := [_]) (B := [_]) (C := [_]) (cs := [_]) (off := 1) (size := 1) rfl rfl rfl rfl hr52.cells (wX (A := [_, _]) (B := [_]) (C := []) (cs := [_]) (off := 2) (size := 1) rfl rfl rfl rfl hr54.cells qD)))) rfl (wT (A := []) (r' := .var b6 30 [vB s, v52, v54]) (yC (k := 0) (cs := [_, _, _]) (vs := [_, _, _]) rfl rfl rfl (ocr rfl (ocu hr52 (ocu hr54 oc0))) zZ (Nat.le_of_ble_eq_true rfl)) rfl rfl rfl (zD (zB (zR (xX (fun E S => yP rfl (wS (cs := [_, _, _]) (.head _) Tryz.underlying30 rfl zZ rfl) E S) ?_)))))
 have hg1 := iZ hc36 hg0
 exact vQ.fin hn0 hd0 (by rw [hg1, Nat.div_one]; exact hr52) (by rw [hg1, Nat.div_one]; exact hr54) (by rw [hg1, Nat.div_one]; exact hc63)
end Go.Proofs.YtghhjjmjpeehdaaGreat
