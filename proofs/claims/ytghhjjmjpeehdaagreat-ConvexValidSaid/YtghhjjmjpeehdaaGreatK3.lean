/- Texts that the proof needs, part 3. -/
import Derived.Test.YtghhjjmjpeehdaaGreatK2
namespace Go.Proofs.YtghhjjmjpeehdaaGreat
open Bk Go
set_option linter.unusedVariables false
set_option linter.unusedSimpArgs false
set_option maxRecDepth 10000
theorem bX {w0 : World} {h0 : Mem}  (hs : MLe h0 (mem w0)) {v v' : Value} {xs ys : List Nat} (hv : Us .u32 h0 v xs) (hv' : Us .u32 h0 v' ys) :
    Calls Tryz.prog 128 #[v, v'] w0 (Ret w0 h0 (fun _ r => r = vB (xs = ys))) := by
 have hlen := hv.lt63
 have hlen' := hv'.lt63
 refine zP (n := 26) (e := [(0, v), (1, v')]) (vs := [v, v']) Tryz.func128 rfl rfl (Nat.le_of_ble_eq_true rfl) hs ⟨rfl, rfl, trivial⟩ (zC (zA (asg rfl rfl (zD (zB (zC (zC (zA (mv rfl rfl (gv (yA Tryz.underlying28 rfl hv) rfl (mv rfl rfl (gv (yA Tryz.underlying28 rfl hv') rfl (gv (tK rfl rfl) rfl ?_)))))))))))))
 refine zD (zB ?_)
 refine zO rfl (fun hc10 => ?_) (fun hc10 => ?_)
 ·
  refine zC (zA (asg rfl rfl (zD (zB (zR (zX (yJ rfl rfl ?_)))))))
  rw [yX (fun e => hc10 (by rw [e]))]
 have hll : xs.length = ys.length := by omega
 refine zL (zB (zC (zC (zA (mv rfl rfl (gv (yA Tryz.underlying28 rfl hv) rfl (mv (v := vI (0)) rfl rfl (zD (zB (zS ?_))))))))))
 refine wR (ι := Nat) (fun (i : (Nat)) => i ≤ xs.length ∧ xs.take i = ys.take i) (fun (i : (Nat)) => [(0, v), (1, v'), (12, vI ↑xs.length), (13, vI ↑i)]) (fun (i : (Nat)) => []) (fun (i : (Nat)) => h0) (fun (i : (Nat)) => xs.length - i) 0 ?_ ⟨rfl, rfl, rfl, rfl, trivial⟩ rfl rfl ?_
 ·
  exact ⟨by omega, by simp⟩
 intro i hx
 obtain ⟨hi, ht⟩ := hx
 show GC _ _ _ _ _ _ [(0, v), (1, v'), (12, vI ↑xs.length), (13, vI ↑i)] [] h0
 refine zC (zA (gv (zW rfl rfl) rfl (zD (zB (zC ?_)))))
 refine zO rfl (fun hc14 => ?_) (fun hc14 => ?_)
 ·
  refine zL (zB (zC (zS (zC (zA (mv rfl rfl (asg rfl rfl (zD (zB (zC ?_))))))))))
  refine yI 9 _ [] [(0, .q), (1, .q), (2, .q), (3, .q), (4, .q), (5, .q), (6, .q), (7, .q), (8, .q)] xI (fun x hx => by cases hx) (by kernel_rfl) (fun x hx => by cases hx) (fun r hr => hr) (w_q rfl (fun h' L' hh hR => zG rfl) rfl (w_q rfl (fun h' L' hh hR => zG rfl) rfl (w_q rfl (fun h' L' hh hR => yO (i) Tryz.underlying28 Tryz.sizeOf124 rfl rfl (hv.mono hh) (by omega) (by omega)) rfl (w_q rfl (fun h' L' hh hR => yS Tryz.isAgg124 rfl (hv.mono hh) (by omega)) rfl (w_q rfl (fun h' L' hh hR => zG rfl) rfl (w_q rfl (fun h' L' hh hR => zG rfl) rfl (w_q rfl (fun h' L' hh hR => yO (i) Tryz.underlying28 Tryz.sizeOf124 rfl rfl (hv'.mono hh) (by omega) (by omega)) rfl (w_q rfl (fun h' L' hh hR => yS Tryz.isAgg124 rfl (hv'.mono hh) (by omega)) rfl (w_q rfl (fun h' L' hh hR => gH (k := .u32) rfl rfl) rfl (xB (zJ (e' := [(0, _), (1, _), (12, _), (13, _), (24, _)]) ⟨rfl, rfl, rfl, rfl, rfl, trivial⟩ (zB ?_))))))))))))
  refine zO rfl (fun hc24 => ?_) (fun hc24 => ?_)
  ·
   refine zC (zA (asg rfl rfl (zD (zB (zR (wY (zX (zX (wY (zX (yJ rfl rfl ?_)))))))))))
   rw [yX (fun e => hc24 (by rw [e]))]
  refine zL (yV (zB (zA (gv (zQ (q := 1) rfl rfl (by omega) (by omega)) rfl (mv rfl rfl (zD ?_))))))
  refine yQ (i + 1) ?_ ?_ ⟨rfl, rfl, rfl, ?_, trivial⟩ rfl rfl
  ·
   refine ⟨by omega, ?_⟩
   rw [lO xs i (by omega), lO ys i (by omega), ht]
   have e := Classical.not_not.1 hc24
   rw [e]
  ·
   omega
  · exact congrArg some (congrArg vI (by omega))
 refine xQ (yE (yE (xO (zB (zC (zA (asg rfl rfl (zD (zB (zR (yJ rfl rfl ?_)))))))))))
 have e1 : xs = ys := by
   have e : i = xs.length := by omega
   rw [e, List.take_length, hll, List.take_length] at ht
   exact ht
 rw [xS e1]
theorem aE {w0 : World} {h0 : Mem}  (hs : MLe h0 (mem w0)) {qa : Rat} {vna vda : Value} (hna : Us .u32 h0 vna (zF qa.num.natAbs)) (hda : Us .u32 h0 vda (zF (vK qa.den))) (hqa : lq qa ≤ 100000000000)  :
    Calls Tryz.prog 101 #[.agg #[vB (qa.num < 0), vna, vda]] w0 (Ret w0 h0 (fun _ r => r = vI (uY qa))) := by
 have hlna := vH qa
 have hlda := vL qa
 have hlDa := wZ qa
 refine zP (n := 11) (e := [(0, .agg #[vB (qa.num < 0), vna, vda])]) (vs := [.agg #[vB (qa.num < 0), vna, vda]]) Tryz.func101 rfl rfl (Nat.le_of_ble_eq_true rfl) hs ⟨rfl, trivial⟩ (zC (zA (zK (wW (cs := [_, _, _]) rfl rfl) rfl rfl rfl ?_)))
 intro v1 r1 hr1
 obtain ⟨b1, rfl, rfl⟩ := hr1
 refine asg (v := vI (0)) rfl rfl (zD (zB (zC (zS (zC (zA (gv (zI Tryz.underlying30 rfl Tryz.sizeOf28 rfl) rfl (gv (zU (.head _) Tryz.isAgg28 rfl rfl) rfl ?_))))))))
 refine zM (vs := [_]) rfl rfl rfl rfl Tryz.call123 ⟨rfl, trivial⟩ (fun w hs => aR hs hna (by omega)) ?_
 intro v6 h1 hh1 hr6
 try simp only [zV] at hr6
 subst hr6
 refine gv (xZ (q := 0) rfl rfl) rfl (asg rfl rfl (zD (zB ?_)))
 refine zO rfl (fun hc3 => ?_) (fun hc3 => ?_)
 ·
  refine zC (zA (asg (v := vI (0)) rfl rfl (zD (zB (zR (wY (zX (yJ rfl rfl ?_))))))))
  rw [rE (eS hc3)]
 refine zC (zA (gv (zI Tryz.underlying30 rfl Tryz.sizeOf4 rfl) rfl (gv (zU (.head _) Tryz.isAgg4 rfl rfl) rfl (asg rfl rfl (zD (zJ (e' := [(8, _)]) ⟨rfl, trivial⟩ (zB ?_)))))))
 refine zO rfl (fun hc8 => ?_) (fun hc8 => ?_)
 ·
  refine zC (zA (asg (v := vI (-1)) rfl rfl (zD (zB (zR (wY (zX (yJ rfl rfl ?_))))))))
  rw [bZ hc8]
 refine zL (yV (zB (zC (zA (asg (v := vI (1)) rfl rfl (zD (zB (zR (yJ rfl rfl ?_)))))))))
 rw [bY (fun h => hc3 (iB h)) hc8]
theorem rat_same {w0 : World} {h0 : Mem}  (hs : MLe h0 (mem w0)) {qa : Rat} {vna vda : Value} (hna : Us .u32 h0 vna (zF qa.num.natAbs)) (hda : Us .u32 h0 vda (zF (vK qa.den))) {qb : Rat} {vnb vdb : Value} (hnb : Us .u32 h0 vnb (zF qb.num.natAbs)) (hdb : Us .u32 h0 vdb (zF (vK qb.den))) (hqa : lq qa ≤ 100000000000) (hqb : lq qb ≤ 100000000000)  :
    Calls Tryz.prog 122 #[.agg #[vB (qa.num < 0), vna, vda], .agg #[vB (qb.num < 0), vnb, vdb]] w0 (Ret w0 h0 (fun _ r => r = vB (qa = qb))) := by
 have hlna := vH qa
 have hlda := vL qa
 have hlDa := wZ qa
 have hlnb := vH qb
 have hldb := vL qb
 have hlDb := wZ qb
 refine zP (n := 24) (e := [(0, .agg #[vB (qa.num < 0), vna, vda]), (1, .agg #[vB (qb.num < 0), vnb, vdb])]) (vs := [.agg #[vB (qa.num < 0), vna, vda], .agg #[vB (qb.num < 0), vnb, vdb]]) Tryz.func122 rfl rfl (Nat.le_of_ble_eq_true rfl) hs ⟨rfl, rfl, trivial⟩ (zC (zA (zK (wW (cs := [_, _, _]) rfl rfl) rfl rfl rfl ?_)))
 intro v2 r2 hr2
 obtain ⟨b2, rfl, rfl⟩ := hr2
 refine zK (wW (cs := [_, _, _]) rfl rfl) rfl rfl rfl ?_
 intro v3 r3 hr3
 obtain ⟨b3, rfl, rfl⟩ := hr3
 refine asg rfl rfl (zD (zB (zC (zA (gv (zI Tryz.underlying30 rfl Tryz.sizeOf4 rfl) rfl (gv (zU (.tail _ (.head _)) Tryz.isAgg4 rfl rfl) rfl (gv (zI Tryz.underlying30 rfl Tryz.sizeOf4 rfl) rfl (gv (zU (.head _) Tryz.isAgg4 rfl rfl) rfl (gv (tL Tryz.underlying4 rfl rfl) rfl ?_)))))))))
 refine vO (ι := Mem) 7 (fun m_ => MLe h0 m_) (fun _ => [(16, vB (((qa.num < 0) ↔ (qb.num < 0)) ∧ ((zF qa.num.natAbs) = (zF qb.num.natAbs)))), (2, vP b2 0), (3, vP b3 0)]) (fun _ => [.var b3 30 [vB (qb.num < 0), vnb, vdb], .var b2 30 [vB (qa.num < 0), vna, vda]]) (fun m_ => m_) ?_ ?_
 ·
  refine wM ((qa.num < 0) ↔ (qb.num < 0)) (fun hg => ?_) (fun hg => ?_)
  ·
   refine xH (zG (v := .bool true) (congrArg some (xS hg))) rfl rfl rfl (xA rfl rfl rfl (gv (zI Tryz.underlying30 rfl Tryz.sizeOf28 rfl) rfl (xA rfl rfl rfl (gv (zU (.tail _ (.head _)) Tryz.isAgg28 rfl rfl) rfl (xA rfl rfl rfl (gv (zI Tryz.underlying30 rfl Tryz.sizeOf28 rfl) rfl (xA rfl rfl rfl (gv (zU (.head _) Tryz.isAgg28 rfl rfl) rfl (xA rfl rfl rfl ?_)))))))))
   refine zM (vs := [_, _]) rfl rfl rfl rfl Tryz.call128 ⟨rfl, rfl, trivial⟩ (fun w hs => bX hs hna hnb) ?_
   intro v15 h1 hh1 hr15
   subst hr15
   refine gv (xK rfl rfl) rfl (zD ?_)
   refine yN h1 hh1 ⟨?_, rfl, rfl, trivial⟩ rfl rfl
   exact congrArg some (uI hg)
  refine xH (zG (v := .bool false) (congrArg some (yX hg))) rfl rfl rfl (yL rfl rfl rfl rfl rfl rfl (yL rfl rfl rfl rfl rfl rfl (yL rfl rfl rfl rfl rfl rfl (yL rfl rfl rfl rfl rfl rfl (yL rfl rfl rfl rfl rfl rfl (gv (wB rfl rfl) rfl (zD ?_)))))))
  refine yN h0 (MLe.refl _) ⟨?_, rfl, rfl, trivial⟩ rfl rfl
  exact congrArg some (uJ hg)
 intro mg1_5 hmmg1_5
 show GL _ _ _ _ _ _ _ [(16, vB (((qa.num < 0) ↔ (qb.num < 0)) ∧ ((zF qa.num.natAbs) = (zF qb.num.natAbs)))), (2, vP b2 0), (3, vP b3 0)] [.var b3 30 [vB (qb.num < 0), vnb, vdb], .var b2 30 [vB (qa.num < 0), vna, vda]] mg1_5
 refine vO (ι := Mem) 7 (fun m_ => MLe mg1_5 m_) (fun _ => [(23, vB ((((qa.num < 0) ↔ (qb.num < 0)) ∧ ((zF qa.num.natAbs) = (zF qb.num.natAbs))) ∧ ((zF (vK qa.den)) = (zF (vK qb.den)))))]) (fun _ => [.var b3 30 [vB (qb.num < 0), vnb, vdb], .var b2 30 [vB (qa.num < 0), vna, vda]]) (fun m_ => m_) ?_ ?_
 ·
  refine wM (((qa.num < 0) ↔ (qb.num < 0)) ∧ ((zF qa.num.natAbs) = (zF qb.num.natAbs))) (fun hg => ?_) (fun hg => ?_)
  ·
   refine xH (zG (v := .bool true) (congrArg some (xS hg))) rfl rfl rfl (xA rfl rfl rfl (gv (zI Tryz.underlying30 rfl Tryz.sizeOf28 rfl) rfl (xA rfl rfl rfl (gv (zU (.tail _ (.head _)) Tryz.isAgg28 rfl rfl) rfl (xA rfl rfl rfl (gv (zI Tryz.underlying30 rfl Tryz.sizeOf28 rfl) rfl (xA rfl rfl rfl (gv (zU (.head _) Tryz.isAgg28 rfl rfl) rfl (xA rfl rfl rfl ?_)))))))))
   replace hda := hda.mono hmmg1_5
   replace hdb := hdb.mono hmmg1_5
   refine zM (vs := [_, _]) rfl rfl rfl rfl Tryz.call128 ⟨rfl, rfl, trivial⟩ (fun w hs => bX hs hda hdb) ?_
   intro v22 h1 hh1 hr22
   subst hr22
   refine gv (xK rfl rfl) rfl (zD ?_)
   refine yN h1 hh1 ⟨?_, trivial⟩ rfl rfl
   exact congrArg some (uI hg)
  refine xH (zG (v := .bool false) (congrArg some (yX hg))) rfl rfl rfl (yL rfl rfl rfl rfl rfl rfl (yL rfl rfl rfl rfl rfl rfl (yL rfl rfl rfl rfl rfl rfl (yL rfl rfl rfl rfl rfl rfl (yL rfl rfl rfl rfl rfl rfl (gv (wB rfl rfl) rfl (zD ?_)))))))
  refine yN mg1_5 (MLe.refl _) ⟨?_, trivial⟩ rfl rfl
  exact congrArg some (uJ hg)
 intro mg1_12 hmmg1_12
 show GL _ _ _ _ _ _ _ [(23, vB ((((qa.num < 0) ↔ (qb.num < 0)) ∧ ((zF qa.num.natAbs) = (zF qb.num.natAbs))) ∧ ((zF (vK qa.den)) = (zF (vK qb.den)))))] [.var b3 30 [vB (qb.num < 0), vnb, vdb], .var b2 30 [vB (qa.num < 0), vna, vda]] mg1_12
 refine asg rfl rfl (zD (zB (zR (yJ rfl rfl ?_))))
 exact pR y8
theorem dD {w0 : World} {h0 : Mem}  (hs : MLe h0 (mem w0)) {qa : Rat} {vna vda : Value} (hna : Us .u32 h0 vna (zF qa.num.natAbs)) (hda : Us .u32 h0 vda (zF (vK qa.den))) {qb : Rat} {vnb vdb : Value} (hnb : Us .u32 h0 vnb (zF qb.num.natAbs)) (hdb : Us .u32 h0 vdb (zF (vK qb.den))) (hqa : lq qa ≤ 100000000000) (hqb : lq qb ≤ 100000000000)  :
    Calls Tryz.prog 104 #[.agg #[vB (qa.num < 0), vna, vda], .agg #[vB (qb.num < 0), vnb, vdb]] w0 (Ret w0 h0 (fun _ r => r = vI (kF qa qb))) := by
 have hlna := vH qa
 have hlda := vL qa
 have hlDa := wZ qa
 have hlnb := vH qb
 have hldb := vL qb
 have hlDb := wZ qb
 refine zP (n := 80) (e := [(0, .agg #[vB (qa.num < 0), vna, vda]), (1, .agg #[vB (qb.num < 0), vnb, vdb])]) (vs := [.agg #[vB (qa.num < 0), vna, vda], .agg #[vB (qb.num < 0), vnb, vdb]]) Tryz.func104 rfl rfl (Nat.le_of_ble_eq_true rfl) hs ⟨rfl, rfl, trivial⟩ (zC (zA (zK (wW (cs := [_, _, _]) rfl rfl) rfl rfl rfl ?_)))
 intro v2 r2 hr2
 obtain ⟨b2, rfl, rfl⟩ := hr2
 refine zK (wW (cs := [_, _, _]) rfl rfl) rfl rfl rfl ?_
 intro v3 r3 hr3
 obtain ⟨b3, rfl, rfl⟩ := hr3
 refine asg (v := vI (0)) rfl rfl (zD (zB (zC (zC ?_))))
 refine yI 6 _ [] [(0, .q), (2, .q), (1, .c), (3, .c), (4, .q), (5, .q)] xI (fun x hx => by cases hx) (by kernel_rfl) (fun x hx => by cases hx) (fun r hr => hr) (w_q rfl (fun h' L' hh hR => yH (vs := [_, _, _]) (hR _ (.tail _ (.head _))) Tryz.underlying30 rfl zZ rfl rfl) rfl (w_q rfl (fun h' L' hh hR => yH (vs := [_, _, _]) (hR _ (.head _)) Tryz.underlying30 rfl zZ rfl rfl) rfl ?_))
 refine w_c rfl ?_
 refine yD (vs := [_]) Tryz.call101 ⟨rfl, trivial⟩ (fun w hs => aE hs hna hda (by omega)) rfl ?_
 intro v15 h1 hh1 hr15
 have hsr15 := vY qa
 subst hr15
 refine w_c rfl ?_
 replace hnb := hnb.mono hh1
 replace hdb := hdb.mono hh1
 refine yD (vs := [_]) Tryz.call101 ⟨rfl, trivial⟩ (fun w hs => aE hs hnb hdb (by omega)) rfl ?_
 intro v17 h2 hh2 hr17
 have hsr17 := vY qb
 subst hr17
 refine w_q rfl (fun h' L' hh hR => zY rfl) rfl (w_q rfl (fun h' L' hh hR => zY rfl) rfl (xB (zB (zC (zA (mv rfl rfl (mv rfl rfl (gv (tK rfl rfl) rfl (zD (zB ?_))))))))))
 refine zO rfl (fun hc20 => ?_) (fun hc20 => ?_)
 ·
  refine wH (e' := [(5, _), (6, _)]) ⟨rfl, rfl, trivial⟩ (zC (zC (zA (mv rfl rfl (mv rfl rfl (gv (zW rfl rfl) rfl (zD (zB ?_))))))))
  refine zO rfl (fun hc23 => ?_) (fun hc23 => ?_)
  ·
   refine zC (zA (asg (v := vI (-1)) rfl rfl (zD (zB (zR (zX (zX (yJ rfl rfl ?_))))))))
   rw [lG hc20, if_pos hc23]
  refine zL (zB (zC (zA (asg (v := vI (1)) rfl rfl (zD (zB (zR (zX (yJ rfl rfl ?_)))))))))
  rw [lG hc20, if_neg hc23]
 have hss := y2 hc20
 refine wH (e' := [(2, _), (3, _)]) ⟨rfl, rfl, trivial⟩ (zL (zB (zC (zA (asg (v := vI (0)) rfl rfl (zD (zB ?_)))))))
 refine kV (ι := Mem) (fun (mc : (Mem)) => MLe h2 mc ∧ (True)) (fun (mc : (Mem)) => [(2, vP b2 0), (7, vI (cN qa qb))]) (fun (mc : (Mem)) => [.var b3 30 [vB (qb.num < 0), vnb, vdb], .var b2 30 [vB (qa.num < 0), vna, vda]]) (fun (mc : (Mem)) => mc) ?_ ?_
 ·
  refine zC (zA (gv (yH (vs := [_, _, _]) (.tail _ (.head _)) Tryz.underlying30 rfl zZ rfl rfl) rfl ?_))
  replace hna := hna.mono (hh1.trans hh2)
  replace hda := hda.mono (hh1.trans hh2)
  refine zM (vs := [_]) rfl rfl rfl rfl Tryz.call124 ⟨rfl, trivial⟩ (fun w hs => fV hs hna hda) ?_
  intro v26 h3 hh3 hr26
  subst hr26
  refine mv rfl rfl (gv (zN (vs := [_, _, _]) rfl rfl) rfl (gv (zN (vs := [_, _, _]) rfl rfl) rfl (gv (zN (vs := [_, _, _]) rfl rfl) rfl (asg rfl rfl (asg rfl rfl (asg rfl rfl (zD (zB (zC (zA (gv (zI Tryz.underlying30 rfl Tryz.sizeOf28 rfl) rfl (gv (zU (.tail _ (.head _)) Tryz.isAgg28 rfl rfl) rfl (gv (zI Tryz.underlying30 rfl Tryz.sizeOf28 rfl) rfl ?_)))))))))))))
  refine gv (zU (.head _) Tryz.isAgg28 rfl rfl) rfl ?_
  replace hda := hda.mono hh3
  replace hdb := hdb.mono (hh2.trans hh3)
  refine zM (vs := [_, _]) rfl rfl rfl rfl Tryz.call128 ⟨rfl, rfl, trivial⟩ (fun w hs => bX hs hda hdb) ?_
  intro v34 h4 hh4 hr34
  subst hr34
  refine zD (zJ (e' := [(2, _), (3, _), (7, _), (8, _), (9, _), (10, _), (34, _)]) ⟨rfl, rfl, rfl, rfl, rfl, rfl, rfl, trivial⟩ (zB ?_))
  refine zO rfl (fun hc34 => ?_) (fun hc34 => ?_)
  ·
   refine zA (gv (zI Tryz.underlying30 rfl Tryz.sizeOf28 rfl) rfl (gv (zU (.tail _ (.head _)) Tryz.isAgg28 rfl rfl) rfl (gv (zI Tryz.underlying30 rfl Tryz.sizeOf28 rfl) rfl (gv (zU (.head _) Tryz.isAgg28 rfl rfl) rfl ?_))))
   replace hna := hna.mono (hh3.trans hh4)
   replace hnb := hnb.mono ((hh2.trans hh3).trans hh4)
   refine zM (vs := [_, _]) rfl rfl rfl rfl Tryz.call129 ⟨rfl, rfl, trivial⟩ (fun w hs => nV hs hna hnb) ?_
   intro v39 h5 hh5 hr39
   try simp only [zV] at hr39
   subst hr39
   refine asg rfl rfl (zD ?_)
   refine yN (h5) ?_ ⟨rfl, ?_, trivial⟩ rfl rfl
   ·
    refine ⟨((hh3.trans hh4).trans hh5), ?_⟩
    trivial
   · exact congrArg some (congrArg vI ((cN_den hc34).symm))
  refine zC (zA (gv (yH (vs := [_, _, _]) (.head _) Tryz.underlying30 rfl zZ rfl rfl) rfl ?_))
  replace hnb := hnb.mono ((hh2.trans hh3).trans hh4)
  replace hdb := hdb.mono hh4
  refine zM (vs := [_]) rfl rfl rfl rfl Tryz.call124 ⟨rfl, trivial⟩ (fun w hs => fV hs hnb hdb) ?_
  intro v42 h5 hh5 hr42
  subst hr42
  refine mv rfl rfl (gv (zN (vs := [_, _, _]) rfl rfl) rfl (gv (zN (vs := [_, _, _]) rfl rfl) rfl (gv (zN (vs := [_, _, _]) rfl rfl) rfl (asg rfl rfl (asg rfl rfl (asg rfl rfl (zD (zB (zC (zA (mv rfl rfl ?_)))))))))))
  refine vO (ι := Unit) 3 (fun _ => True) (fun _ => [(49, vB ((kR qa) ∧ (kR qb))), (2, vP b2 0), (3, vP b3 0), (7, vI (0)), (8, vU .u64 (pN qa)), (9, vU .u64 (pD qa)), (11, vU .u64 (pN qb)), (12, vU .u64 (pD qb))]) (fun _ => [.var b3 30 [vB (qb.num < 0), vnb, vdb], .var b2 30 [vB (qa.num < 0), vna, vda]]) (fun _ => h5) ?_ ?_
  ·
   refine wM (kR qa) (fun hg => ?_) (fun hg => ?_)
   ·
    refine xH (zG (v := .bool true) (congrArg some (xS hg))) rfl rfl rfl (xA rfl rfl rfl (mv rfl rfl (gv (xK rfl rfl) rfl (zD ?_))))
    refine yN () trivial ⟨?_, rfl, rfl, rfl, rfl, rfl, rfl, rfl, trivial⟩ rfl rfl
    exact congrArg some (uI hg)
   refine xH (zG (v := .bool false) (congrArg some (yX hg))) rfl rfl rfl (yL rfl rfl rfl rfl rfl rfl (gv (wB rfl rfl) rfl (zD ?_)))
   refine yN () trivial ⟨?_, rfl, rfl, rfl, rfl, rfl, rfl, rfl, trivial⟩ rfl rfl
   exact congrArg some (uJ hg)
  intro _ _
  show GL _ _ _ _ _ _ _ [(49, vB ((kR qa) ∧ (kR qb))), (2, vP b2 0), (3, vP b3 0), (7, vI (0)), (8, vU .u64 (pN qa)), (9, vU .u64 (pD qa)), (11, vU .u64 (pN qb)), (12, vU .u64 (pD qb))] [.var b3 30 [vB (qb.num < 0), vnb, vdb], .var b2 30 [vB (qa.num < 0), vna, vda]] h5
  refine zD (zB ?_)
  refine zO rfl (fun hc49 => ?_) (fun hc49 => ?_)
  ·
   have hsa := hc49.1
   have hsb := hc49.2
   have hpa := kP hsa
   have hra := kQ hsa
   have hpb := kP hsb
   have hrb := kQ hsb
   have hm1 := qA hpa hrb
   have hm2 := qA hpb hra
   rw [eP hsa, eQ hsa, eP hsb, eQ hsb]
   refine zC (zA (mv rfl rfl (mv rfl rfl (gv (qV (k := .u64) (W := 18446744073709551616) rfl rfl rfl rfl (by omega)) rfl (mv rfl rfl (mv rfl rfl (gv (qV (k := .u64) (W := 18446744073709551616) rfl rfl rfl rfl (by omega)) rfl (gv (aJ (k := .u64) rfl rfl) rfl (zD (zB ?_))))))))))
   refine zO rfl (fun hc56 => ?_) (fun hc56 => ?_)
   ·
    refine wH (e' := [(2, _)]) ⟨rfl, trivial⟩ (zA (asg (v := vI (-1)) rfl rfl (zD ?_)))
    refine yN (h5) ?_ ⟨rfl, ?_, trivial⟩ rfl rfl
    ·
     refine ⟨((hh3.trans hh4).trans hh5), ?_⟩
     trivial
    · exact congrArg some (congrArg vI ((lH hc56).symm))
   refine zC (zA (mv rfl rfl (mv rfl rfl (gv (qV (k := .u64) (W := 18446744073709551616) rfl rfl rfl rfl (by omega)) rfl (mv rfl rfl (mv rfl rfl (gv (qV (k := .u64) (W := 18446744073709551616) rfl rfl rfl rfl (by omega)) rfl (gv (aK (k := .u64) rfl rfl) rfl (zD (zJ (e' := [(2, _), (7, _), (63, _)]) ⟨rfl, rfl, rfl, trivial⟩ (zB ?_)))))))))))
   refine zO rfl (fun hc63 => ?_) (fun hc63 => ?_)
   ·
    refine zA (asg (v := vI (1)) rfl rfl (zD ?_))
    refine yN (h5) ?_ ⟨rfl, ?_, trivial⟩ rfl rfl
    ·
     refine ⟨((hh3.trans hh4).trans hh5), ?_⟩
     trivial
    · exact congrArg some (congrArg vI ((lI hc63).symm))
   refine zL ?_
   refine yN (h5) ?_ ⟨rfl, ?_, trivial⟩ rfl rfl
   ·
    refine ⟨((hh3.trans hh4).trans hh5), ?_⟩
    trivial
   · exact congrArg some (congrArg vI ((nE.2 (by omega)).symm))
  refine yI 12 _ [] [(0, .q), (1, .q), (2, .q), (5, .q), (6, .q), (7, .q), (3, .c), (4, .c), (8, .c), (9, .c), (10, .c), (11, .q)] xI (fun x hx => by cases hx) (by kernel_rfl) (fun x hx => by cases hx) (fun r hr => hr) (w_q rfl (fun h' L' hh hR => zI Tryz.underlying30 rfl Tryz.sizeOf28 rfl) rfl (w_q rfl (fun h' L' hh hR => zU (hR _ (.tail _ (.head _))) Tryz.isAgg28 rfl rfl) rfl (w_q rfl (fun h' L' hh hR => yH (vs := [_, _, _]) (hR _ (.head _)) Tryz.underlying30 rfl zZ rfl rfl) rfl (w_q rfl (fun h' L' hh hR => zI Tryz.underlying30 rfl Tryz.sizeOf28 rfl) rfl (w_q rfl (fun h' L' hh hR => zU (hR _ (.head _)) Tryz.isAgg28 rfl rfl) rfl (w_q rfl (fun h' L' hh hR => yH (vs := [_, _, _]) (hR _ (.tail _ (.head _))) Tryz.underlying30 rfl zZ rfl rfl) rfl ?_))))))
  refine w_c rfl ?_
  replace hnb := hnb.mono hh5
  replace hdb := hdb.mono hh5
  refine yD (vs := [_]) Tryz.call127 ⟨rfl, trivial⟩ (fun w hs => gE hs hnb hdb) rfl ?_
  intro v67 h6 hh6 hr67
  rw [uF] at hr67
  refine w_c rfl ?_
  replace hna := hna.mono (((hh3.trans hh4).trans hh5).trans hh6)
  refine yD (vs := [_, _]) Tryz.call126 ⟨rfl, rfl, trivial⟩ (fun w hs => gU hs hna hr67 (by omega) (by omega)) rfl ?_
  intro v68 h7 hh7 hr68
  try simp only [zV] at hr68
  have hlm68 := xN ((qa.num.natAbs)) ((qb.den))
  refine w_c rfl ?_
  replace hna := hna.mono hh7
  replace hda := hda.mono (((hh4.trans hh5).trans hh6).trans hh7)
  refine yD (vs := [_]) Tryz.call127 ⟨rfl, trivial⟩ (fun w hs => gE hs hna hda) rfl ?_
  intro v72 h8 hh8 hr72
  rw [uF] at hr72
  refine w_c rfl ?_
  replace hnb := hnb.mono ((hh6.trans hh7).trans hh8)
  refine yD (vs := [_, _]) Tryz.call126 ⟨rfl, rfl, trivial⟩ (fun w hs => gU hs hnb hr72 (by omega) (by omega)) rfl ?_
  intro v73 h9 hh9 hr73
  try simp only [zV] at hr73
  have hlm73 := xN ((qb.num.natAbs)) ((qa.den))
  refine w_c rfl ?_
  replace hr68 := hr68.mono (hh8.trans hh9)
  refine yD (vs := [_, _]) Tryz.call129 ⟨rfl, rfl, trivial⟩ (fun w hs => nV hs hr68 hr73) rfl ?_
  intro v74 h10 hh10 hr74
  try simp only [zV] at hr74
  subst hr74
  refine w_q rfl (fun h' L' hh hR => zY rfl) rfl (xB ?_)
  refine yN (h10) ?_ ⟨rfl, rfl, trivial⟩ rfl rfl
  refine ⟨(((((((hh3.trans hh4).trans hh5).trans hh6).trans hh7).trans hh8).trans hh9).trans hh10), ?_⟩
  trivial
 intro mc hx
 obtain ⟨hmmc, hcut⟩ := hx
 show GC _ _ _ _ _ _ [(2, vP b2 0), (7, vI (cN qa qb))] [.var b3 30 [vB (qb.num < 0), vnb, vdb], .var b2 30 [vB (qa.num < 0), vna, vda]] mc
 have hcr := f5 qa qb
 refine zC (zC (zA (gv (zI Tryz.underlying30 rfl Tryz.sizeOf4 rfl) rfl (gv (zU (.tail _ (.head _)) Tryz.isAgg4 rfl rfl) rfl (zD (zB ?_))))))
 refine zO rfl (fun hc76 => ?_) (fun hc76 => ?_)
 ·
  refine zC (zA (mv rfl rfl (gv (aI rfl (by omega) (by omega)) rfl (asg rfl rfl (zD (zB (zR (zX (yJ rfl rfl ?_)))))))))
  rw [cmpQ_cN hss hc76]
 refine zL (zB (zC (zA (mv rfl rfl (asg rfl rfl (zD (zB (zR (yJ rfl rfl ?_)))))))))
 rw [g9 hss hc76]
theorem rat_mul {w0 : World} {h0 : Mem}  (hs : MLe h0 (mem w0)) {qa : Rat} {vna vda : Value} (hna : Us .u32 h0 vna (zF qa.num.natAbs)) (hda : Us .u32 h0 vda (zF (vK qa.den))) {qb : Rat} {vnb vdb : Value} (hnb : Us .u32 h0 vnb (zF qb.num.natAbs)) (hdb : Us .u32 h0 vdb (zF (vK qb.den))) (hqa : lq qa ≤ 100000000000) (hqb : lq qb ≤ 100000000000)  :
    Calls Tryz.prog 103 #[.agg #[vB (qa.num < 0), vna, vda], .agg #[vB (qb.num < 0), vnb, vdb]] w0 (Ret w0 h0 (fun h r => vQ h r (qa * qb))) := by
 have hlna := vH qa
 have hlda := vL qa
 have hlDa := wZ qa
 have hlnb := vH qb
 have hldb := vL qb
 have hlDb := wZ qb
 rw [← mul_eq]
 refine zP (n := 64) (e := [(0, .agg #[vB (qa.num < 0), vna, vda]), (1, .agg #[vB (qb.num < 0), vnb, vdb])]) (vs := [.agg #[vB (qa.num < 0), vna, vda], .agg #[vB (qb.num < 0), vnb, vdb]]) Tryz.func103 rfl rfl (Nat.le_of_ble_eq_true rfl) hs ⟨rfl, rfl, trivial⟩ (zC (zA (zK (wW (cs := [_, _, _]) rfl rfl) rfl rfl rfl ?_)))
 intro v2 r2 hr2
 obtain ⟨b2, rfl, rfl⟩ := hr2
 refine zK (wW (cs := [_, _, _]) rfl rfl) rfl rfl rfl ?_
 intro v3 r3 hr3
 obtain ⟨b3, rfl, rfl⟩ := hr3
 refine zK (vN (cs := [vB ((0 : Rat).num < 0), .slice none 0 0, .slice none 0 0]) wP rfl (by simp only [zb]; rfl)) rfl rfl rfl ?_
 intro v4 r4 hr4
 obtain ⟨b4, rfl, rfl⟩ := hr4
 refine zD (zB (zC (zC (zA (gv (zI Tryz.underlying30 rfl Tryz.sizeOf28 rfl) rfl (gv (zU (.tail _ (.tail _ (.head _))) Tryz.isAgg28 rfl rfl) rfl (gv (yA Tryz.underlying28 rfl hna) rfl (gv (xZ (q := 0) rfl rfl) rfl ?_))))))))
 refine vO (ι := Unit) 6 (fun _ => True) (fun _ => [(20, vB (((↑(zF qa.num.natAbs).length : Int) = (0 : Int)) ∨ ((↑(zF qb.num.natAbs).length : Int) = (0 : Int)))), (2, vP b2 0), (3, vP b3 0), (4, vP b4 0)]) (fun _ => [.var b4 30 [vB ((0 : Rat).num < 0), .slice none 0 0, .slice none 0 0], .var b3 30 [vB (qb.num < 0), vnb, vdb], .var b2 30 [vB (qa.num < 0), vna, vda]]) (fun _ => h0) ?_ ?_
 ·
  refine wM ((↑(zF qa.num.natAbs).length : Int) = (0 : Int)) (fun hg => ?_) (fun hg => ?_)
  ·
   refine xH (zG (v := .bool true) (congrArg some (xS hg))) rfl rfl rfl (yL rfl rfl rfl rfl rfl rfl (yL rfl rfl rfl rfl rfl rfl (yL rfl rfl rfl rfl rfl rfl (yL rfl rfl rfl rfl rfl rfl (gv (xK rfl rfl) rfl (zD ?_))))))
   refine yN () trivial ⟨?_, rfl, rfl, rfl, trivial⟩ rfl rfl
   exact congrArg some (qR hg)
  refine xH (zG (v := .bool false) (congrArg some (yX hg))) rfl rfl rfl (xA rfl rfl rfl (gv (zI Tryz.underlying30 rfl Tryz.sizeOf28 rfl) rfl (xA rfl rfl rfl (gv (zU (.tail _ (.head _)) Tryz.isAgg28 rfl rfl) rfl (xA rfl rfl rfl (gv (yA Tryz.underlying28 rfl hnb) rfl (xA rfl rfl rfl (gv (xZ (q := 0) rfl rfl) rfl (gv (wB rfl rfl) rfl (zD ?_))))))))))
  refine yN () trivial ⟨?_, rfl, rfl, rfl, trivial⟩ rfl rfl
  exact congrArg some (qS hg)
 intro _ _
 show GL _ _ _ _ _ _ _ [(20, vB (((↑(zF qa.num.natAbs).length : Int) = (0 : Int)) ∨ ((↑(zF qb.num.natAbs).length : Int) = (0 : Int)))), (2, vP b2 0), (3, vP b3 0), (4, vP b4 0)] [.var b4 30 [vB ((0 : Rat).num < 0), .slice none 0 0, .slice none 0 0], .var b3 30 [vB (qb.num < 0), vnb, vdb], .var b2 30 [vB (qa.num < 0), vna, vda]] h0
 refine zD (zB ?_)
 refine zO rfl (fun hc20 => ?_) (fun hc20 => ?_)
 ·
  refine zC (zA (gv (wN (ps' := []) (vs := [vB ((0 : Rat).num < 0), .slice none 0 0, .slice none 0 0]) Tryz.underlying30 wP rfl (qE Tryz.underlying30) trivial (by simp only [zb]; exact qD)) rfl (wT (A := []) (r' := .var b4 30 [vB ((0 : Rat).num < 0), .slice none 0 0, .slice none 0 0]) (yC (k := 0) (cs := [_, _, _]) (vs := [_, _, _]) rfl rfl rfl rfl zZ (Nat.le_of_ble_eq_true rfl)) rfl rfl rfl (zD (zB (zR (zX (xX (fun E S => yP rfl (wS (cs := [_, _, _]) (.head _) Tryz.underlying30 rfl zZ rfl) E S) ?_))))))))
  rcases hc20 with h | h
  · rw [tM h, show (0 : Rat).num.natAbs = 0 from rfl, Nat.zero_mul, aT]; exact vQ.zero _
  · rw [tM h, show (0 : Rat).num.natAbs = 0 from rfl, Nat.mul_zero, aT]; exact vQ.zero _
 refine zL (zB (zC (zC (zA (gv (yH (vs := [_, _, _]) (.tail _ (.tail _ (.head _))) Tryz.underlying30 rfl zZ rfl rfl) rfl ?_)))))
 refine zM (vs := [_]) rfl rfl rfl rfl Tryz.call124 ⟨rfl, trivial⟩ (fun w hs => fV hs hna hda) ?_
 intro v24 h1 hh1 hr24
 subst hr24
 refine mv rfl rfl (gv (zN (vs := [_, _, _]) rfl rfl) rfl (gv (zN (vs := [_, _, _]) rfl rfl) rfl (gv (zN (vs := [_, _, _]) rfl rfl) rfl (asg rfl rfl (asg rfl rfl (asg rfl rfl (zD (zB (zC (zA (mv rfl rfl (zD (zB ?_)))))))))))))
 refine zO rfl (fun hc28 => ?_) (fun hc28 => ?_)
 ·
  have hsa := hc28
  have hpa := kP hsa
  have hra := kQ hsa
  refine zC (zA (gv (yH (vs := [_, _, _]) (.tail _ (.head _)) Tryz.underlying30 rfl zZ rfl rfl) rfl ?_))
  replace hnb := hnb.mono hh1
  replace hdb := hdb.mono hh1
  refine zM (vs := [_]) rfl rfl rfl rfl Tryz.call124 ⟨rfl, trivial⟩ (fun w hs => fV hs hnb hdb) ?_
  intro v31 h2 hh2 hr31
  subst hr31
  refine mv rfl rfl (gv (zN (vs := [_, _, _]) rfl rfl) rfl (gv (zN (vs := [_, _, _]) rfl rfl) rfl (gv (zN (vs := [_, _, _]) rfl rfl) rfl (asg rfl rfl (asg rfl rfl (asg rfl rfl (zD (zJ (e' := [(2, _), (3, _), (4, _), (5, _), (6, _), (8, _), (9, _), (10, _)]) ⟨rfl, rfl, rfl, rfl, rfl, rfl, rfl, rfl, trivial⟩ (zB (zC (zA (mv rfl rfl (zD ?_)))))))))))))
  refine zB ?_
  refine zO rfl (fun hc35 => ?_) (fun hc35 => ?_)
  ·
   have hsb := hc35
   have hpb := kP hsb
   have hrb := kQ hsb
   have hm1 := qA hpa hrb
   have hm2 := qA hpb hra
   have hm3 := qA hra hrb
   have hm4 := qA hpa hpb
   have hm5 := qA hra hpb
   have hd0 : qa.den * qb.den ≠ 0 := Nat.mul_ne_zero qa.den_nz qb.den_nz
   simp only [eP hsa, eQ hsa, eP hsb, eQ hsb]
   refine zC (zA (gv (zI Tryz.underlying30 rfl Tryz.sizeOf4 rfl) rfl (gv (zU (.tail _ (.tail _ (.head _))) Tryz.isAgg4 rfl rfl) rfl (gv (zI Tryz.underlying30 rfl Tryz.sizeOf4 rfl) rfl (gv (zU (.tail _ (.head _)) Tryz.isAgg4 rfl rfl) rfl (gv (gI Tryz.underlying4 rfl rfl) rfl (mv rfl rfl (mv rfl rfl (gv (qV (k := .u64) (W := 18446744073709551616) rfl rfl rfl rfl (by omega)) rfl (mv rfl rfl (mv rfl rfl (gv (qV (k := .u64) (W := 18446744073709551616) rfl rfl rfl rfl (by omega)) rfl ?_))))))))))))
   refine zM (vs := [_, _, _]) rfl rfl rfl rfl Tryz.call125 ⟨rfl, rfl, rfl, trivial⟩ (fun w hs => tY hs (by omega) (by omega) (by omega)) ?_
   intro v47 h3 hh3 hr47
   obtain ⟨vn47, vd47, rfl, hn47, hd47⟩ := hr47
   refine wT (A := []) (r' := .var b4 30 [vB ((mkRat (sg (¬ ((qa.num < 0) ↔ (qb.num < 0))) (qa.num.natAbs * qb.num.natAbs)) (qa.den * qb.den)).num < 0), vn47, vd47]) (yC (k := 0) (cs := [_, _, _]) (vs := [_, _, _]) rfl rfl rfl (ocr rfl (ocu hn47 (ocu hd47 oc0))) zZ (Nat.le_of_ble_eq_true rfl)) rfl rfl rfl (zD (zJ (e' := [(4, _)]) ⟨rfl, trivial⟩ (zB (zR (zX (xX (fun E S => yP rfl (wS (cs := [_, _, _]) (.head _) Tryz.underlying30 rfl zZ rfl) E S) ?_))))))
   exact ⟨_, _, rfl, hn47, hd47⟩
  refine zL (zB (zC ?_))
  refine yI 16 _ [] [(0, .q), (1, .q), (2, .q), (3, .q), (4, .q), (5, .q), (6, .q), (7, .q), (8, .q), (10, .q), (12, .q), (9, .c), (11, .c), (13, .c), (14, .c), (15, .c), (16, .t)] xI (fun x hx => by cases hx) (by kernel_rfl) (fun x hx => by cases hx) (fun r hr => hr) (w_q rfl (fun h' L' hh hR => zI Tryz.underlying30 rfl Tryz.sizeOf4 rfl) rfl (w_q rfl (fun h' L' hh hR => zU (hR _ (.tail _ (.tail _ (.head _)))) Tryz.isAgg4 rfl rfl) rfl (w_q rfl (fun h' L' hh hR => zI Tryz.underlying30 rfl Tryz.sizeOf4 rfl) rfl (w_q rfl (fun h' L' hh hR => zU (hR _ (.tail _ (.head _))) Tryz.isAgg4 rfl rfl) rfl (w_q rfl (fun h' L' hh hR => gI Tryz.underlying4 rfl rfl) rfl (w_q rfl (fun h' L' hh hR => zI Tryz.underlying30 rfl Tryz.sizeOf28 rfl) rfl (w_q rfl (fun h' L' hh hR => zU (hR _ (.tail _ (.tail _ (.head _)))) Tryz.isAgg28 rfl rfl) rfl (w_q rfl (fun h' L' hh hR => zI Tryz.underlying30 rfl Tryz.sizeOf28 rfl) rfl (w_q rfl (fun h' L' hh hR => zU (hR _ (.tail _ (.head _))) Tryz.isAgg28 rfl rfl) rfl (w_q rfl (fun h' L' hh hR => yH (vs := [_, _, _]) (hR _ (.tail _ (.tail _ (.head _)))) Tryz.underlying30 rfl zZ rfl rfl) rfl (w_q rfl (fun h' L' hh hR => yH (vs := [_, _, _]) (hR _ (.tail _ (.head _))) Tryz.underlying30 rfl zZ rfl rfl) rfl ?_)))))))))))
  refine w_c rfl ?_
  replace hna := hna.mono (hh1.trans hh2)
  replace hnb := hnb.mono hh2
  refine yD (vs := [_, _]) Tryz.call126 ⟨rfl, rfl, trivial⟩ (fun w hs => gU hs hna hnb (by omega) (by omega)) rfl ?_
  intro v57 h3 hh3 hr57
  try simp only [zV] at hr57
  have hlm57 := xN ((qa.num.natAbs)) ((qb.num.natAbs))
  refine w_c rfl ?_
  replace hna := hna.mono hh3
  replace hda := hda.mono ((hh1.trans hh2).trans hh3)
  refine yD (vs := [_]) Tryz.call127 ⟨rfl, trivial⟩ (fun w hs => gE hs hna hda) rfl ?_
  intro v59 h4 hh4 hr59
  rw [uF] at hr59
  refine w_c rfl ?_
  replace hnb := hnb.mono (hh3.trans hh4)
  replace hdb := hdb.mono ((hh2.trans hh3).trans hh4)
  refine yD (vs := [_]) Tryz.call127 ⟨rfl, trivial⟩ (fun w hs => gE hs hnb hdb) rfl ?_
  intro v61 h5 hh5 hr61
  rw [uF] at hr61
  refine w_c rfl ?_
  replace hr59 := hr59.mono hh5
  refine yD (vs := [_, _]) Tryz.call126 ⟨rfl, rfl, trivial⟩ (fun w hs => gU hs hr59 hr61 (by omega) (by omega)) rfl ?_
  intro v62 h6 hh6 hr62
  try simp only [zV] at hr62
  have hlm62 := xN ((qa.den)) ((qb.den))
  refine w_c rfl ?_
  replace hr57 := hr57.mono ((hh4.trans hh5).trans hh6)
  refine yD (vs := [_, _, _]) Tryz.call106 ⟨rfl, rfl, rfl, trivial⟩ (fun w hs => kA hs hr57 hr62 (by omega) (by omega)) rfl ?_
  intro v63 h7 hh7 hr63
  try simp only [zV] at hr63
  obtain ⟨vn63, vd63, rfl, hn63, hd63⟩ := hr63
  refine gQ (A := []) (q' := .var b4 30 [vB ((mkRat (sg (¬ ((qa.num < 0) ↔ (qb.num < 0))) (((((qa.num.natAbs)) * ((qb.num.natAbs)))))) (((((qa.den)) * ((qb.den)))))).num < 0), vn63, vd63]) rfl (yC (k := 0) (cs := [_, _, _]) (vs := [_, _, _]) rfl rfl rfl (ocr rfl (ocu hn63 (ocu hd63 oc0))) zZ (Nat.le_of_ble_eq_true rfl)) rfl (xB (zJ (e' := [(4, _)]) ⟨rfl, trivial⟩ (zB (zR (xX (fun E S => yP rfl (wS (cs := [_, _, _]) (.head _) Tryz.underlying30 rfl zZ rfl) E S) ?_)))))
  exact ⟨_, _, rfl, hn63, hd63⟩
 refine wH (e' := [(2, _), (3, _), (4, _)]) ⟨rfl, rfl, rfl, trivial⟩ (zL (zB (zC ?_)))
 refine yI 16 _ [] [(0, .q), (1, .q), (2, .q), (3, .q), (4, .q), (5, .q), (6, .q), (7, .q), (8, .q), (10, .q), (12, .q), (9, .c), (11, .c), (13, .c), (14, .c), (15, .c), (16, .t)] xI (fun x hx => by cases hx) (by kernel_rfl) (fun x hx => by cases hx) (fun r hr => hr) (w_q rfl (fun h' L' hh hR => zI Tryz.underlying30 rfl Tryz.sizeOf4 rfl) rfl (w_q rfl (fun h' L' hh hR => zU (hR _ (.tail _ (.tail _ (.head _)))) Tryz.isAgg4 rfl rfl) rfl (w_q rfl (fun h' L' hh hR => zI Tryz.underlying30 rfl Tryz.sizeOf4 rfl) rfl (w_q rfl (fun h' L' hh hR => zU (hR _ (.tail _ (.head _))) Tryz.isAgg4 rfl rfl) rfl (w_q rfl (fun h' L' hh hR => gI Tryz.underlying4 rfl rfl) rfl (w_q rfl (fun h' L' hh hR => zI Tryz.underlying30 rfl Tryz.sizeOf28 rfl) rfl (w_q rfl (fun h' L' hh hR => zU (hR _ (.tail _ (.tail _ (.head _)))) Tryz.isAgg28 rfl rfl) rfl (w_q rfl (fun h' L' hh hR => zI Tryz.underlying30 rfl Tryz.sizeOf28 rfl) rfl (w_q rfl (fun h' L' hh hR => zU (hR _ (.tail _ (.head _))) Tryz.isAgg28 rfl rfl) rfl (w_q rfl (fun h' L' hh hR => yH (vs := [_, _, _]) (hR _ (.tail _ (.tail _ (.head _)))) Tryz.underlying30 rfl zZ rfl rfl) rfl (w_q rfl (fun h' L' hh hR => yH (vs := [_, _, _]) (hR _ (.tail _ (.head _))) Tryz.underlying30 rfl zZ rfl rfl) rfl ?_)))))))))))
 refine w_c rfl ?_
 replace hna := hna.mono hh1
 replace hnb := hnb.mono hh1
 refine yD (vs := [_, _]) Tryz.call126 ⟨rfl, rfl, trivial⟩ (fun w hs => gU hs hna hnb (by omega) (by omega)) rfl ?_
 intro v57 h2 hh2 hr57
 try simp only [zV] at hr57
 have hlm57 := xN ((qa.num.natAbs)) ((qb.num.natAbs))
 refine w_c rfl ?_
 replace hna := hna.mono hh2
 replace hda := hda.mono (hh1.trans hh2)
 refine yD (vs := [_]) Tryz.call127 ⟨rfl, trivial⟩ (fun w hs => gE hs hna hda) rfl ?_
 intro v59 h3 hh3 hr59
 rw [uF] at hr59
 refine w_c rfl ?_
 replace hnb := hnb.mono (hh2.trans hh3)
 replace hdb := hdb.mono ((hh1.trans hh2).trans hh3)
 refine yD (vs := [_]) Tryz.call127 ⟨rfl, trivial⟩ (fun w hs => gE hs hnb hdb) rfl ?_
 intro v61 h4 hh4 hr61
 rw [uF] at hr61
 refine w_c rfl ?_
 replace hr59 := hr59.mono hh4
 refine yD (vs := [_, _]) Tryz.call126 ⟨rfl, rfl, trivial⟩ (fun w hs => gU hs hr59 hr61 (by omega) (by omega)) rfl ?_
 intro v62 h5 hh5 hr62
 try simp only [zV] at hr62
 have hlm62 := xN ((qa.den)) ((qb.den))
 refine w_c rfl ?_
 replace hr57 := hr57.mono ((hh3.trans hh4).trans hh5)
 refine yD (vs := [_, _, _]) Tryz.call106 ⟨rfl, rfl, rfl, trivial⟩ (fun w hs => kA hs hr57 hr62 (by omega) (by omega)) rfl ?_
 intro v63 h6 hh6 hr63
 try simp only [zV] at hr63
 obtain ⟨vn63, vd63, rfl, hn63, hd63⟩ := hr63
 refine gQ (A := []) (q' := .var b4 30 [vB ((mkRat (sg (¬ ((qa.num < 0) ↔ (qb.num < 0))) (((((qa.num.natAbs)) * ((qb.num.natAbs)))))) (((((qa.den)) * ((qb.den)))))).num < 0), vn63, vd63]) rfl (yC (k := 0) (cs := [_, _, _]) (vs := [_, _, _]) rfl rfl rfl (ocr rfl (ocu hn63 (ocu hd63 oc0))) zZ (Nat.le_of_ble_eq_true rfl)) rfl (xB (zJ (e' := [(4, _)]) ⟨rfl, trivial⟩ (zB (zR (xX (fun E S => yP rfl (wS (cs := [_, _, _]) (.head _) Tryz.underlying30 rfl zZ rfl) E S) ?_)))))
 exact ⟨_, _, rfl, hn63, hd63⟩
theorem rat_quo {w0 : World} {h0 : Mem}  (hs : MLe h0 (mem w0)) {qa : Rat} {vna vda : Value} (hna : Us .u32 h0 vna (zF qa.num.natAbs)) (hda : Us .u32 h0 vda (zF (vK qa.den))) {qb : Rat} {vnb vdb : Value} (hnb : Us .u32 h0 vnb (zF qb.num.natAbs)) (hdb : Us .u32 h0 vdb (zF (vK qb.den))) (hqa : lq qa ≤ 100000000000) (hqb : lq qb ≤ 100000000000)  :
    Calls Tryz.prog 110 #[.agg #[vB (qa.num < 0), vna, vda], .agg #[vB (qb.num < 0), vnb, vdb]] w0 (Ret w0 h0 (fun h r => ∃ u, r = .tuple #[u, vI (if qb = 0 then 3 else 0)] ∧ vQ h u (if qb = 0 then 0 else qa / qb))) := by
 have hlna := vH qa
 have hlda := vL qa
 have hlDa := wZ qa
 have hlnb := vH qb
 have hldb := vL qb
 have hlDb := wZ qb
 refine zP (n := 58) (e := [(0, .agg #[vB (qa.num < 0), vna, vda]), (1, .agg #[vB (qb.num < 0), vnb, vdb])]) (vs := [.agg #[vB (qa.num < 0), vna, vda], .agg #[vB (qb.num < 0), vnb, vdb]]) Tryz.func110 rfl rfl (Nat.le_of_ble_eq_true rfl) hs ⟨rfl, rfl, trivial⟩ (zC (zA (zK (wW (cs := [_, _, _]) rfl rfl) rfl rfl rfl ?_)))
 intro v2 r2 hr2
 obtain ⟨b2, rfl, rfl⟩ := hr2
 refine zK (wW (cs := [_, _, _]) rfl rfl) rfl rfl rfl ?_
 intro v3 r3 hr3
 obtain ⟨b3, rfl, rfl⟩ := hr3
 refine zK (vN (cs := [vB ((0 : Rat).num < 0), .slice none 0 0, .slice none 0 0]) wP rfl (by simp only [zb]; rfl)) rfl rfl rfl ?_
 intro v4 r4 hr4
 obtain ⟨b4, rfl, rfl⟩ := hr4
 refine asg (v := vI (0)) rfl rfl (zD (zB (zC (zC (zA (gv (yH (vs := [_, _, _]) (.tail _ (.head _)) Tryz.underlying30 rfl zZ rfl rfl) rfl ?_))))))
 refine zM (vs := [_]) rfl rfl rfl rfl Tryz.call101 ⟨rfl, trivial⟩ (fun w hs => aE hs hnb hdb (by omega)) ?_
 intro v13 h1 hh1 hr13
 have hsr13 := vY qb
 subst hr13
 refine gv (xZ (q := 0) rfl rfl) rfl (zD (zB ?_))
 refine zO rfl (fun hc14 => ?_) (fun hc14 => ?_)
 ·
  have hb0 := uK.1 hc14
  rw [if_pos hb0, if_pos hb0]
  refine zC (zA (gv (wN (ps' := []) (vs := [vB ((0 : Rat).num < 0), .slice none 0 0, .slice none 0 0]) Tryz.underlying30 wP rfl (qE Tryz.underlying30) trivial (by simp only [zb]; exact qD)) rfl (wT (A := []) (r' := .var b4 30 [vB ((0 : Rat).num < 0), .slice none 0 0, .slice none 0 0]) (yC (k := 0) (cs := [_, _, _]) (vs := [_, _, _]) rfl rfl rfl rfl zZ (Nat.le_of_ble_eq_true rfl)) rfl rfl rfl (asg (v := vI (3)) rfl rfl (zD (zB (zR (zX (xX (fun E S => kZ rfl (wS (cs := [_, _, _]) (.head _) Tryz.underlying30 rfl zZ rfl) (tP rfl) E S) ?_)))))))))
  exact ⟨_, rfl, vQ.zero _⟩
 have hb0 : qb ≠ 0 := fun h => hc14 (uK.2 h)
 rw [if_neg hb0, if_neg hb0, ← quo_eq qa hb0]
 have hbn := oH.2 hb0
 refine zL (zB (zC (zC (zA (gv (yH (vs := [_, _, _]) (.tail _ (.tail _ (.head _))) Tryz.underlying30 rfl zZ rfl rfl) rfl ?_)))))
 replace hna := hna.mono hh1
 replace hda := hda.mono hh1
 refine zM (vs := [_]) rfl rfl rfl rfl Tryz.call124 ⟨rfl, trivial⟩ (fun w hs => fV hs hna hda) ?_
 intro v18 h2 hh2 hr18
 subst hr18
 refine mv rfl rfl (gv (zN (vs := [_, _, _]) rfl rfl) rfl (gv (zN (vs := [_, _, _]) rfl rfl) rfl (gv (zN (vs := [_, _, _]) rfl rfl) rfl (asg rfl rfl (asg rfl rfl (asg rfl rfl (zD (zJ (e' := [(2, _), (3, _), (4, _), (6, _), (7, _), (8, _)]) ⟨rfl, rfl, rfl, rfl, rfl, rfl, trivial⟩ (zB (zC (zA (mv rfl rfl (zD ?_)))))))))))))
 refine zB ?_
 refine zO rfl (fun hc22 => ?_) (fun hc22 => ?_)
 ·
  have hsa := hc22
  have hpa := kP hsa
  have hra := kQ hsa
  refine zC (zA (gv (yH (vs := [_, _, _]) (.tail _ (.head _)) Tryz.underlying30 rfl zZ rfl rfl) rfl ?_))
  replace hnb := hnb.mono (hh1.trans hh2)
  replace hdb := hdb.mono (hh1.trans hh2)
  refine zM (vs := [_]) rfl rfl rfl rfl Tryz.call124 ⟨rfl, trivial⟩ (fun w hs => fV hs hnb hdb) ?_
  intro v25 h3 hh3 hr25
  subst hr25
  refine mv rfl rfl (gv (zN (vs := [_, _, _]) rfl rfl) rfl (gv (zN (vs := [_, _, _]) rfl rfl) rfl (gv (zN (vs := [_, _, _]) rfl rfl) rfl (asg rfl rfl (asg rfl rfl (asg rfl rfl (zD (zB (zC (zA (mv rfl rfl (zD (zB ?_)))))))))))))
  refine zO rfl (fun hc29 => ?_) (fun hc29 => ?_)
  ·
   have hsb := hc29
   have hpb := kP hsb
   have hrb := kQ hsb
   have hm1 := qA hpa hrb
   have hm2 := qA hpb hra
   have hm3 := qA hra hrb
   have hm4 := qA hpa hpb
   have hm5 := qA hra hpb
   have hd0 : qa.den * qb.num.natAbs ≠ 0 := Nat.mul_ne_zero qa.den_nz hbn
   simp only [eP hsa, eQ hsa, eP hsb, eQ hsb]
   refine wH (e' := [(2, _), (3, _), (4, _), (6, _), (7, _), (9, _), (10, _)]) ⟨rfl, rfl, rfl, rfl, rfl, rfl, rfl, trivial⟩ (zC (zA (gv (zI Tryz.underlying30 rfl Tryz.sizeOf4 rfl) rfl (gv (zU (.tail _ (.tail _ (.head _))) Tryz.isAgg4 rfl rfl) rfl (gv (zI Tryz.underlying30 rfl Tryz.sizeOf4 rfl) rfl (gv (zU (.tail _ (.head _)) Tryz.isAgg4 rfl rfl) rfl (gv (gI Tryz.underlying4 rfl rfl) rfl (mv rfl rfl (mv rfl rfl (gv (qV (k := .u64) (W := 18446744073709551616) rfl rfl rfl rfl (by omega)) rfl (mv rfl rfl (mv rfl rfl (gv (qV (k := .u64) (W := 18446744073709551616) rfl rfl rfl rfl (by omega)) rfl ?_)))))))))))))
   refine zM (vs := [_, _, _]) rfl rfl rfl rfl Tryz.call125 ⟨rfl, rfl, rfl, trivial⟩ (fun w hs => tY hs (by omega) (by omega) (by omega)) ?_
   intro v41 h4 hh4 hr41
   obtain ⟨vn41, vd41, rfl, hn41, hd41⟩ := hr41
   refine wT (A := []) (r' := .var b4 30 [vB ((mkRat (sg (¬ ((qa.num < 0) ↔ (qb.num < 0))) (qa.num.natAbs * qb.den)) (qa.den * qb.num.natAbs)).num < 0), vn41, vd41]) (yC (k := 0) (cs := [_, _, _]) (vs := [_, _, _]) rfl rfl rfl (ocr rfl (ocu hn41 (ocu hd41 oc0))) zZ (Nat.le_of_ble_eq_true rfl)) rfl rfl rfl (asg (v := vI (0)) rfl rfl (zD (zJ (e' := [(4, _), (5, _)]) ⟨rfl, rfl, trivial⟩ (zB (zR (zX (xX (fun E S => kZ rfl (wS (cs := [_, _, _]) (.head _) Tryz.underlying30 rfl zZ rfl) (tP rfl) E S) ?_)))))))
   exact ⟨_, rfl, _, _, rfl, hn41, hd41⟩
  refine wH (e' := [(2, _), (3, _), (4, _)]) ⟨rfl, rfl, rfl, trivial⟩ (zL (zB (zC ?_)))
  refine yI 16 _ [] [(0, .q), (1, .q), (2, .q), (3, .q), (4, .q), (5, .q), (6, .q), (7, .q), (10, .q), (12, .q), (13, .q), (8, .c), (9, .c), (11, .c), (14, .c), (15, .c), (16, .t), (17, .t)] xI (fun x hx => by cases hx) (by kernel_rfl) (fun x hx => by cases hx) (fun r hr => hr) (w_q rfl (fun h' L' hh hR => zI Tryz.underlying30 rfl Tryz.sizeOf4 rfl) rfl (w_q rfl (fun h' L' hh hR => zU (hR _ (.tail _ (.tail _ (.head _)))) Tryz.isAgg4 rfl rfl) rfl (w_q rfl (fun h' L' hh hR => zI Tryz.underlying30 rfl Tryz.sizeOf4 rfl) rfl (w_q rfl (fun h' L' hh hR => zU (hR _ (.tail _ (.head _))) Tryz.isAgg4 rfl rfl) rfl (w_q rfl (fun h' L' hh hR => gI Tryz.underlying4 rfl rfl) rfl (w_q rfl (fun h' L' hh hR => zI Tryz.underlying30 rfl Tryz.sizeOf28 rfl) rfl (w_q rfl (fun h' L' hh hR => zU (hR _ (.tail _ (.tail _ (.head _)))) Tryz.isAgg28 rfl rfl) rfl (w_q rfl (fun h' L' hh hR => yH (vs := [_, _, _]) (hR _ (.tail _ (.head _))) Tryz.underlying30 rfl zZ rfl rfl) rfl (w_q rfl (fun h' L' hh hR => yH (vs := [_, _, _]) (hR _ (.tail _ (.tail _ (.head _)))) Tryz.underlying30 rfl zZ rfl rfl) rfl (w_q rfl (fun h' L' hh hR => zI Tryz.underlying30 rfl Tryz.sizeOf28 rfl) rfl (w_q rfl (fun h' L' hh hR => zU (hR _ (.tail _ (.head _))) Tryz.isAgg28 rfl rfl) rfl ?_)))))))))))
  refine w_c rfl ?_
  replace hnb := hnb.mono hh3
  replace hdb := hdb.mono hh3
  refine yD (vs := [_]) Tryz.call127 ⟨rfl, trivial⟩ (fun w hs => gE hs hnb hdb) rfl ?_
  intro v50 h4 hh4 hr50
  rw [uF] at hr50
  refine w_c rfl ?_
  replace hna := hna.mono ((hh2.trans hh3).trans hh4)
  refine yD (vs := [_, _]) Tryz.call126 ⟨rfl, rfl, trivial⟩ (fun w hs => gU hs hna hr50 (by omega) (by omega)) rfl ?_
  intro v51 h5 hh5 hr51
  try simp only [zV] at hr51
  have hlm51 := xN ((qa.num.natAbs)) ((qb.den))
  refine w_c rfl ?_
  replace hna := hna.mono hh5
  replace hda := hda.mono (((hh2.trans hh3).trans hh4).trans hh5)
  refine yD (vs := [_]) Tryz.call127 ⟨rfl, trivial⟩ (fun w hs => gE hs hna hda) rfl ?_
  intro v53 h6 hh6 hr53
  rw [uF] at hr53
  refine w_c rfl ?_
  replace hnb := hnb.mono ((hh4.trans hh5).trans hh6)
  refine yD (vs := [_, _]) Tryz.call126 ⟨rfl, rfl, trivial⟩ (fun w hs => gU hs hr53 hnb (by omega) (by omega)) rfl ?_
  intro v56 h7 hh7 hr56
  try simp only [zV] at hr56
  have hlm56 := xN ((qa.den)) ((qb.num.natAbs))
  refine w_c rfl ?_
  replace hr51 := hr51.mono (hh6.trans hh7)
  refine yD (vs := [_, _, _]) Tryz.call106 ⟨rfl, rfl, rfl, trivial⟩ (fun w hs => kA hs hr51 hr56 (by omega) (by omega)) rfl ?_
  intro v57 h8 hh8 hr57
  try simp only [zV] at hr57
  obtain ⟨vn57, vd57, rfl, hn57, hd57⟩ := hr57
  refine gQ (A := []) (q' := .var b4 30 [vB ((mkRat (sg (¬ ((qa.num < 0) ↔ (qb.num < 0))) (((((qa.num.natAbs)) * ((qb.den)))))) (((((qa.den)) * ((qb.num.natAbs)))))).num < 0), vn57, vd57]) rfl (yC (k := 0) (cs := [_, _, _]) (vs := [_, _, _]) rfl rfl rfl (ocr rfl (ocu hn57 (ocu hd57 oc0))) zZ (Nat.le_of_ble_eq_true rfl)) rfl (cT rfl (zY (v := vI (0)) rfl) rfl (xB (zJ (e' := [(4, _), (5, _)]) ⟨rfl, rfl, trivial⟩ (zB (zR (xX (fun E S => kZ rfl (wS (cs := [_, _, _]) (.head _) Tryz.underlying30 rfl zZ rfl) (tP rfl) E S) ?_))))))
  exact ⟨_, rfl, _, _, rfl, hn57, hd57⟩
 refine zL (zB (zC ?_))
 refine yI 16 _ [] [(0, .q), (1, .q), (2, .q), (3, .q), (4, .q), (5, .q), (6, .q), (7, .q), (10, .q), (12, .q), (13, .q), (8, .c), (9, .c), (11, .c), (14, .c), (15, .c), (16, .t), (17, .t)] xI (fun x hx => by cases hx) (by kernel_rfl) (fun x hx => by cases hx) (fun r hr => hr) (w_q rfl (fun h' L' hh hR => zI Tryz.underlying30 rfl Tryz.sizeOf4 rfl) rfl (w_q rfl (fun h' L' hh hR => zU (hR _ (.tail _ (.tail _ (.head _)))) Tryz.isAgg4 rfl rfl) rfl (w_q rfl (fun h' L' hh hR => zI Tryz.underlying30 rfl Tryz.sizeOf4 rfl) rfl (w_q rfl (fun h' L' hh hR => zU (hR _ (.tail _ (.head _))) Tryz.isAgg4 rfl rfl) rfl (w_q rfl (fun h' L' hh hR => gI Tryz.underlying4 rfl rfl) rfl (w_q rfl (fun h' L' hh hR => zI Tryz.underlying30 rfl Tryz.sizeOf28 rfl) rfl (w_q rfl (fun h' L' hh hR => zU (hR _ (.tail _ (.tail _ (.head _)))) Tryz.isAgg28 rfl rfl) rfl (w_q rfl (fun h' L' hh hR => yH (vs := [_, _, _]) (hR _ (.tail _ (.head _))) Tryz.underlying30 rfl zZ rfl rfl) rfl (w_q rfl (fun h' L' hh hR => yH (vs := [_, _, _]) (hR _ (.tail _ (.tail _ (.head _)))) Tryz.underlying30 rfl zZ rfl rfl) rfl (w_q rfl (fun h' L' hh hR => zI Tryz.underlying30 rfl Tryz.sizeOf28 rfl) rfl (w_q rfl (fun h' L' hh hR => zU (hR _ (.tail _ (.head _))) Tryz.isAgg28 rfl rfl) rfl ?_)))))))))))
 refine w_c rfl ?_
 replace hnb := hnb.mono (hh1.trans hh2)
 replace hdb := hdb.mono (hh1.trans hh2)
 refine yD (vs := [_]) Tryz.call127 ⟨rfl, trivial⟩ (fun w hs => gE hs hnb hdb) rfl ?_
 intro v50 h3 hh3 hr50
 rw [uF] at hr50
 refine w_c rfl ?_
 replace hna := hna.mono (hh2.trans hh3)
 refine yD (vs := [_, _]) Tryz.call126 ⟨rfl, rfl, trivial⟩ (fun w hs => gU hs hna hr50 (by omega) (by omega)) rfl ?_
 intro v51 h4 hh4 hr51
 try simp only [zV] at hr51
 have hlm51 := xN ((qa.num.natAbs)) ((qb.den))
 refine w_c rfl ?_
 replace hna := hna.mono hh4
 replace hda := hda.mono ((hh2.trans hh3).trans hh4)
 refine yD (vs := [_]) Tryz.call127 ⟨rfl, trivial⟩ (fun w hs => gE hs hna hda) rfl ?_
 intro v53 h5 hh5 hr53
 rw [uF] at hr53
 refine w_c rfl ?_
 replace hnb := hnb.mono ((hh3.trans hh4).trans hh5)
 refine yD (vs := [_, _]) Tryz.call126 ⟨rfl, rfl, trivial⟩ (fun w hs => gU hs hr53 hnb (by omega) (by omega)) rfl ?_
 intro v56 h6 hh6 hr56
 try simp only [zV] at hr56
 have hlm56 := xN ((qa.den)) ((qb.num.natAbs))
 refine w_c rfl ?_
 replace hr51 := hr51.mono (hh5.trans hh6)
 refine yD (vs := [_, _, _]) Tryz.call106 ⟨rfl, rfl, rfl, trivial⟩ (fun w hs => kA hs hr51 hr56 (by omega) (by omega)) rfl ?_
 intro v57 h7 hh7 hr57
 try simp only [zV] at hr57
 obtain ⟨vn57, vd57, rfl, hn57, hd57⟩ := hr57
 refine gQ (A := []) (q' := .var b4 30 [vB ((mkRat (sg (¬ ((qa.num < 0) ↔ (qb.num < 0))) (((((qa.num.natAbs)) * ((qb.den)))))) (((((qa.den)) * ((qb.num.natAbs)))))).num < 0), vn57, vd57]) rfl (yC (k := 0) (cs := [_, _, _]) (vs := [_, _, _]) rfl rfl rfl (ocr rfl (ocu hn57 (ocu hd57 oc0))) zZ (Nat.le_of_ble_eq_true rfl)) rfl (cT rfl (zY (v := vI (0)) rfl) rfl (xB (zJ (e' := [(4, _), (5, _)]) ⟨rfl, rfl, trivial⟩ (zB (zR (xX (fun E S => kZ rfl (wS (cs := [_, _, _]) (.head _) Tryz.underlying30 rfl zZ rfl) (tP rfl) E S) ?_))))))
 exact ⟨_, rfl, _, _, rfl, hn57, hd57⟩
theorem w5 {w0 : World} {h0 : Mem}  (hs : MLe h0 (mem w0)) {qa : Rat} {vna vda : Value} (hna : Us .u32 h0 vna (zF qa.num.natAbs)) (hda : Us .u32 h0 vda (zF (vK qa.den))) {qb : Rat} {vnb vdb : Value} (hnb : Us .u32 h0 vnb (zF qb.num.natAbs)) (hdb : Us .u32 h0 vdb (zF (vK qb.den))) (hqa : lq qa ≤ 100000000000) (hqb : lq qb ≤ 100000000000) {s : Prop} :
    Calls Tryz.prog 109 #[.agg #[vB (qa.num < 0), vna, vda], .agg #[vB (qb.num < 0), vnb, vdb], vB s] w0 (Ret w0 h0 (fun h r => vQ h r (qa + sgd s qb))) := by
 have hlna := vH qa
 have hlda := vL qa
 have hlDa := wZ qa
 have hlnb := vH qb
 have hldb := vL qb
 have hlDb := wZ qb
 refine zP (n := 152) (e := [(0, .agg #[vB (qa.num < 0), vna, vda]), (1, .agg #[vB (qb.num < 0), vnb, vdb]), (2, vB s)]) (vs := [.agg #[vB (qa.num < 0), vna, vda], .agg #[vB (qb.num < 0), vnb, vdb], vB s]) Tryz.func109 rfl rfl (Nat.le_of_ble_eq_true rfl) hs ⟨rfl, rfl, rfl, trivial⟩ (zC (zA (zK (wW (cs := [_, _, _]) rfl rfl) rfl rfl rfl ?_)))
 intro v3 r3 hr3
 obtain ⟨b3, rfl, rfl⟩ := hr3
 refine zK (wW (cs := [_, _, _]) rfl rfl) rfl rfl rfl ?_
 intro v4 r4 hr4
 obtain ⟨b4, rfl, rfl⟩ := hr4
 refine zK (vN (cs := [vB ((0 : Rat).num < 0), .slice none 0 0, .slice none 0 0]) wP rfl (by simp only [zb]; rfl)) rfl rfl rfl ?_
 intro v6 r6 hr6
 obtain ⟨b6, rfl, rfl⟩ := hr6
 refine zD (zB ?_)
 refine kV (ι := Mem) (fun (mc : (Mem)) => MLe h0 mc ∧ (True)) (fun (mc : (Mem)) => [(2, vB s), (3, vP b3 0), (4, vP b4 0), (6, vP b6 0)]) (fun (mc : (Mem)) => [.var b6 30 [vB ((0 : Rat).num < 0), .slice none 0 0, .slice none 0 0], .var b4 30 [vB (qb.num < 0), vnb, vdb], .var b3 30 [vB (qa.num < 0), vna, vda]]) (fun (mc : (Mem)) => mc) ?_ ?_
 ·
  refine zC (zA (gv (yH (vs := [_, _, _]) (.tail _ (.tail _ (.head _))) Tryz.underlying30 rfl zZ rfl rfl) rfl ?_))
  refine zM (vs := [_]) rfl rfl rfl rfl Tryz.call124 ⟨rfl, trivial⟩ (fun w hs => fV hs hna hda) ?_
  intro v24 h1 hh1 hr24
  subst hr24
  refine mv rfl rfl (gv (zN (vs := [_, _, _]) rfl rfl) rfl (gv (zN (vs := [_, _, _]) rfl rfl) rfl (gv (zN (vs := [_, _, _]) rfl rfl) rfl (asg rfl rfl (asg rfl rfl (asg rfl rfl (zD (zB (zC (zA (mv rfl rfl (zD (zB ?_)))))))))))))
  refine zO rfl (fun hc28 => ?_) (fun hc28 => ?_)
  ·
   have hsa := hc28
   have hpa := kP hsa
   have hra := kQ hsa
   refine wH (e' := [(2, _), (3, _), (4, _), (6, _), (7, _), (8, _)]) ⟨rfl, rfl, rfl, rfl, rfl, rfl, trivial⟩ (zC (zA (gv (yH (vs := [_, _, _]) (.tail _ (.head _)) Tryz.underlying30 rfl zZ rfl rfl) rfl ?_)))
   replace hnb := hnb.mono hh1
   replace hdb := hdb.mono hh1
   refine zM (vs := [_]) rfl rfl rfl rfl Tryz.call124 ⟨rfl, trivial⟩ (fun w hs => fV hs hnb hdb) ?_
   intro v31 h2 hh2 hr31
   subst hr31
   refine mv rfl rfl (gv (zN (vs := [_, _, _]) rfl rfl) rfl (gv (zN (vs := [_, _, _]) rfl rfl) rfl (gv (zN (vs := [_, _, _]) rfl rfl) rfl (asg rfl rfl (asg rfl rfl (asg rfl rfl (zD (zB (zC (zA (mv rfl rfl (zD (zB ?_)))))))))))))
   refine zO rfl (fun hc35 => ?_) (fun hc35 => ?_)
   ·
    have hsb := hc35
    have hpb := kP hsb
    have hrb := kQ hsb
    have hm1 := qA hpa hrb
    have hm2 := qA hpb hra
    have hm3 := qA hra hrb
    have hm4 := qA hpa hpb
    have hm5 := qA hra hpb
    have hd0 : qa.den * qb.den ≠ 0 := Nat.mul_ne_zero qa.den_nz qb.den_nz
    simp only [eP hsa, eQ hsa, eP hsb, eQ hsb]
    refine zC (zA (mv rfl rfl (mv rfl rfl (gv (qV (k := .u64) (W := 18446744073709551616) rfl rfl rfl rfl (by omega)) rfl (mv rfl rfl (mv rfl rfl (gv (qV (k := .u64) (W := 18446744073709551616) rfl rfl rfl rfl (by omega)) rfl (asg rfl rfl (asg rfl rfl (zD (zJ (e' := [(2, _), (3, _), (4, _), (6, _), (8, _), (11, _), (7, _), (10, _)]) ⟨rfl, rfl, rfl, rfl, rfl, rfl, rfl, rfl, trivial⟩ (zB (zC ?_)))))))))))))
    refine zA (mv rfl rfl (mv rfl rfl (gv (ov_callx (vs := [_, _, vU .u64 0]) (add64 _ _) ⟨rfl, rfl, rfl, trivial⟩) rfl (mv rfl rfl (gv (zN (vs := [_, _]) rfl rfl) rfl (gv (zN (vs := [_, _]) rfl rfl) rfl (asg rfl rfl (asg rfl rfl (zD (zB (zS (zC (zA ?_)))))))))))))
    refine gv (zI Tryz.underlying30 rfl Tryz.sizeOf4 rfl) rfl (gv (zU (.tail _ (.tail _ (.head _))) Tryz.isAgg4 rfl rfl) rfl (mv rfl rfl (gv (tL Tryz.underlying4 rfl rfl) rfl ?_)))
    refine vO (ι := Unit) 4 (fun _ => True) (fun _ => [(56, vB (((qa.num < 0) ↔ (s)) ∧ ((((qa.num.natAbs * qb.den) + (qb.num.natAbs * qa.den)) / 18446744073709551616) = (0 : Nat)))), (2, vB s), (3, vP b3 0), (4, vP b4 0), (6, vP b6 0), (8, vU .u64 qa.den), (11, vU .u64 qb.den), (7, vU .u64 (qa.num.natAbs * qb.den)), (10, vU .u64 (qb.num.natAbs * qa.den)), (13, vU .u64 (((qa.num.natAbs * qb.den) + (qb.num.natAbs * qa.den)) % 18446744073709551616))]) (fun _ => [.var b6 30 [vB ((0 : Rat).num < 0), .slice none 0 0, .slice none 0 0], .var b4 30 [vB (qb.num < 0), vnb, vdb], .var b3 30 [vB (qa.num < 0), vna, vda]]) (fun _ => h2) ?_ ?_
    ·
     refine wM ((qa.num < 0) ↔ (s)) (fun hg => ?_) (fun hg => ?_)
     ·
      refine xH (zG (v := .bool true) (congrArg some (xS hg))) rfl rfl rfl (xA rfl rfl rfl (mv rfl rfl (xA rfl rfl rfl (gv (fJ (k := .u64) (q := 0) rfl rfl) rfl (gv (xK rfl rfl) rfl (zD ?_))))))
      refine yN () trivial ⟨?_, rfl, rfl, rfl, rfl, rfl, rfl, rfl, rfl, rfl, trivial⟩ rfl rfl
      exact congrArg some (uI hg)
     refine xH (zG (v := .bool false) (congrArg some (yX hg))) rfl rfl rfl (yL rfl rfl rfl rfl rfl rfl (yL rfl rfl rfl rfl rfl rfl (gv (wB rfl rfl) rfl (zD ?_))))
     refine yN () trivial ⟨?_, rfl, rfl, rfl, rfl, rfl, rfl, rfl, rfl, rfl, trivial⟩ rfl rfl
     exact congrArg some (uJ hg)
    intro _ _
    show GL _ _ _ _ _ _ _ [(56, vB (((qa.num < 0) ↔ (s)) ∧ ((((qa.num.natAbs * qb.den) + (qb.num.natAbs * qa.den)) / 18446744073709551616) = (0 : Nat)))), (2, vB s), (3, vP b3 0), (4, vP b4 0), (6, vP b6 0), (8, vU .u64 qa.den), (11, vU .u64 qb.den), (7, vU .u64 (qa.num.natAbs * qb.den)), (10, vU .u64 (qb.num.natAbs * qa.den)), (13, vU .u64 (((qa.num.natAbs * qb.den) + (qb.num.natAbs * qa.den)) % 18446744073709551616))] [.var b6 30 [vB ((0 : Rat).num < 0), .slice none 0 0, .slice none 0 0], .var b4 30 [vB (qb.num < 0), vnb, vdb], .var b3 30 [vB (qa.num < 0), vna, vda]] h2
    refine asg rfl rfl (zD (zB ?_))
    refine zO rfl (fun hc48 => ?_) (fun hc48 => ?_)
    ·
     obtain ⟨hss, hcy⟩ := hc48
     refine zC (zA (mv rfl rfl (mv rfl rfl (mv rfl rfl (mv rfl rfl (gv (qV (k := .u64) (W := 18446744073709551616) rfl rfl rfl rfl (by omega)) rfl ?_))))))
     refine zM (vs := [_, _, _]) rfl rfl rfl rfl Tryz.call125 ⟨rfl, rfl, rfl, trivial⟩ (fun w hs => tY hs (by omega) (by omega) (by omega)) ?_
     intro v62 h3 hh3 hr62
     obtain ⟨vn62, vd62, rfl, hn62, hd62⟩ := hr62
     refine wT (A := []) (r' := .var b6 30 [vB ((mkRat (sg (s) (((qa.num.natAbs * qb.den) + (qb.num.natAbs * qa.den)) % 18446744073709551616)) (qa.den * qb.den)).num < 0), vn62, vd62]) (yC (k := 0) (cs := [_, _, _]) (vs := [_, _, _]) rfl rfl rfl (ocr rfl (ocu hn62 (ocu hd62 oc0))) zZ (Nat.le_of_ble_eq_true rfl)) rfl rfl rfl (zD (zJ (e' := [(6, _)]) ⟨rfl, trivial⟩ (zB (zR (wY (zX (xX (fun E S => yP rfl (wS (cs := [_, _, _]) (.head _) Tryz.underlying30 rfl zZ rfl) E S) ?_)))))))
     have e := Nat.mod_eq_of_lt (a := qa.num.natAbs * qb.den + qb.num.natAbs * qa.den) (b := 18446744073709551616) (by omega)
     rw [e] at hn62 hd62 ⊢
     rw [mB hss]
     exact ⟨_, _, rfl, hn62, hd62⟩
    refine zC (zA (gv (zI Tryz.underlying30 rfl Tryz.sizeOf4 rfl) rfl (gv (zU (.tail _ (.tail _ (.head _))) Tryz.isAgg4 rfl rfl) rfl (mv rfl rfl (gv (gI Tryz.underlying4 rfl rfl) rfl ?_)))))
    refine vO (ι := Unit) 5 (fun _ => True) (fun _ => [(72, vB ((¬ ((qa.num < 0) ↔ (s))) ∧ ((qb.num.natAbs * qa.den) ≤ (qa.num.natAbs * qb.den)))), (2, vB s), (3, vP b3 0), (4, vP b4 0), (6, vP b6 0), (8, vU .u64 qa.den), (11, vU .u64 qb.den), (7, vU .u64 (qa.num.natAbs * qb.den)), (10, vU .u64 (qb.num.natAbs * qa.den))]) (fun _ => [.var b6 30 [vB ((0 : Rat).num < 0), .slice none 0 0, .slice none 0 0], .var b4 30 [vB (qb.num < 0), vnb, vdb], .var b3 30 [vB (qa.num < 0), vna, vda]]) (fun _ => h2) ?_ ?_
    ·
     refine wM (¬ ((qa.num < 0) ↔ (s))) (fun hg => ?_) (fun hg => ?_)
     ·
      refine xH (zG (v := .bool true) (congrArg some (xS hg))) rfl rfl rfl (xA rfl rfl rfl (mv rfl rfl (xA rfl rfl rfl (mv rfl rfl (xA rfl rfl rfl (gv (sJ (k := .u64) rfl rfl) rfl (gv (xK rfl rfl) rfl (zD ?_))))))))
      refine yN () trivial ⟨?_, rfl, rfl, rfl, rfl, rfl, rfl, rfl, rfl, trivial⟩ rfl rfl
      exact congrArg some (uI hg)
     refine xH (zG (v := .bool false) (congrArg some (yX hg))) rfl rfl rfl (yL rfl rfl rfl rfl rfl rfl (yL rfl rfl rfl rfl rfl rfl (yL rfl rfl rfl rfl rfl rfl (gv (wB rfl rfl) rfl (zD ?_)))))
     refine yN () trivial ⟨?_, rfl, rfl, rfl, rfl, rfl, rfl, rfl, rfl, trivial⟩ rfl rfl
     exact congrArg some (uJ hg)
    intro _ _
    show GL _ _ _ _ _ _ _ [(72, vB ((¬ ((qa.num < 0) ↔ (s))) ∧ ((qb.num.natAbs * qa.den) ≤ (qa.num.natAbs * qb.den)))), (2, vB s), (3, vP b3 0), (4, vP b4 0), (6, vP b6 0), (8, vU .u64 qa.den), (11, vU .u64 qb.den), (7, vU .u64 (qa.num.natAbs * qb.den)), (10, vU .u64 (qb.num.natAbs * qa.den))] [.var b6 30 [vB ((0 : Rat).num < 0), .slice none 0 0, .slice none 0 0], .var b4 30 [vB (qb.num < 0), vnb, vdb], .var b3 30 [vB (qa.num < 0), vna, vda]] h2
    refine asg rfl rfl (zD (zB ?_))
    refine zO rfl (fun hc63 => ?_) (fun hc63 => ?_)
    ·
     obtain ⟨hss, hge⟩ := hc63
     refine zC (zA (gv (zI Tryz.underlying30 rfl Tryz.sizeOf4 rfl) rfl (gv (zU (.tail _ (.tail _ (.head _))) Tryz.isAgg4 rfl rfl) rfl (mv rfl rfl (mv rfl rfl (gv (sF (k := .u64) (W := 18446744073709551616) rfl rfl rfl rfl (by omega) (by omega)) rfl (mv rfl rfl (mv rfl rfl (gv (qV (k := .u64) (W := 18446744073709551616) rfl rfl rfl rfl (by omega)) rfl ?_)))))))))
     refine zM (vs := [_, _, _]) rfl rfl rfl rfl Tryz.call125 ⟨rfl, rfl, rfl, trivial⟩ (fun w hs => tY hs (by omega) (by omega) (by omega)) ?_
     intro v81 h3 hh3 hr81
     obtain ⟨vn81, vd81, rfl, hn81, hd81⟩ := hr81
     refine wT (A := []) (r' := .var b6 30 [vB ((mkRat (sg (qa.num < 0) ((qa.num.natAbs * qb.den) - (qb.num.natAbs * qa.den))) (qa.den * qb.den)).num < 0), vn81, vd81]) (yC (k := 0) (cs := [_, _, _]) (vs := [_, _, _]) rfl rfl rfl (ocr rfl (ocu hn81 (ocu hd81 oc0))) zZ (Nat.le_of_ble_eq_true rfl)) rfl rfl rfl (zD (zJ (e' := [(6, _)]) ⟨rfl, trivial⟩ (zB (zR (wY (zX (xX (fun E S => yP rfl (wS (cs := [_, _, _]) (.head _) Tryz.underlying30 rfl zZ rfl) E S) ?_)))))))
     rw [nR hss hge]
     exact ⟨_, _, rfl, hn81, hd81⟩
    refine zC (zA (gv (zI Tryz.underlying30 rfl Tryz.sizeOf4 rfl) rfl (gv (zU (.tail _ (.tail _ (.head _))) Tryz.isAgg4 rfl rfl) rfl (mv rfl rfl (gv (gI Tryz.underlying4 rfl rfl) rfl (asg rfl rfl (zD (zB ?_))))))))
    refine zO rfl (fun hc82 => ?_) (fun hc82 => ?_)
    ·
     have hlt : ¬ qb.num.natAbs * qa.den ≤ qa.num.natAbs * qb.den := fun h => hc63 ⟨hc82, h⟩
     refine zC (zA (mv rfl rfl (mv rfl rfl (mv rfl rfl (gv (sF (k := .u64) (W := 18446744073709551616) rfl rfl rfl rfl (by omega) (by omega)) rfl (mv rfl rfl (mv rfl rfl (gv (qV (k := .u64) (W := 18446744073709551616) rfl rfl rfl rfl (by omega)) rfl ?_))))))))
     refine zM (vs := [_, _, _]) rfl rfl rfl rfl Tryz.call125 ⟨rfl, rfl, rfl, trivial⟩ (fun w hs => tY hs (by omega) (by omega) (by omega)) ?_
     intro v94 h3 hh3 hr94
     obtain ⟨vn94, vd94, rfl, hn94, hd94⟩ := hr94
     refine wT (A := []) (r' := .var b6 30 [vB ((mkRat (sg (s) ((qb.num.natAbs * qa.den) - (qa.num.natAbs * qb.den))) (qa.den * qb.den)).num < 0), vn94, vd94]) (yC (k := 0) (cs := [_, _, _]) (vs := [_, _, _]) rfl rfl rfl (ocr rfl (ocu hn94 (ocu hd94 oc0))) zZ (Nat.le_of_ble_eq_true rfl)) rfl rfl rfl (zD (zJ (e' := [(6, _)]) ⟨rfl, trivial⟩ (zB (zR (wY (zX (xX (fun E S => yP rfl (wS (cs := [_, _, _]) (.head _) Tryz.underlying30 rfl zZ rfl) E S) ?_)))))))
     rw [bW hc82 (by omega)]
     exact ⟨_, _, rfl, hn94, hd94⟩
    refine wH (e' := [(2, _), (3, _), (4, _), (6, _)]) ⟨rfl, rfl, rfl, rfl, trivial⟩ (zL (yV ?_))
    refine yN (h2) ?_ ⟨rfl, rfl, rfl, rfl, trivial⟩ rfl rfl
    refine ⟨(hh1.trans hh2), ?_⟩
    trivial
   refine wH (e' := [(2, _), (3, _), (4, _), (6, _)]) ⟨rfl, rfl, rfl, rfl, trivial⟩ (zL ?_)
   refine yN (h2) ?_ ⟨rfl, rfl, rfl, rfl, trivial⟩ rfl rfl
   refine ⟨(hh1.trans hh2), ?_⟩
   trivial
  refine wH (e' := [(2, _), (3, _), (4, _), (6, _)]) ⟨rfl, rfl, rfl, rfl, trivial⟩ (zL ?_)
  refine yN (h1) ?_ ⟨rfl, rfl, rfl, rfl, trivial⟩ rfl rfl
  refine ⟨hh1, ?_⟩
  trivial
 intro mc hx
 obtain ⟨hmmc, hcut⟩ := hx
 show GC _ _ _ _ _ _ [(2, vB s), (3, vP b3 0), (4, vP b4 0), (6, vP b6 0)] [.var b6 30 [vB ((0 : Rat).num < 0), .slice none 0 0, .slice none 0 0], .var b4 30 [vB (qb.num < 0), vnb, vdb], .var b3 30 [vB (qa.num < 0), vna, vda]] mc
 refine zC ?_
 refine yI 9 _ [] [(0, .q), (1, .q), (2, .q), (3, .q), (4, .q), (5, .c), (6, .q), (7, .q), (8, .q)] xI (fun x hx => by cases hx) (by kernel_rfl) (fun x hx => by cases hx) (fun r hr => hr) (w_q rfl (fun h' L' hh hR => zI Tryz.underlying30 rfl Tryz.sizeOf28 rfl) rfl (w_q rfl (fun h' L' hh hR => zU (hR _ (.tail _ (.tail _ (.head _)))) Tryz.isAgg28 rfl rfl) rfl (w_q rfl (fun h' L' hh hR => zI Tryz.underlying30 rfl Tryz.sizeOf28 rfl) rfl (w_q rfl (fun h' L' hh hR => zU (hR _ (.tail _ (.head _))) Tryz.isAgg28 rfl rfl) rfl (w_q rfl (fun h' L' hh hR => yH (vs := [_, _, _]) (hR _ (.tail _ (.tail _ (.head _)))) Tryz.underlying30 rfl zZ rfl rfl) rfl ?_)))))
 refine w_c rfl ?_
 replace hna := hna.mono hmmc
 replace hda := hda.mono hmmc
 refine yD (vs := [_]) Tryz.call127 ⟨rfl, trivial⟩ (fun w hs => gE hs hna hda) rfl ?_
 intro v100 h1 hh1 hr100
 rw [uF] at hr100
 refine w_q rfl (fun h' L' hh hR => zY rfl) rfl (w_q rfl (fun h' L' hh hR => zY rfl) rfl (w_q rfl (fun h' L' hh hR => zY rfl) rfl (xB (zB (zC (zC (zA (gv (zI Tryz.underlying30 rfl Tryz.sizeOf28 rfl) rfl (gv (zU (.tail _ (.tail _ (.head _))) Tryz.isAgg28 rfl rfl) rfl (gv (zI Tryz.underlying30 rfl Tryz.sizeOf28 rfl) rfl (gv (zU (.tail _ (.head _)) Tryz.isAgg28 rfl rfl) rfl ?_)))))))))))
 replace hda := hda.mono hh1
 replace hdb := hdb.mono (hmmc.trans hh1)
 refine zM (vs := [_, _]) rfl rfl rfl rfl Tryz.call128 ⟨rfl, rfl, trivial⟩ (fun w hs => bX hs hda hdb) ?_
 intro v105 h2 hh2 hr105
 subst hr105
 refine gv (kS rfl) rfl (zD (zJ (e' := [(2, _), (3, _), (4, _), (6, _), (15, _), (16, _), (17, _), (106, _)]) ⟨rfl, rfl, rfl, rfl, rfl, rfl, rfl, rfl, trivial⟩ (zB ?_)))
 refine zO rfl (fun hc106 => ?_) (fun hc106 => ?_)
 ·
  refine yI 15 _ [] [(0, .q), (1, .q), (4, .q), (5, .q), (8, .q), (9, .q), (2, .c), (3, .c), (6, .c), (7, .c), (10, .c), (11, .c), (12, .q), (13, .q), (14, .q)] xI (fun x hx => by cases hx) (by kernel_rfl) (fun x hx => by cases hx) (fun r hr => hr) (w_q rfl (fun h' L' hh hR => zG rfl) rfl (w_q rfl (fun h' L' hh hR => yH (vs := [_, _, _]) (hR _ (.tail _ (.head _))) Tryz.underlying30 rfl zZ rfl rfl) rfl (w_q rfl (fun h' L' hh hR => zG rfl) rfl (w_q rfl (fun h' L' hh hR => yH (vs := [_, _, _]) (hR _ (.tail _ (.tail _ (.head _)))) Tryz.underlying30 rfl zZ rfl rfl) rfl (w_q rfl (fun h' L' hh hR => zG rfl) rfl (w_q rfl (fun h' L' hh hR => yH (vs := [_, _, _]) (hR _ (.tail _ (.head _))) Tryz.underlying30 rfl zZ rfl rfl) rfl ?_))))))
  refine w_c rfl ?_
  replace hnb := hnb.mono ((hmmc.trans hh1).trans hh2)
  replace hdb := hdb.mono hh2
  refine yD (vs := [_]) Tryz.call127 ⟨rfl, trivial⟩ (fun w hs => gE hs hnb hdb) rfl ?_
  intro v109 h3 hh3 hr109
  rw [uF] at hr109
  refine w_c rfl ?_
  replace hna := hna.mono ((hh1.trans hh2).trans hh3)
  refine yD (vs := [_, _]) Tryz.call126 ⟨rfl, rfl, trivial⟩ (fun w hs => gU hs hna hr109 (by omega) (by omega)) rfl ?_
  intro v110 h4 hh4 hr110
  try simp only [zV] at hr110
  have hlm110 := xN ((qa.num.natAbs)) ((qb.den))
  refine w_c rfl ?_
  replace hna := hna.mono hh4
  replace hda := hda.mono ((hh2.trans hh3).trans hh4)
  refine yD (vs := [_]) Tryz.call127 ⟨rfl, trivial⟩ (fun w hs => gE hs hna hda) rfl ?_
  intro v113 h5 hh5 hr113
  rw [uF] at hr113
  refine w_c rfl ?_
  replace hnb := hnb.mono ((hh3.trans hh4).trans hh5)
  refine yD (vs := [_, _]) Tryz.call126 ⟨rfl, rfl, trivial⟩ (fun w hs => gU hs hnb hr113 (by omega) (by omega)) rfl ?_
  intro v114 h6 hh6 hr114
  try simp only [zV] at hr114
  have hlm114 := xN ((qb.num.natAbs)) ((qa.den))
  refine w_c rfl ?_
  replace hnb := hnb.mono hh6
  replace hdb := hdb.mono (((hh3.trans hh4).trans hh5).trans hh6)
  refine yD (vs := [_]) Tryz.call127 ⟨rfl, trivial⟩ (fun w hs => gE hs hnb hdb) rfl ?_
  intro v117 h7 hh7 hr117
  rw [uF] at hr117
  refine w_c rfl ?_
  replace hr100 := hr100.mono (((((hh2.trans hh3).trans hh4).trans hh5).trans hh6).trans hh7)
  refine yD (vs := [_, _]) Tryz.call126 ⟨rfl, rfl, trivial⟩ (fun w hs => gU hs hr100 hr117 (by omega) (by omega)) rfl ?_
  intro v118 h8 hh8 hr118
  try simp only [zV] at hr118
  have hlm118 := xN ((qa.den)) ((qb.den))
  refine w_q rfl (fun h' L' hh hR => zY rfl) rfl (w_q rfl (fun h' L' hh hR => zY rfl) rfl (w_q rfl (fun h' L' hh hR => zY rfl) rfl (xB (zJ (e' := [(2, _), (3, _), (6, _), (15, _), (16, _), (17, _)]) ⟨rfl, rfl, rfl, rfl, rfl, rfl, trivial⟩ (zB (zC (zC (zA (gv (zI Tryz.underlying30 rfl Tryz.sizeOf4 rfl) rfl (gv (zU (.tail _ (.tail _ (.head _))) Tryz.isAgg4 rfl rfl) rfl (mv rfl rfl (gv (tL Tryz.underlying4 rfl rfl) rfl (zD ?_)))))))))))))
  refine zB ?_
  refine zO rfl (fun hc122 => ?_) (fun hc122 => ?_)
  ·
   refine zC (zA (mv rfl rfl (mv rfl rfl (mv rfl rfl ?_))))
   replace hr110 := hr110.mono (((hh5.trans hh6).trans hh7).trans hh8)
   replace hr114 := hr114.mono (hh7.trans hh8)
   refine zM (vs := [_, _]) rfl rfl rfl rfl Tryz.call134 ⟨rfl, rfl, trivial⟩ (fun w hs => cZ hs hr110 hr114 (by omega) (by omega)) ?_
   intro v126 h9 hh9 hr126
   try simp only [zV] at hr126
   have hlm126 := jL (((((qa.num.natAbs)) * ((qb.den))))) (((((qb.num.natAbs)) * ((qa.den)))))
   refine mv rfl rfl ?_
   replace hr118 := hr118.mono hh9
   refine zM (vs := [_, _, _]) rfl rfl rfl rfl Tryz.call106 ⟨rfl, rfl, rfl, trivial⟩ (fun w hs => kA hs hr126 hr118 (by omega) (by omega)) ?_
   intro v128 h10 hh10 hr128
   try simp only [zV] at hr128
   obtain ⟨vn128, vd128, rfl, hn128, hd128⟩ := hr128
   refine wT (A := []) (r' := .var b6 30 [vB ((mkRat (sg (s) ((((((((qa.num.natAbs)) * ((qb.den))))) + (((((qb.num.natAbs)) * ((qa.den))))))))) (((((qa.den)) * ((qb.den)))))).num < 0), vn128, vd128]) (yC (k := 0) (cs := [_, _, _]) (vs := [_, _, _]) rfl rfl rfl (ocr rfl (ocu hn128 (ocu hd128 oc0))) zZ (Nat.le_of_ble_eq_true rfl)) rfl rfl rfl (zD (zJ (e' := [(6, _)]) ⟨rfl, trivial⟩ (zB (zR (zX (xX (fun E S => yP rfl (wS (cs := [_, _, _]) (.head _) Tryz.underlying30 rfl zZ rfl) E S) ?_))))))
   rw [mB hc122]
   exact ⟨_, _, rfl, hn128, hd128⟩
  refine zL (zB (zC (zC (zA (mv rfl rfl (mv rfl rfl ?_))))))
  replace hr110 := hr110.mono (((hh5.trans hh6).trans hh7).trans hh8)
  replace hr114 := hr114.mono (hh7.trans hh8)
  refine zM (vs := [_, _]) rfl rfl rfl rfl Tryz.call137 ⟨rfl, rfl, trivial⟩ (fun w hs => nT hs hr110 hr114 (by omega)) ?_
  intro v132 h9 hh9 hr132
  obtain ⟨u132, rfl, hu132⟩ := hr132
  try simp only [zV] at hu132 ⊢
  have hlm132 := xJ (Nat.sub_le (((((qa.num.natAbs)) * ((qb.den))))) (((((qb.num.natAbs)) * ((qa.den))))))
  refine mv rfl rfl (gv (zN (vs := [_, _]) rfl rfl) rfl (gv (zN (vs := [_, _]) rfl rfl) rfl (asg rfl rfl (asg rfl rfl (zD (zJ (e' := [(2, _), (3, _), (6, _), (15, _), (16, _), (17, _), (18, _), (19, _)]) ⟨rfl, rfl, rfl, rfl, rfl, rfl, rfl, rfl, trivial⟩ (zB (zC (zA (mv rfl rfl (gv (xZ (q := 0) rfl rfl) rfl (zD (zB ?_)))))))))))))
  refine zO rfl (fun hc136 => ?_) (fun hc136 => ?_)
  ·
   have hge := sub_ok hc136
   rw [if_neg hge]
   refine zC (zA (gv (zI Tryz.underlying30 rfl Tryz.sizeOf4 rfl) rfl (gv (zU (.tail _ (.tail _ (.head _))) Tryz.isAgg4 rfl rfl) rfl (mv rfl rfl (mv rfl rfl ?_)))))
   replace hr118 := hr118.mono hh9
   refine zM (vs := [_, _, _]) rfl rfl rfl rfl Tryz.call106 ⟨rfl, rfl, rfl, trivial⟩ (fun w hs => kA hs hu132 hr118 (by omega) (by omega)) ?_
   intro v141 h10 hh10 hr141
   try simp only [zV] at hr141
   obtain ⟨vn141, vd141, rfl, hn141, hd141⟩ := hr141
   refine wT (A := []) (r' := .var b6 30 [vB ((mkRat (sg (qa.num < 0) ((((((((qa.num.natAbs)) * ((qb.den))))) - (((((qb.num.natAbs)) * ((qa.den))))))))) (((((qa.den)) * ((qb.den)))))).num < 0), vn141, vd141]) (yC (k := 0) (cs := [_, _, _]) (vs := [_, _, _]) rfl rfl rfl (ocr rfl (ocu hn141 (ocu hd141 oc0))) zZ (Nat.le_of_ble_eq_true rfl)) rfl rfl rfl (zD (zJ (e' := [(6, _)]) ⟨rfl, trivial⟩ (zB (zR (zX (xX (fun E S => yP rfl (wS (cs := [_, _, _]) (.head _) Tryz.underlying30 rfl zZ rfl) E S) ?_))))))
   rw [nR hc122 (by omega)]
   exact ⟨_, _, rfl, hn141, hd141⟩
  have hlt := sub_no hc136
  rw [if_pos hlt]
  refine zL (zB (zC (zA (mv rfl rfl (mv rfl rfl ?_)))))
  replace hr110 := hr110.mono hh9
  replace hr114 := hr114.mono hh9
  refine zM (vs := [_, _]) rfl rfl rfl rfl Tryz.call137 ⟨rfl, rfl, trivial⟩ (fun w hs => nT hs hr114 hr110 (by omega)) ?_
  intro v145 h10 hh10 hr145
  obtain ⟨u145, rfl, hu145⟩ := hr145
  try simp only [zV] at hu145 ⊢
  have hlm145 := xJ (Nat.sub_le (((((qb.num.natAbs)) * ((qa.den))))) (((((qa.num.natAbs)) * ((qb.den))))))
  refine mv rfl rfl (gv (zN (vs := [_, _]) rfl rfl) rfl (gv (zN (vs := [_, _]) rfl rfl) rfl (asg rfl rfl (asg rfl rfl (zD (zJ (e' := [(2, _), (6, _), (17, _), (20, _)]) ⟨rfl, rfl, rfl, rfl, trivial⟩ (zB (zC (zA (mv rfl rfl (mv rfl rfl (mv rfl rfl ?_))))))))))))
  replace hr118 := hr118.mono (hh9.trans hh10)
  refine zM (vs := [_, _, _]) rfl rfl rfl rfl Tryz.call106 ⟨rfl, rfl, rfl, trivial⟩ (fun w hs => kA hs hu145 hr118 (by omega) (by omega)) ?_
  intro v151 h11 hh11 hr151
  try simp only [zV] at hr151
  obtain ⟨vn151, vd151, rfl, hn151, hd151⟩ := hr151
  refine wT (A := []) (r' := .var b6 30 [vB ((mkRat (sg (s) ((((((((qb.num.natAbs)) * ((qa.den))))) - (((((qa.num.natAbs)) * ((qb.den))))))))) (((((qa.den)) * ((qb.den)))))).num < 0), vn151, vd151]) (yC (k := 0) (cs := [_, _, _]) (vs := [_, _, _]) rfl rfl rfl (ocr rfl (ocu hn151 (ocu hd151 oc0))) zZ (Nat.le_of_ble_eq_true rfl)) rfl rfl rfl (zD (zB (zR (xX (fun E S => yP rfl (wS (cs := [_, _, _]) (.head _) Tryz.underlying30 rfl zZ rfl) E S) ?_))))
  rw [bW hc122 (by omega)]
  exact ⟨_, _, rfl, hn151, hd151⟩
 have hde := den_eq.1 (Classical.not_not.1 hc106)
 refine zL (zB (zC (zC (zA (gv (zI Tryz.underlying30 rfl Tryz.sizeOf4 rfl) rfl (gv (zU (.tail _ (.tail _ (.head _))) Tryz.isAgg4 rfl rfl) rfl (mv rfl rfl (gv (tL Tryz.underlying4 rfl rfl) rfl (zD (zB ?_))))))))))
 refine zO rfl (fun hc122 => ?_) (fun hc122 => ?_)
 ·
  refine zC (zA (mv rfl rfl (mv rfl rfl (mv rfl rfl ?_))))
  replace hna := hna.mono (hh1.trans hh2)
  replace hnb := hnb.mono ((hmmc.trans hh1).trans hh2)
  refine zM (vs := [_, _]) rfl rfl rfl rfl Tryz.call134 ⟨rfl, rfl, trivial⟩ (fun w hs => cZ hs hna hnb (by omega) (by omega)) ?_
  intro v126 h3 hh3 hr126
  try simp only [zV] at hr126
  have hlm126 := jL ((qa.num.natAbs)) ((qb.num.natAbs))
  refine mv rfl rfl ?_
  replace hr100 := hr100.mono (hh2.trans hh3)
  refine zM (vs := [_, _, _]) rfl rfl rfl rfl Tryz.call106 ⟨rfl, rfl, rfl, trivial⟩ (fun w hs => kA hs hr126 hr100 (by omega) (by omega)) ?_
  intro v128 h4 hh4 hr128
  try simp only [zV] at hr128
  obtain ⟨vn128, vd128, rfl, hn128, hd128⟩ := hr128
  refine wT (A := []) (r' := .var b6 30 [vB ((mkRat (sg (s) (((((qa.num.natAbs)) + ((qb.num.natAbs)))))) ((qa.den))).num < 0), vn128, vd128]) (yC (k := 0) (cs := [_, _, _]) (vs := [_, _, _]) rfl rfl rfl (ocr rfl (ocu hn128 (ocu hd128 oc0))) zZ (Nat.le_of_ble_eq_true rfl)) rfl rfl rfl (zD (zJ (e' := [(6, _)]) ⟨rfl, trivial⟩ (zB (zR (zX (xX (fun E S => yP rfl (wS (cs := [_, _, _]) (.head _) Tryz.underlying30 rfl zZ rfl) E S) ?_))))))
  rw [add_sgd1 hc122 hde]
  exact ⟨_, _, rfl, hn128, hd128⟩
 refine zL (zB (zC (zC (zA (mv rfl rfl (mv rfl rfl ?_))))))
 replace hna := hna.mono (hh1.trans hh2)
 replace hnb := hnb.mono ((hmmc.trans hh1).trans hh2)
 refine zM (vs := [_, _]) rfl rfl rfl rfl Tryz.call137 ⟨rfl, rfl, trivial⟩ (fun w hs => nT hs hna hnb (by omega)) ?_
 intro v132 h3 hh3 hr132
 obtain ⟨u132, rfl, hu132⟩ := hr132
 try simp only [zV] at hu132 ⊢
 have hlm132 := xJ (Nat.sub_le ((qa.num.natAbs)) ((qb.num.natAbs)))
 refine mv rfl rfl (gv (zN (vs := [_, _]) rfl rfl) rfl (gv (zN (vs := [_, _]) rfl rfl) rfl (asg rfl rfl (asg rfl rfl (zD (zJ (e' := [(2, _), (3, _), (6, _), (15, _), (16, _), (17, _), (18, _), (19, _)]) ⟨rfl, rfl, rfl, rfl, rfl, rfl, rfl, rfl, trivial⟩ (zB (zC (zA (mv rfl rfl (gv (xZ (q := 0) rfl rfl) rfl (zD (zB ?_)))))))))))))
 refine zO rfl (fun hc136 => ?_) (fun hc136 => ?_)
 ·
  have hge := sub_ok hc136
  rw [if_neg hge]
  refine zC (zA (gv (zI Tryz.underlying30 rfl Tryz.sizeOf4 rfl) rfl (gv (zU (.tail _ (.tail _ (.head _))) Tryz.isAgg4 rfl rfl) rfl (mv rfl rfl (mv rfl rfl ?_)))))
  replace hr100 := hr100.mono (hh2.trans hh3)
  refine zM (vs := [_, _, _]) rfl rfl rfl rfl Tryz.call106 ⟨rfl, rfl, rfl, trivial⟩ (fun w hs => kA hs hu132 hr100 (by omega) (by omega)) ?_
  intro v141 h4 hh4 hr141
  try simp only [zV] at hr141
  obtain ⟨vn141, vd141, rfl, hn141, hd141⟩ := hr141
  refine wT (A := []) (r' := .var b6 30 [vB ((mkRat (sg (qa.num < 0) (((((qa.num.natAbs)) - ((qb.num.natAbs)))))) ((qa.den))).num < 0), vn141, vd141]) (yC (k := 0) (cs := [_, _, _]) (vs := [_, _, _]) rfl rfl rfl (ocr rfl (ocu hn141 (ocu hd141 oc0))) zZ (Nat.le_of_ble_eq_true rfl)) rfl rfl rfl (zD (zJ (e' := [(6, _)]) ⟨rfl, trivial⟩ (zB (zR (zX (xX (fun E S => yP rfl (wS (cs := [_, _, _]) (.head _) Tryz.underlying30 rfl zZ rfl) E S) ?_))))))
  rw [sub_sgd1 hc122 hde (by omega)]
  exact ⟨_, _, rfl, hn141, hd141⟩
 have hlt := sub_no hc136
 rw [if_pos hlt]
 refine zL (zB (zC (zA (mv rfl rfl (mv rfl rfl ?_)))))
 replace hna := hna.mono hh3
 replace hnb := hnb.mono hh3
 refine zM (vs := [_, _]) rfl rfl rfl rfl Tryz.call137 ⟨rfl, rfl, trivial⟩ (fun w hs => nT hs hnb hna (by omega)) ?_
 intro v145 h4 hh4 hr145
 obtain ⟨u145, rfl, hu145⟩ := hr145
 try simp only [zV] at hu145 ⊢
 have hlm145 := xJ (Nat.sub_le ((qb.num.natAbs)) ((qa.num.natAbs)))
 refine mv rfl rfl (gv (zN (vs := [_, _]) rfl rfl) rfl (gv (zN (vs := [_, _]) rfl rfl) rfl (asg rfl rfl (asg rfl rfl (zD (zJ (e' := [(2, _), (6, _), (17, _), (20, _)]) ⟨rfl, rfl, rfl, rfl, trivial⟩ (zB (zC (zA (mv rfl rfl (mv rfl rfl (mv rfl rfl ?_))))))))))))
 replace hr100 := hr100.mono ((hh2.trans hh3).trans hh4)
 refine zM (vs := [_, _, _]) rfl rfl rfl rfl Tryz.call106 ⟨rfl, rfl, rfl, trivial⟩ (fun w hs => kA hs hu145 hr100 (by omega) (by omega)) ?_
 intro v151 h5 hh5 hr151
 try simp only [zV] at hr151
 obtain ⟨vn151, vd151, rfl, hn151, hd151⟩ := hr151
 refine wT (A := []) (r' := .var b6 30 [vB ((mkRat (sg (s) (((((qb.num.natAbs)) - ((qa.num.natAbs)))))) ((qa.den))).num < 0), vn151, vd151]) (yC (k := 0) (cs := [_, _, _]) (vs := [_, _, _]) rfl rfl rfl (ocr rfl (ocu hn151 (ocu hd151 oc0))) zZ (Nat.le_of_ble_eq_true rfl)) rfl rfl rfl (zD (zB (zR (xX (fun E S => yP rfl (wS (cs := [_, _, _]) (.head _) Tryz.underlying30 rfl zZ rfl) E S) ?_))))
 rw [sub_sgd1' hc122 hde (by omega)]
 exact ⟨_, _, rfl, hn151, hd151⟩
end Go.Proofs.YtghhjjmjpeehdaaGreat
namespace Go.Proofs.YtghhjjmjpeehdaaGreat
open Bk Go
set_option linter.unusedVariables false
set_option linter.unusedSimpArgs false
set_option maxRecDepth 10000
theorem rat_add {w0 : World} {h0 : Mem}  (hs : MLe h0 (mem w0)) {qa : Rat} {vna vda : Value} (hna : Us .u32 h0 vna (zF qa.num.natAbs)) (hda : Us .u32 h0 vda (zF (vK qa.den))) {qb : Rat} {vnb vdb : Value} (hnb : Us .u32 h0 vnb (zF qb.num.natAbs)) (hdb : Us .u32 h0 vdb (zF (vK qb.den))) (hqa : lq qa ≤ 100000000000) (hqb : lq qb ≤ 100000000000)  :
    Calls Tryz.prog 71 #[.agg #[vB (qa.num < 0), vna, vda], .agg #[vB (qb.num < 0), vnb, vdb]] w0 (Ret w0 h0 (fun h r => vQ h r (qa + qb))) := by
 have hlna := vH qa
 have hlda := vL qa
 have hlDa := wZ qa
 have hlnb := vH qb
 have hldb := vL qb
 have hlDb := wZ qb
 refine zP (n := 10) (e := [(0, .agg #[vB (qa.num < 0), vna, vda]), (1, .agg #[vB (qb.num < 0), vnb, vdb])]) (vs := [.agg #[vB (qa.num < 0), vna, vda], .agg #[vB (qb.num < 0), vnb, vdb]]) Tryz.func71 rfl rfl (Nat.le_of_ble_eq_true rfl) hs ⟨rfl, rfl, trivial⟩ (zC (zA (zK (wW (cs := [_, _, _]) rfl rfl) rfl rfl rfl ?_)))
 intro v2 r2 hr2
 obtain ⟨b2, rfl, rfl⟩ := hr2
 refine zK (wW (cs := [_, _, _]) rfl rfl) rfl rfl rfl ?_
 intro v3 r3 hr3
 obtain ⟨b3, rfl, rfl⟩ := hr3
 refine zK (vN (cs := [vB ((0 : Rat).num < 0), .slice none 0 0, .slice none 0 0]) wP rfl (by simp only [zb]; rfl)) rfl rfl rfl ?_
 intro v4 r4 hr4
 obtain ⟨b4, rfl, rfl⟩ := hr4
 refine zD (zB (zC (zA (gv (yH (vs := [_, _, _]) (.tail _ (.tail _ (.head _))) Tryz.underlying30 rfl zZ rfl rfl) rfl (gv (yH (vs := [_, _, _]) (.tail _ (.head _)) Tryz.underlying30 rfl zZ rfl rfl) rfl (gv (zI Tryz.underlying30 rfl Tryz.sizeOf4 rfl) rfl (gv (zU (.tail _ (.head _)) Tryz.isAgg4 rfl rfl) rfl ?_)))))))
 refine zM (vs := [_, _, _]) rfl rfl rfl rfl Tryz.call109 ⟨rfl, rfl, rfl, trivial⟩ (fun w hs => w5 hs hna hda hnb hdb (by omega) (by omega)) ?_
 intro v9 h1 hh1 hr9
 obtain ⟨vn9, vd9, rfl, hn9, hd9⟩ := hr9
 have hlq9 := rY qa (sgd (qb.num < 0) qb)
 have hls9 := lq_sgd (qb.num < 0) qb
 refine wT (A := []) (r' := .var b4 30 [vB ((qa + sgd (qb.num < 0) qb).num < 0), vn9, vd9]) (yC (k := 0) (cs := [_, _, _]) (vs := [_, _, _]) rfl rfl rfl (ocr rfl (ocu hn9 (ocu hd9 oc0))) zZ (Nat.le_of_ble_eq_true rfl)) rfl rfl rfl (zD (zB (zR (xX (fun E S => yP rfl (wS (cs := [_, _, _]) (.head _) Tryz.underlying30 rfl zZ rfl) E S) ?_))))
 rw [aB] at hn9 hd9 ⊢
 exact ⟨_, _, rfl, hn9, hd9⟩
theorem rat_sub {w0 : World} {h0 : Mem}  (hs : MLe h0 (mem w0)) {qa : Rat} {vna vda : Value} (hna : Us .u32 h0 vna (zF qa.num.natAbs)) (hda : Us .u32 h0 vda (zF (vK qa.den))) {qb : Rat} {vnb vdb : Value} (hnb : Us .u32 h0 vnb (zF qb.num.natAbs)) (hdb : Us .u32 h0 vdb (zF (vK qb.den))) (hqa : lq qa ≤ 100000000000) (hqb : lq qb ≤ 100000000000)  :
    Calls Tryz.prog 70 #[.agg #[vB (qa.num < 0), vna, vda], .agg #[vB (qb.num < 0), vnb, vdb]] w0 (Ret w0 h0 (fun h r => vQ h r (qa - qb))) := by
 have hlna := vH qa
 have hlda := vL qa
 have hlDa := wZ qa
 have hlnb := vH qb
 have hldb := vL qb
 have hlDb := wZ qb
 refine zP (n := 11) (e := [(0, .agg #[vB (qa.num < 0), vna, vda]), (1, .agg #[vB (qb.num < 0), vnb, vdb])]) (vs := [.agg #[vB (qa.num < 0), vna, vda], .agg #[vB (qb.num < 0), vnb, vdb]]) Tryz.func70 rfl rfl (Nat.le_of_ble_eq_true rfl) hs ⟨rfl, rfl, trivial⟩ (zC (zA (zK (wW (cs := [_, _, _]) rfl rfl) rfl rfl rfl ?_)))
 intro v2 r2 hr2
 obtain ⟨b2, rfl, rfl⟩ := hr2
 refine zK (wW (cs := [_, _, _]) rfl rfl) rfl rfl rfl ?_
 intro v3 r3 hr3
 obtain ⟨b3, rfl, rfl⟩ := hr3
 refine zK (vN (cs := [vB ((0 : Rat).num < 0), .slice none 0 0, .slice none 0 0]) wP rfl (by simp only [zb]; rfl)) rfl rfl rfl ?_
 intro v4 r4 hr4
 obtain ⟨b4, rfl, rfl⟩ := hr4
 refine zD (zB (zC (zA (gv (yH (vs := [_, _, _]) (.tail _ (.tail _ (.head _))) Tryz.underlying30 rfl zZ rfl rfl) rfl (gv (yH (vs := [_, _, _]) (.tail _ (.head _)) Tryz.underlying30 rfl zZ rfl rfl) rfl (gv (zI Tryz.underlying30 rfl Tryz.sizeOf4 rfl) rfl (gv (zU (.tail _ (.head _)) Tryz.isAgg4 rfl rfl) rfl (gv (kS rfl) rfl ?_))))))))
 refine zM (vs := [_, _, _]) rfl rfl rfl rfl Tryz.call109 ⟨rfl, rfl, rfl, trivial⟩ (fun w hs => w5 hs hna hda hnb hdb (by omega) (by omega)) ?_
 intro v10 h1 hh1 hr10
 obtain ⟨vn10, vd10, rfl, hn10, hd10⟩ := hr10
 have hlq10 := rY qa (sgd (¬ (qb.num < 0)) qb)
 have hls10 := lq_sgd (¬ (qb.num < 0)) qb
 refine wT (A := []) (r' := .var b4 30 [vB ((qa + sgd (¬ (qb.num < 0)) qb).num < 0), vn10, vd10]) (yC (k := 0) (cs := [_, _, _]) (vs := [_, _, _]) rfl rfl rfl (ocr rfl (ocu hn10 (ocu hd10 oc0))) zZ (Nat.le_of_ble_eq_true rfl)) rfl rfl rfl (zD (zJ (e' := [(4, _)]) ⟨rfl, trivial⟩ (zB (zR (xX (fun E S => yP rfl (wS (cs := [_, _, _]) (.head _) Tryz.underlying30 rfl zZ rfl) E S) ?_)))))
 rw [sgd_neg, ← Rat.sub_eq_add_neg] at hn10 hd10 ⊢
 exact ⟨_, _, rfl, hn10, hd10⟩
theorem rat_min {w0 : World} {h0 : Mem}  (hs : MLe h0 (mem w0)) {qa : Rat} {vna vda : Value} (hna : Us .u32 h0 vna (zF qa.num.natAbs)) (hda : Us .u32 h0 vda (zF (vK qa.den))) {qb : Rat} {vnb vdb : Value} (hnb : Us .u32 h0 vnb (zF qb.num.natAbs)) (hdb : Us .u32 h0 vdb (zF (vK qb.den))) (hqa : lq qa ≤ 100000000000) (hqb : lq qb ≤ 100000000000)  :
    Calls Tryz.prog 67 #[.agg #[vB (qa.num < 0), vna, vda], .agg #[vB (qb.num < 0), vnb, vdb]] w0 (Ret w0 h0 (fun h r => vQ h r (kL qa qb))) := by
 have hlna := vH qa
 have hlda := vL qa
 have hlDa := wZ qa
 have hlnb := vH qb
 have hldb := vL qb
 have hlDb := wZ qb
 refine zP (n := 12) (e := [(0, .agg #[vB (qa.num < 0), vna, vda]), (1, .agg #[vB (qb.num < 0), vnb, vdb])]) (vs := [.agg #[vB (qa.num < 0), vna, vda], .agg #[vB (qb.num < 0), vnb, vdb]]) Tryz.func67 rfl rfl (Nat.le_of_ble_eq_true rfl) hs ⟨rfl, rfl, trivial⟩ (zC (zA (zK (wW (cs := [_, _, _]) rfl rfl) rfl rfl rfl ?_)))
 intro v2 r2 hr2
 obtain ⟨b2, rfl, rfl⟩ := hr2
 refine zK (wW (cs := [_, _, _]) rfl rfl) rfl rfl rfl ?_
 intro v3 r3 hr3
 obtain ⟨b3, rfl, rfl⟩ := hr3
 refine zK (vN (cs := [vB ((0 : Rat).num < 0), .slice none 0 0, .slice none 0 0]) wP rfl (by simp only [zb]; rfl)) rfl rfl rfl ?_
 intro v4 r4 hr4
 obtain ⟨b4, rfl, rfl⟩ := hr4
 refine zD (zB (zC (zC (zA (gv (yH (vs := [_, _, _]) (.tail _ (.head _)) Tryz.underlying30 rfl zZ rfl rfl) rfl (gv (yH (vs := [_, _, _]) (.tail _ (.tail _ (.head _))) Tryz.underlying30 rfl zZ rfl rfl) rfl ?_))))))
 refine zM (vs := [_, _]) rfl rfl rfl rfl Tryz.call104 ⟨rfl, rfl, trivial⟩ (fun w hs => dD hs hnb hdb hna hda (by omega) (by omega)) ?_
 intro v7 h1 hh1 hr7
 have hcr7 := tG qb qa
 subst hr7
 refine gv (zW (q := 0) rfl rfl) rfl (zD (zB ?_))
 refine zO rfl (fun hc8 => ?_) (fun hc8 => ?_)
 ·
  refine zA (gv (yH (vs := [_, _, _]) (.tail _ (.head _)) Tryz.underlying30 rfl zZ rfl rfl) rfl ?_)
  replace hnb := hnb.mono hh1
  replace hdb := hdb.mono hh1
  refine wT (A := [_, _]) (r' := .var b2 30 [vB (qb.num < 0), vnb, vdb]) (yC (k := 0) (cs := [_, _, _]) (vs := [_, _, _]) rfl rfl rfl (ocr rfl (ocu hnb (ocu hdb oc0))) zZ (Nat.le_of_ble_eq_true rfl)) rfl rfl rfl (zD (zB (zC (zA (gv (yH (vs := [_, _, _]) (.tail _ (.tail _ (.head _))) Tryz.underlying30 rfl zZ rfl rfl) rfl ?_)))))
  refine zM (vs := [_]) rfl rfl rfl rfl Tryz.call105 ⟨rfl, trivial⟩ (fun w hs => rT hs hnb hdb (by first | omega | exact Nat.le_trans (vH _) (by omega)) (by first | omega | exact Nat.le_trans (wZ _) (by omega))) ?_
  intro v11 h2 hh2 hr11
  obtain ⟨vn11, vd11, rfl, hn11, hd11⟩ := hr11
  refine wT (A := []) (r' := .var b4 30 [vB ((qb).num < 0), vn11, vd11]) (yC (k := 0) (cs := [_, _, _]) (vs := [_, _, _]) rfl rfl rfl (ocr rfl (ocu hn11 (ocu hd11 oc0))) zZ (Nat.le_of_ble_eq_true rfl)) rfl rfl rfl (zD (zJ (e' := [(4, _)]) ⟨rfl, trivial⟩ (zB (zR (xX (fun E S => yP rfl (wS (cs := [_, _, _]) (.head _) Tryz.underlying30 rfl zZ rfl) E S) ?_)))))
  rw [minQ_t hc8]
  exact ⟨_, _, rfl, hn11, hd11⟩
 refine zL (zB (zC (zA (gv (yH (vs := [_, _, _]) (.tail _ (.tail _ (.head _))) Tryz.underlying30 rfl zZ rfl rfl) rfl ?_))))
 replace hna := hna.mono hh1
 replace hda := hda.mono hh1
 refine zM (vs := [_]) rfl rfl rfl rfl Tryz.call105 ⟨rfl, trivial⟩ (fun w hs => rT hs hna hda (by first | omega | exact Nat.le_trans (vH _) (by omega)) (by first | omega | exact Nat.le_trans (wZ _) (by omega))) ?_
 intro v11 h2 hh2 hr11
 obtain ⟨vn11, vd11, rfl, hn11, hd11⟩ := hr11
 refine wT (A := []) (r' := .var b4 30 [vB ((qa).num < 0), vn11, vd11]) (yC (k := 0) (cs := [_, _, _]) (vs := [_, _, _]) rfl rfl rfl (ocr rfl (ocu hn11 (ocu hd11 oc0))) zZ (Nat.le_of_ble_eq_true rfl)) rfl rfl rfl (zD (zJ (e' := [(4, _)]) ⟨rfl, trivial⟩ (zB (zR (xX (fun E S => yP rfl (wS (cs := [_, _, _]) (.head _) Tryz.underlying30 rfl zZ rfl) E S) ?_)))))
 rw [minQ_f hc8]
 exact ⟨_, _, rfl, hn11, hd11⟩
theorem rat_max {w0 : World} {h0 : Mem}  (hs : MLe h0 (mem w0)) {qa : Rat} {vna vda : Value} (hna : Us .u32 h0 vna (zF qa.num.natAbs)) (hda : Us .u32 h0 vda (zF (vK qa.den))) {qb : Rat} {vnb vdb : Value} (hnb : Us .u32 h0 vnb (zF qb.num.natAbs)) (hdb : Us .u32 h0 vdb (zF (vK qb.den))) (hqa : lq qa ≤ 100000000000) (hqb : lq qb ≤ 100000000000)  :
    Calls Tryz.prog 68 #[.agg #[vB (qa.num < 0), vna, vda], .agg #[vB (qb.num < 0), vnb, vdb]] w0 (Ret w0 h0 (fun h r => vQ h r (kI qa qb))) := by
 have hlna := vH qa
 have hlda := vL qa
 have hlDa := wZ qa
 have hlnb := vH qb
 have hldb := vL qb
 have hlDb := wZ qb
 refine zP (n := 12) (e := [(0, .agg #[vB (qa.num < 0), vna, vda]), (1, .agg #[vB (qb.num < 0), vnb, vdb])]) (vs := [.agg #[vB (qa.num < 0), vna, vda], .agg #[vB (qb.num < 0), vnb, vdb]]) Tryz.func68 rfl rfl (Nat.le_of_ble_eq_true rfl) hs ⟨rfl, rfl, trivial⟩ (zC (zA (zK (wW (cs := [_, _, _]) rfl rfl) rfl rfl rfl ?_)))
 intro v2 r2 hr2
 obtain ⟨b2, rfl, rfl⟩ := hr2
 refine zK (wW (cs := [_, _, _]) rfl rfl) rfl rfl rfl ?_
 intro v3 r3 hr3
 obtain ⟨b3, rfl, rfl⟩ := hr3
 refine zK (vN (cs := [vB ((0 : Rat).num < 0), .slice none 0 0, .slice none 0 0]) wP rfl (by simp only [zb]; rfl)) rfl rfl rfl ?_
 intro v4 r4 hr4
 obtain ⟨b4, rfl, rfl⟩ := hr4
 refine zD (zB (zC (zC (zA (gv (yH (vs := [_, _, _]) (.tail _ (.head _)) Tryz.underlying30 rfl zZ rfl rfl) rfl (gv (yH (vs := [_, _, _]) (.tail _ (.tail _ (.head _))) Tryz.underlying30 rfl zZ rfl rfl) rfl ?_))))))
 refine zM (vs := [_, _]) rfl rfl rfl rfl Tryz.call104 ⟨rfl, rfl, trivial⟩ (fun w hs => dD hs hnb hdb hna hda (by omega) (by omega)) ?_
 intro v7 h1 hh1 hr7
 have hcr7 := tG qb qa
 subst hr7
 refine gv (uS (q := 0) rfl rfl) rfl (zD (zB ?_))
 refine zO rfl (fun hc8 => ?_) (fun hc8 => ?_)
 ·
  refine zA (gv (yH (vs := [_, _, _]) (.tail _ (.head _)) Tryz.underlying30 rfl zZ rfl rfl) rfl ?_)
  replace hnb := hnb.mono hh1
  replace hdb := hdb.mono hh1
  refine wT (A := [_, _]) (r' := .var b2 30 [vB (qb.num < 0), vnb, vdb]) (yC (k := 0) (cs := [_, _, _]) (vs := [_, _, _]) rfl rfl rfl (ocr rfl (ocu hnb (ocu hdb oc0))) zZ (Nat.le_of_ble_eq_true rfl)) rfl rfl rfl (zD (zB (zC (zA (gv (yH (vs := [_, _, _]) (.tail _ (.tail _ (.head _))) Tryz.underlying30 rfl zZ rfl rfl) rfl ?_)))))
  refine zM (vs := [_]) rfl rfl rfl rfl Tryz.call105 ⟨rfl, trivial⟩ (fun w hs => rT hs hnb hdb (by first | omega | exact Nat.le_trans (vH _) (by omega)) (by first | omega | exact Nat.le_trans (wZ _) (by omega))) ?_
  intro v11 h2 hh2 hr11
  obtain ⟨vn11, vd11, rfl, hn11, hd11⟩ := hr11
  refine wT (A := []) (r' := .var b4 30 [vB ((qb).num < 0), vn11, vd11]) (yC (k := 0) (cs := [_, _, _]) (vs := [_, _, _]) rfl rfl rfl (ocr rfl (ocu hn11 (ocu hd11 oc0))) zZ (Nat.le_of_ble_eq_true rfl)) rfl rfl rfl (zD (zJ (e' := [(4, _)]) ⟨rfl, trivial⟩ (zB (zR (xX (fun E S => yP rfl (wS (cs := [_, _, _]) (.head _) Tryz.underlying30 rfl zZ rfl) E S) ?_)))))
  rw [maxQ_t hc8]
  exact ⟨_, _, rfl, hn11, hd11⟩
 refine zL (zB (zC (zA (gv (yH (vs := [_, _, _]) (.tail _ (.tail _ (.head _))) Tryz.underlying30 rfl zZ rfl rfl) rfl ?_))))
 replace hna := hna.mono hh1
 replace hda := hda.mono hh1
 refine zM (vs := [_]) rfl rfl rfl rfl Tryz.call105 ⟨rfl, trivial⟩ (fun w hs => rT hs hna hda (by first | omega | exact Nat.le_trans (vH _) (by omega)) (by first | omega | exact Nat.le_trans (wZ _) (by omega))) ?_
 intro v11 h2 hh2 hr11
 obtain ⟨vn11, vd11, rfl, hn11, hd11⟩ := hr11
 refine wT (A := []) (r' := .var b4 30 [vB ((qa).num < 0), vn11, vd11]) (yC (k := 0) (cs := [_, _, _]) (vs := [_, _, _]) rfl rfl rfl (ocr rfl (ocu hn11 (ocu hd11 oc0))) zZ (Nat.le_of_ble_eq_true rfl)) rfl rfl rfl (zD (zJ (e' := [(4, _)]) ⟨rfl, trivial⟩ (zB (zR (xX (fun E S => yP rfl (wS (cs := [_, _, _]) (.head _) Tryz.underlying30 rfl zZ rfl) E S) ?_)))))
 rw [maxQ_f hc8]
 exact ⟨_, _, rfl, hn11, hd11⟩
end Go.Proofs.YtghhjjmjpeehdaaGreat
namespace Go.Proofs.YtghhjjmjpeehdaaGreat
open Bk Go
set_option linter.unusedVariables false
set_option linter.unusedSimpArgs false
set_option maxRecDepth 10000
theorem fI {w0 : World} {h0 : Mem}  (hs : MLe h0 (mem w0)) {sa : Prop} {ba vna vda : Value} {xa ya : List Nat} (hba : ba = vB sa) (hna : Us .u32 h0 vna xa) (hda : Us .u32 h0 vda ya) :
    Calls Tryz.prog 91 #[.agg #[ba, vna, vda]] w0 (Ret w0 h0 (fun h r => Us .u32 h r (if ya = [] then [1] else ya))) := by
 subst hba
 have hlx1 := uE hna.lt
 have hly1 := uE hda.lt
 refine zP (n := 10) (e := [(0, .agg #[vB sa, vna, vda])]) (vs := [.agg #[vB sa, vna, vda]]) Tryz.func91 rfl rfl (Nat.le_of_ble_eq_true rfl) hs ⟨rfl, trivial⟩ (zC (zA (zK (wW (cs := [_, _, _]) rfl rfl) rfl rfl rfl ?_)))
 intro v1 r1 hr1
 obtain ⟨b1, rfl, rfl⟩ := hr1
 refine asg rfl rfl (zD (zB (zC (zC (zA (gv (zI Tryz.underlying30 rfl Tryz.sizeOf28 rfl) rfl (gv (zU (.head _) Tryz.isAgg28 rfl rfl) rfl (gv (yA Tryz.underlying28 rfl hda) rfl (gv (xZ (q := 0) rfl rfl) rfl (zD (zB ?_)))))))))))
 refine zO rfl (fun hc6 => ?_) (fun hc6 => ?_)
 ·
  refine zC (zA (zK (tE (kd := .u32) (p := 1) Tryz.underlying28 uA rfl rfl rfl) rfl rfl rfl ?_))
  intro v7 r7 hr7
  obtain rfl := hr7
  refine wC (by intro z hz; simp only [List.mem_singleton] at hz; subst hz; decide) ?_
  intro h1 hh1 h9
  refine asg rfl rfl (zD (zB (zR (zX (yJ rfl rfl ?_)))))
  rw [if_pos (k4.1 hc6)]
  exact h9
 refine zL (zB (zC (zA (gv (zI Tryz.underlying30 rfl Tryz.sizeOf28 rfl) rfl (gv (zU (.head _) Tryz.isAgg28 rfl rfl) rfl (asg rfl rfl (zD (zB (zR (yJ rfl rfl ?_))))))))))
 rw [if_neg (fun h => hc6 (k4.2 h))]
 exact hda
end Go.Proofs.YtghhjjmjpeehdaaGreat
namespace Go.Proofs.YtghhjjmjpeehdaaGreat
open Bk Go
set_option linter.unusedVariables false
set_option linter.unusedSimpArgs false
set_option maxRecDepth 10000
theorem fU {w0 : World} {h0 : Mem}  (hs : MLe h0 (mem w0)) {s : Prop} {vn vd : Value} {xs ys : List Nat} (hn : Us .u32 h0 vn xs) (hd : Us .u32 h0 vd ys) (hl : xs.length ≤ 500000000000) (hl' : ys.length ≤ 500000000000) (hd0 : val ys ≠ 0) :
    Calls Tryz.prog 89 #[vB s, vn, vd] w0 (Ret w0 h0 (fun h r => vQ h r (mkRat (sg s (val xs)) (val ys)))) := by
 have hlx := uE hn.lt
 have hly := uE hd.lt
 refine zP (n := 55) (e := [(0, vB s), (1, vn), (2, vd)]) (vs := [vB s, vn, vd]) Tryz.func89 rfl rfl (Nat.le_of_ble_eq_true rfl) hs ⟨rfl, rfl, rfl, trivial⟩ (zC (zA (zK (vN (cs := [vB ((0 : Rat).num < 0), .slice none 0 0, .slice none 0 0]) wP rfl (by simp only [zb]; rfl)) rfl rfl rfl ?_)))
 intro v6 r6 hr6
 obtain ⟨b6, rfl, rfl⟩ := hr6
 refine zD (zB (zC (zA (mv rfl rfl ?_))))
 refine zM (vs := [_]) rfl rfl rfl rfl Tryz.call118 ⟨rfl, trivial⟩ (fun w hs => gA hs hn (by omega)) ?_
 intro v9 h1 hh1 hr9
 refine mv rfl rfl ?_
 replace hd := hd.mono hh1
 refine zM (vs := [_]) rfl rfl rfl rfl Tryz.call118 ⟨rfl, trivial⟩ (fun w hs => gA hs hd (by omega)) ?_
 intro v11 h2 hh2 hr11
 refine asg rfl rfl (asg rfl rfl (zD (zB (zC (zC (zA (mv rfl rfl ?_)))))))
 replace hr9 := hr9.mono hh2
 refine gv (yA Tryz.underlying28 rfl hr9) rfl (gv (xZ (q := 0) rfl rfl) rfl (zD (zB ?_)))
 refine zO rfl (fun hc14 => ?_) (fun hc14 => ?_)
 ·
  refine wH (e' := [(6, _)]) ⟨rfl, trivial⟩ (zC (zA (gv (wN (ps' := []) (vs := [vB ((0 : Rat).num < 0), .slice none 0 0, .slice none 0 0]) Tryz.underlying30 wP rfl (qE Tryz.underlying30) trivial (by simp only [zb]; exact qD)) rfl (wT (A := []) (r' := .var b6 30 [vB ((0 : Rat).num < 0), .slice none 0 0, .slice none 0 0]) (yC (k := 0) (cs := [_, _, _]) (vs := [_, _, _]) rfl rfl rfl rfl zZ (Nat.le_of_ble_eq_true rfl)) rfl rfl rfl (zD (zB (zR (zX (xX (fun E S => yP rfl (wS (cs := [_, _, _]) (.head _) Tryz.underlying30 rfl zZ rfl) E S) ?_)))))))))
  have e : val xs = 0 := Classical.byContradiction fun e => by have := wL.2 e; omega
  rw [e, aT]; exact vQ.zero _
 have hn0 : val xs ≠ 0 := wL.1 (by omega)
 have hg0 : Nat.gcd (val xs) (val ys) ≠ 0 := Nat.ne_of_gt (Nat.gcd_pos_of_pos_left _ (by omega))
 refine zL (zB (zC (zA (mv rfl rfl (mv rfl rfl ?_)))))
 refine zM (vs := [_, _]) rfl rfl rfl rfl Tryz.call119 ⟨rfl, rfl, trivial⟩ (fun w hs => ref_gcd hs hr9 hr11 (by omega) (by omega)) ?_
 intro v18 h3 hh3 hr18
 have hlm18 := bL ((val (xs))) ((val (ys)))
 refine asg rfl rfl (zD (zJ (e' := [(0, _), (6, _), (1, _), (2, _), (7, _)]) ⟨rfl, rfl, rfl, rfl, rfl, trivial⟩ (zB (zC (zC (zA (mv rfl rfl (gv (yA Tryz.underlying28 rfl hr18) rfl (gv (tK (q := 1) rfl rfl) rfl ?_)))))))))
 refine vO (ι := Unit) 6 (fun _ => True) (fun _ => [(27, vB (((↑(zF (Nat.gcd ((val (xs))) ((val (ys))))).length : Int) ≠ (1 : Int)) ∨ (((zF (Nat.gcd ((val (xs))) ((val (ys))))).getD (0) 0) ≠ (1 : Nat)))), (0, vB s), (6, vP b6 0), (1, v9), (2, v11), (7, v18)]) (fun _ => [.var b6 30 [vB ((0 : Rat).num < 0), .slice none 0 0, .slice none 0 0]]) (fun _ => h3) ?_ ?_
 ·
  refine wM ((↑(zF (Nat.gcd ((val (xs))) ((val (ys))))).length : Int) ≠ (1 : Int)) (fun hg => ?_) (fun hg => ?_)
  ·
   refine xH (zG (v := .bool true) (congrArg some (xS hg))) rfl rfl rfl (yL rfl rfl rfl rfl rfl rfl (yL rfl rfl rfl rfl rfl rfl (yL rfl rfl rfl rfl rfl rfl (yL rfl rfl rfl rfl rfl rfl (gv (xK rfl rfl) rfl (zD ?_))))))
   refine yN () trivial ⟨?_, rfl, rfl, rfl, rfl, rfl, trivial⟩ rfl rfl
   exact congrArg some (qR hg)
  refine xH (zG (v := .bool false) (congrArg some (yX hg))) rfl rfl rfl (xA rfl rfl rfl (mv rfl rfl (xA rfl rfl rfl (gv (yO (q := 0) (0) Tryz.underlying28 Tryz.sizeOf124 rfl rfl hr18 rfl (by omega)) rfl (xA rfl rfl rfl (gv (yS Tryz.isAgg124 rfl hr18 (by omega)) rfl (xA rfl rfl rfl (gv (gH (k := .u32) (q := 1) rfl rfl) rfl (gv (wB rfl rfl) rfl (zD ?_))))))))))
  refine yN () trivial ⟨?_, rfl, rfl, rfl, rfl, rfl, trivial⟩ rfl rfl
  exact congrArg some (qS hg)
 intro _ _
 show GL _ _ _ _ _ _ _ [(27, vB (((↑(zF (Nat.gcd ((val (xs))) ((val (ys))))).length : Int) ≠ (1 : Int)) ∨ (((zF (Nat.gcd ((val (xs))) ((val (ys))))).getD (0) 0) ≠ (1 : Nat)))), (0, vB s), (6, vP b6 0), (1, v9), (2, v11), (7, v18)] [.var b6 30 [vB ((0 : Rat).num < 0), .slice none 0 0, .slice none 0 0]] h3
 refine zD (zB ?_)
 refine zO rfl (fun hc27 => ?_) (fun hc27 => ?_)
 ·
  refine zC (zA (mv rfl rfl (mv rfl rfl ?_)))
  replace hr9 := hr9.mono hh3
  refine zM (vs := [_, _]) rfl rfl rfl rfl Tryz.call120 ⟨rfl, rfl, trivial⟩ (fun w hs => dC hs hr9 hr18 (by omega) (by omega)) ?_
  intro v31 h4 hh4 hr31
  obtain ⟨q31, r31, rfl, hq31, hr31⟩ := hr31
  have hlm31 := xJ (Nat.div_le_self ((val (xs))) ((Nat.gcd ((val (xs))) ((val (ys))))))
  refine mv rfl rfl (gv (zN (vs := [_, _, _]) rfl rfl) rfl (gv (zN (vs := [_, _, _]) rfl rfl) rfl (gv (zN (vs := [_, _, _]) rfl rfl) rfl (asg rfl rfl (zD (zB (zA (mv rfl rfl (mv rfl rfl ?_)))))))))
  replace hr11 := hr11.mono (hh3.trans hh4)
  replace hr18 := hr18.mono hh4
  refine zM (vs := [_, _]) rfl rfl rfl rfl Tryz.call120 ⟨rfl, rfl, trivial⟩ (fun w hs => dC hs hr11 hr18 (by omega) (by omega)) ?_
  intro v38 h5 hh5 hr38
  obtain ⟨q38, r38, rfl, hq38, hr38⟩ := hr38
  have hlm38 := xJ (Nat.div_le_self ((val (ys))) ((Nat.gcd ((val (xs))) ((val (ys))))))
  refine mv rfl rfl (gv (zN (vs := [_, _, _]) rfl rfl) rfl (gv (zN (vs := [_, _, _]) rfl rfl) rfl (gv (zN (vs := [_, _, _]) rfl rfl) rfl (asg rfl rfl (zD (zJ (e' := [(0, _), (6, _), (1, _), (2, _)]) ⟨rfl, rfl, rfl, rfl, trivial⟩ (zB (zC (zC (zA (mv rfl rfl (gv (yA Tryz.underlying28 rfl hq38) rfl (gv (xZ (q := 1) rfl rfl) rfl ?_)))))))))))))
  refine vO (ι := Unit) 6 (fun _ => True) (fun _ => [(50, vB (((↑(zF (((val (ys))) / ((Nat.gcd ((val (xs))) ((val (ys))))))).length : Int) = (1 : Int)) ∧ (((zF (((val (ys))) / ((Nat.gcd ((val (xs))) ((val (ys))))))).getD (0) 0) = (1 : Nat)))), (0, vB s), (6, vP b6 0), (1, q31), (2, q38)]) (fun _ => [.var b6 30 [vB ((0 : Rat).num < 0), .slice none 0 0, .slice none 0 0]]) (fun _ => h5) ?_ ?_
  ·
   refine wM ((↑(zF (((val (ys))) / ((Nat.gcd ((val (xs))) ((val (ys))))))).length : Int) = (1 : Int)) (fun hg => ?_) (fun hg => ?_)
   ·
    refine xH (zG (v := .bool true) (congrArg some (xS hg))) rfl rfl rfl (xA rfl rfl rfl (mv rfl rfl (xA rfl rfl rfl (gv (yO (q := 0) (0) Tryz.underlying28 Tryz.sizeOf124 rfl rfl hq38 rfl (by omega)) rfl (xA rfl rfl rfl (gv (yS Tryz.isAgg124 rfl hq38 (by omega)) rfl (xA rfl rfl rfl (gv (fJ (k := .u32) (q := 1) rfl rfl) rfl (gv (xK rfl rfl) rfl (zD ?_))))))))))
    refine yN () trivial ⟨?_, rfl, rfl, rfl, rfl, trivial⟩ rfl rfl
    exact congrArg some (uI hg)
   refine xH (zG (v := .bool false) (congrArg some (yX hg))) rfl rfl rfl (yL rfl rfl rfl rfl rfl rfl (yL rfl rfl rfl rfl rfl rfl (yL rfl rfl rfl rfl rfl rfl (yL rfl rfl rfl rfl rfl rfl (gv (wB rfl rfl) rfl (zD ?_))))))
   refine yN () trivial ⟨?_, rfl, rfl, rfl, rfl, trivial⟩ rfl rfl
   exact congrArg some (uJ hg)
  intro _ _
  show GL _ _ _ _ _ _ _ [(50, vB (((↑(zF (((val (ys))) / ((Nat.gcd ((val (xs))) ((val (ys))))))).length : Int) = (1 : Int)) ∧ (((zF (((val (ys))) / ((Nat.gcd ((val (xs))) ((val (ys))))))).getD (0) 0) = (1 : Nat)))), (0, vB s), (6, vP b6 0), (1, q31), (2, q38)] [.var b6 30 [vB ((0 : Rat).num < 0), .slice none 0 0, .slice none 0 0]] h5
  refine zD (zB ?_)
  refine zO rfl (fun hc50 => ?_) (fun hc50 => ?_)
  ·
   refine zA (asg rfl rfl (zD (zB (zC (zA (mv rfl rfl (mv rfl rfl (mv rfl rfl ?_))))))))
   replace hq31 := hq31.mono hh5
   refine gv (wN (ps' := [(0, _), (1, _), (2, _)]) (vs := [vB s, q31, .slice none 0 0]) Tryz.underlying30 wP rfl (qE Tryz.underlying30) ⟨rfl, rfl, rfl, rfl, rfl, rfl, trivial⟩ (wX (A := []) (B := [_]) (C := [_, _]) (cs := [_]) (off := 0) (size := 1) rfl rfl rfl rfl rfl (wX (A := [_]) (B := [_]) (C := [_]) (cs := [_]) (off := 1) (size := 1) rfl rfl rfl rfl hq31.cells (wX (A := [_, _]) (B := [_]) (C := []) (cs := [_]) (off := 2) (size := 1) rfl rfl rfl rfl rfl qD)))) rfl (wT (A := []) (r' := .var b6 30 [vB s, q31, .slice none 0 0]) (yC (k := 0) (cs := [_, _, _]) (vs := [_, _, _]) rfl rfl rfl (ocr rfl (ocu hq31 (ocr rfl oc0))) zZ (Nat.le_of_ble_eq_true rfl)) rfl rfl rfl (zD (zB (zR (xX (fun E S => yP rfl (wS (cs := [_, _, _]) (.head _) Tryz.underlying30 rfl zZ rfl) E S) ?_)))))
   exact vQ.fin1 hn0 hd0 hq31 hc50
  refine zL (zB (zC (zA (mv rfl rfl (mv rfl rfl (mv rfl rfl ?_))))))
  replace hq31 := hq31.mono hh5
  refine gv (wN (ps' := [(0, _), (1, _), (2, _)]) (vs := [vB s, q31, q38]) Tryz.underlying30 wP rfl (qE Tryz.underlying30) ⟨rfl, rfl, rfl, rfl, rfl, rfl, trivial⟩ (wX (A := []) (B := [_]) (C := [_, _]) (cs := [_]) (off := 0) (size := 1) rfl rfl rfl rfl rfl (wX (A := [_]) (B := [_]) (C := [_]) (cs := [_]) (off := 1) (size := 1) rfl rfl rfl rfl hq31.cells (wX (A := [_, _]) (B := [_]) (C := []) (cs := [_]) (off := 2) (size := 1) rfl rfl rfl rfl hq38.cells qD)))) rfl (wT (A := []) (r' := .var b6 30 [vB s, q31, q38]) (yC (k := 0) (cs := [_, _, _]) (vs := [_, _, _]) rfl rfl rfl (ocr rfl (ocu hq31 (ocu hq38 oc0))) zZ (Nat.le_of_ble_eq_true rfl)) rfl rfl rfl (zD (zB (zR (xX (fun E S => yP rfl (wS (cs := [_, _, _]) (.head _) Tryz.underlying30 rfl zZ rfl) E S) ?_)))))
  exact vQ.fin hn0 hd0 hq31 hq38 hc50
 refine zL (zB (zC (zC (zA (mv rfl rfl ?_)))))
 replace hr11 := hr11.mono hh3
 refine gv (yA Tryz.underlying28 rfl hr11) rfl (gv (xZ (q := 1) rfl rfl) rfl ?_)
 refine vO (ι := Unit) 6 (fun _ => True) (fun _ => [(50, vB (((↑(zF (val (ys))).length : Int) = (1 : Int)) ∧ (((zF (val (ys))).getD (0) 0) = (1 : Nat)))), (0, vB s), (6, vP b6 0), (1, v9), (2, v11)]) (fun _ => [.var b6 30 [vB ((0 : Rat).num < 0), .slice none 0 0, .slice none 0 0]]) (fun _ => h3) ?_ ?_
 ·
  refine wM ((↑(zF (val (ys))).length : Int) = (1 : Int)) (fun hg => ?_) (fun hg => ?_)
  ·
   refine xH (zG (v := .bool true) (congrArg some (xS hg))) rfl rfl rfl (xA rfl rfl rfl (mv rfl rfl (xA rfl rfl rfl (gv (yO (q := 0) (0) Tryz.underlying28 Tryz.sizeOf124 rfl rfl hr11 rfl (by omega)) rfl (xA rfl rfl rfl (gv (yS Tryz.isAgg124 rfl hr11 (by omega)) rfl (xA rfl rfl rfl (gv (fJ (k := .u32) (q := 1) rfl rfl) rfl (gv (xK rfl rfl) rfl (zD ?_))))))))))
   refine yN () trivial ⟨?_, rfl, rfl, rfl, rfl, trivial⟩ rfl rfl
   exact congrArg some (uI hg)
  refine xH (zG (v := .bool false) (congrArg some (yX hg))) rfl rfl rfl (yL rfl rfl rfl rfl rfl rfl (yL rfl rfl rfl rfl rfl rfl (yL rfl rfl rfl rfl rfl rfl (yL rfl rfl rfl rfl rfl rfl (gv (wB rfl rfl) rfl (zD ?_))))))
  refine yN () trivial ⟨?_, rfl, rfl, rfl, rfl, trivial⟩ rfl rfl
  exact congrArg some (uJ hg)
 intro _ _
 show GL _ _ _ _ _ _ _ [(50, vB (((↑(zF (val (ys))).length : Int) = (1 : Int)) ∧ (((zF (val (ys))).getD (0) 0) = (1 : Nat)))), (0, vB s), (6, vP b6 0), (1, v9), (2, v11)] [.var b6 30 [vB ((0 : Rat).num < 0), .slice none 0 0, .slice none 0 0]] h3
 refine zD (zB ?_)
 refine zO rfl (fun hc50 => ?_) (fun hc50 => ?_)
 ·
  refine zA (asg rfl rfl (zD (zB (zC (zA (mv rfl rfl (mv rfl rfl (mv rfl rfl ?_))))))))
  replace hr9 := hr9.mono hh3
  refine gv (wN (ps' := [(0, _), (1, _), (2, _)]) (vs := [vB s, v9, .slice none 0 0]) Tryz.underlying30 wP rfl (qE Tryz.underlying30) ⟨rfl, rfl, rfl, rfl, rfl, rfl, trivial⟩ (wX (A := []) (B := [_]) (C := [_, _]) (cs := [_]) (off := 0) (size := 1) rfl rfl rfl rfl rfl (wX (A := [_]) (B := [_]) (C := [_]) (cs := [_]) (off := 1) (size := 1) rfl rfl rfl rfl hr9.cells (wX (A := [_, _]) (B := [_]) (C := []) (cs := [_]) (off := 2) (size := 1) rfl rfl rfl rfl rfl qD)))) rfl (wT (A := []) (r' := .var b6 30 [vB s, v9, .slice none 0 0]) (yC (k := 0) (cs := [_, _, _]) (vs := [_, _, _]) rfl rfl rfl (ocr rfl (ocu hr9 (ocr rfl oc0))) zZ (Nat.le_of_ble_eq_true rfl)) rfl rfl rfl (zD (zB (zR (xX (fun E S => yP rfl (wS (cs := [_, _, _]) (.head _) Tryz.underlying30 rfl zZ rfl) E S) ?_)))))
  have hg1 := oX hc27
  exact vQ.fin1 hn0 hd0 (by rw [hg1, Nat.div_one]; exact hr9) (by rw [hg1, Nat.div_one]; exact hc50)
 refine zL (zB (zC (zA (mv rfl rfl (mv rfl rfl (mv rfl rfl ?_))))))
 replace hr9 := hr9.mono hh3
 refine gv (wN (ps' := [(0, _), (1, _), (2, _)]) (vs := [vB s, v9, v11]) Tryz.underlying30 wP rfl (qE Tryz.underlying30) ⟨rfl, rfl, rfl, rfl, rfl, rfl, trivial⟩ (wX (A := []) (B := [_]) (C := [_, _]) (cs := [_]) (off := 0) (size := 1) rfl rfl rfl rfl rfl (wX (A := [_]) (B := [_]) (C := [_]) (cs := [_]) (off := 1) (size := 1) rfl rfl rfl rfl hr9.cells (wX (A := [_, _]) (B := [_]) (C := []) (cs := [_]) (off := 2) (size := 1) rfl rfl rfl rfl hr11.cells qD)))) rfl (wT (A := []) (r' := .var b6 30 [vB s, v9, v11]) (yC (k := 0) (cs := [_, _, _]) (vs := [_, _, _]) rfl rfl rfl (ocr rfl (ocu hr9 (ocu hr11 oc0))) zZ (Nat.le_of_ble_eq_true rfl)) rfl rfl rfl (zD (zB (zR (xX (fun E S => yP rfl (wS (cs := [_, _, _]) (.head _) Tryz.underlying30 rfl zZ rfl) E S) ?_)))))
 have hg1 := oX hc27
 exact vQ.fin hn0 hd0 (by rw [hg1, Nat.div_one]; exact hr9) (by rw [hg1, Nat.div_one]; exact hr11) (by rw [hg1, Nat.div_one]; exact hc50)
theorem lP {w0 : World} {h0 : Mem}  (hs : MLe h0 (mem w0)) {n : Int} (hn1 : -9223372036854775808 ≤ n) (hn2 : n < 9223372036854775808) :
    Calls Tryz.prog 83 #[vI n] w0 (Ret w0 h0 (fun h r => ∃ u, r = .tuple #[u, vB (n < 0)] ∧ Us .u32 h u (zF n.natAbs))) := by
 refine zP (n := 15) (e := [(0, vI n)]) (vs := [vI n]) Tryz.func83 rfl rfl (Nat.le_of_ble_eq_true rfl) hs ⟨rfl, trivial⟩ (zC (zA (asg rfl rfl (asg rfl rfl (zD (zB (zC (zC (zA (mv rfl rfl (gv (zW (q := 0) rfl rfl) rfl (zD (zB ?_)))))))))))))
 refine zO rfl (fun hc5 => ?_) (fun hc5 => ?_)
 ·
  refine zC (zA (mv rfl rfl (gv (zQ (q := 1) rfl rfl (by omega) (by omega)) rfl (gv (aI rfl (by omega) (by omega)) rfl (gv (mY (p := (-(n + 1)).toNat) (k' := .u64) (W := 18446744073709551616) Tryz.underlying2 Tryz.underlying122 rfl rfl (congrArg some (congrArg vI (by omega))) (by omega)) rfl (gv (qW (k := .u64) (q := 1) (W := 18446744073709551616) rfl rfl rfl rfl (by omega)) rfl ?_))))))
  refine zM (vs := [_]) rfl rfl rfl rfl Tryz.call116 ⟨rfl, trivial⟩ (fun w hs => bN hs (by omega)) ?_
  intro v11 h1 hh1 hr11
  refine asg rfl rfl (asg rfl rfl (zD (zB (zR (zX (vG rfl rfl rfl ?_))))))
  rw [xS hc5, show n.natAbs = (-(n + 1)).toNat + 1 by omega]
  exact ⟨_, rfl, hr11⟩
 refine zL (zB (zC (zA (mv rfl rfl (gv (mY (p := n.toNat) (k' := .u64) (W := 18446744073709551616) Tryz.underlying2 Tryz.underlying122 rfl rfl (congrArg some (congrArg vI (by omega))) (by omega)) rfl ?_)))))
 refine zM (vs := [_]) rfl rfl rfl rfl Tryz.call116 ⟨rfl, trivial⟩ (fun w hs => bN hs (by omega)) ?_
 intro v14 h1 hh1 hr14
 refine asg rfl rfl (asg rfl rfl (zD (zB (zR (vG rfl rfl rfl ?_)))))
 rw [yX hc5, show n.natAbs = n.toNat by omega]
 exact ⟨_, rfl, hr14⟩
theorem iJ {w0 : World} {h0 : Mem}  (hs : MLe h0 (mem w0)) {n : Int} (hn1 : -9223372036854775808 ≤ n) (hn2 : n < 9223372036854775808) {d : Int} (hd1 : -9223372036854775808 ≤ d) (hd2 : d < 9223372036854775808) :
    Calls Tryz.prog 52 #[vI n, vI d] w0 (Ret w0 h0 (fun h r => ∃ u, r = .tuple #[u, vI (if d = 0 then 3 else 0)] ∧ vQ h u (wU n d))) := by
 refine zP (n := 29) (e := [(0, vI n), (1, vI d)]) (vs := [vI n, vI d]) Tryz.func52 rfl rfl (Nat.le_of_ble_eq_true rfl) hs ⟨rfl, rfl, trivial⟩ (zC (zA (zK (vN (cs := [vB ((0 : Rat).num < 0), .slice none 0 0, .slice none 0 0]) wP rfl (by simp only [zb]; rfl)) rfl rfl rfl ?_)))
 intro v4 r4 hr4
 obtain ⟨b4, rfl, rfl⟩ := hr4
 refine asg (v := vI (0)) rfl rfl (zD (zB (zC (zC (zA (mv rfl rfl (gv (xZ (q := 0) rfl rfl) rfl (zD (zB ?_)))))))))
 refine zO rfl (fun hc11 => ?_) (fun hc11 => ?_)
 ·
  refine zC (zA (gv (wN (ps' := []) (vs := [vB ((0 : Rat).num < 0), .slice none 0 0, .slice none 0 0]) Tryz.underlying30 wP rfl (qE Tryz.underlying30) trivial (by simp only [zb]; exact qD)) rfl (wT (A := []) (r' := .var b4 30 [vB ((0 : Rat).num < 0), .slice none 0 0, .slice none 0 0]) (yC (k := 0) (cs := [_, _, _]) (vs := [_, _, _]) rfl rfl rfl rfl zZ (Nat.le_of_ble_eq_true rfl)) rfl rfl rfl (asg (v := vI (3)) rfl rfl (zD (zB (zR (zX (xX (fun E S => kZ rfl (wS (cs := [_, _, _]) (.head _) Tryz.underlying30 rfl zZ rfl) (tP rfl) E S) ?_)))))))))
  rw [if_pos hc11, hc11, oQ]
  exact ⟨_, rfl, vQ.zero _⟩
 have hda : d.natAbs ≠ 0 := by omega
 refine zL (zB (zC (zA (mv rfl rfl ?_))))
 refine zM (vs := [_]) rfl rfl rfl rfl Tryz.call83 ⟨rfl, trivial⟩ (fun w hs => lP hs (by omega) (by omega)) ?_
 intro v15 h1 hh1 hr15
 obtain ⟨u15, rfl, hu15⟩ := hr15
 have hlm15 := gC (n := n) (by omega) (by omega)
 refine mv rfl rfl (gv (zN (vs := [_, _]) rfl rfl) rfl (gv (zN (vs := [_, _]) rfl rfl) rfl (asg rfl rfl (asg rfl rfl (zD (zB (zC (zA (mv rfl rfl ?_)))))))))
 refine zM (vs := [_]) rfl rfl rfl rfl Tryz.call83 ⟨rfl, trivial⟩ (fun w hs => lP hs (by omega) (by omega)) ?_
 intro v20 h2 hh2 hr20
 obtain ⟨u20, rfl, hu20⟩ := hr20
 have hlm20 := gC (n := d) (by omega) (by omega)
 refine mv rfl rfl (gv (zN (vs := [_, _]) rfl rfl) rfl (gv (zN (vs := [_, _]) rfl rfl) rfl (asg rfl rfl (asg rfl rfl (zD (zJ (e' := [(4, _), (6, _), (7, _), (8, _), (9, _)]) ⟨rfl, rfl, rfl, rfl, rfl, trivial⟩ (zB (zC (zA (mv rfl rfl (mv rfl rfl (gv (gI Tryz.underlying4 rfl rfl) rfl (mv rfl rfl ?_)))))))))))))
 refine mv rfl rfl ?_
 replace hu15 := hu15.mono hh2
 refine zM (vs := [_, _, _]) rfl rfl rfl rfl Tryz.call89 ⟨rfl, rfl, rfl, trivial⟩ (fun w hs => fU hs hu15 hu20 (by omega) (by omega) (by first | (simp only [zV]; omega) | (simp only [zV]; first | exact Rat.den_nz _ | exact Nat.mul_ne_zero (Rat.den_nz _) (Rat.den_nz _) | exact Nat.one_ne_zero | assumption) | assumption)) ?_
 intro v28 h3 hh3 hr28
 try simp only [zV] at hr28
 obtain ⟨vn28, vd28, rfl, hn28, hd28⟩ := hr28
 refine wT (A := []) (r' := .var b4 30 [vB ((mkRat (sg (¬ ((n < 0) ↔ (d < 0))) (((n).natAbs))) (((d).natAbs))).num < 0), vn28, vd28]) (yC (k := 0) (cs := [_, _, _]) (vs := [_, _, _]) rfl rfl rfl (ocr rfl (ocu hn28 (ocu hd28 oc0))) zZ (Nat.le_of_ble_eq_true rfl)) rfl rfl rfl (asg (v := vI (0)) rfl rfl (zD (zJ (e' := [(4, _), (5, _)]) ⟨rfl, rfl, trivial⟩ (zB (zR (xX (fun E S => kZ rfl (wS (cs := [_, _, _]) (.head _) Tryz.underlying30 rfl zZ rfl) (tP rfl) E S) ?_))))))
 rw [if_neg hc11, ← j6 hc11]
 exact ⟨_, rfl, _, _, rfl, hn28, hd28⟩
theorem rref_int {w0 : World} {h0 : Mem}  (hs : MLe h0 (mem w0)) {n : Int} (hn1 : -9223372036854775808 ≤ n) (hn2 : n < 9223372036854775808) :
    Calls Tryz.prog 45 #[vI n] w0 (Ret w0 h0 (fun h r => vQ h r (n : Rat))) := by
 refine zP (n := 13) (e := [(0, vI n)]) (vs := [vI n]) Tryz.func45 rfl rfl (Nat.le_of_ble_eq_true rfl) hs ⟨rfl, trivial⟩ (zC (zA (zK (vN (cs := [vB ((0 : Rat).num < 0), .slice none 0 0, .slice none 0 0]) wP rfl (by simp only [zb]; rfl)) rfl rfl rfl ?_)))
 intro v2 r2 hr2
 obtain ⟨b2, rfl, rfl⟩ := hr2
 refine zD (zB (zC (zA (mv rfl rfl ?_))))
 refine zM (vs := [_]) rfl rfl rfl rfl Tryz.call83 ⟨rfl, trivial⟩ (fun w hs => lP hs (by omega) (by omega)) ?_
 intro v7 h1 hh1 hr7
 obtain ⟨u7, rfl, hu7⟩ := hr7
 have hlm7 := gC (n := n) (by omega) (by omega)
 refine mv rfl rfl (gv (zN (vs := [_, _]) rfl rfl) rfl (gv (zN (vs := [_, _]) rfl rfl) rfl (asg rfl rfl (asg rfl rfl (zD (zB (zC (zA (mv rfl rfl (mv rfl rfl (gv (wN (ps' := [(0, _), (1, _)]) (vs := [vB (n < 0), u7, .slice none 0 0]) Tryz.underlying30 wP rfl (qE Tryz.underlying30) ⟨rfl, rfl, rfl, rfl, trivial⟩ (wX (A := []) (B := [_]) (C := [_, _]) (cs := [_]) (off := 0) (size := 1) rfl rfl rfl rfl rfl (wX (A := [_]) (B := [_]) (C := [_]) (cs := [_]) (off := 1) (size := 1) rfl rfl rfl rfl hu7.cells qD))) rfl (wT (A := []) (r' := .var b2 30 [vB (n < 0), u7, .slice none 0 0]) (yC (k := 0) (cs := [_, _, _]) (vs := [_, _, _]) rfl rfl rfl (ocr rfl (ocu hu7 (ocr rfl oc0))) zZ (Nat.le_of_ble_eq_true rfl)) rfl rfl rfl (zD ?_)))))))))))))
 refine zJ (e' := [(2, _)]) ⟨rfl, trivial⟩ (zB (zR (xX (fun E S => yP rfl (wS (cs := [_, _, _]) (.head _) Tryz.underlying30 rfl zZ rfl) E S) ?_)))
 exact vQ.int hu7
theorem rref_frac {w0 : World} {h0 : Mem}  (hs : MLe h0 (mem w0)) {n : Int} (hn1 : -9223372036854775808 ≤ n) (hn2 : n < 9223372036854775808) {d : Int} (hd1 : -9223372036854775808 ≤ d) (hd2 : d < 9223372036854775808) :
    Calls Tryz.prog 46 #[vI n, vI d] w0 (Ret w0 h0 (fun h r => vQ h r (wU n d))) := by
 refine zP (n := 14) (e := [(0, vI n), (1, vI d)]) (vs := [vI n, vI d]) Tryz.func46 rfl rfl (Nat.le_of_ble_eq_true rfl) hs ⟨rfl, rfl, trivial⟩ (zC (zA (zK (vN (cs := [vB ((0 : Rat).num < 0), .slice none 0 0, .slice none 0 0]) wP rfl (by simp only [zb]; rfl)) rfl rfl rfl ?_)))
 intro v4 r4 hr4
 obtain ⟨b4, rfl, rfl⟩ := hr4
 refine zD (zB (zC (zA (mv rfl rfl (mv rfl rfl ?_)))))
 refine zM (vs := [_, _]) rfl rfl rfl rfl Tryz.call52 ⟨rfl, rfl, trivial⟩ (fun w hs => iJ hs (by omega) (by omega) (by omega) (by omega)) ?_
 intro v10 h1 hh1 hr10
 obtain ⟨_, rfl, vn10, vd10, rfl, hn10, hd10⟩ := hr10
 have hlq10 := dN (n := n) (d := d) (by omega) (by omega) (by omega) (by omega)
 refine mv rfl rfl (gv (zN (vs := [_, _]) rfl rfl) rfl (gv (zN (vs := [_, _]) rfl rfl) rfl (zK (vN (cs := [vB ((0 : Rat).num < 0), .slice none 0 0, .slice none 0 0]) wP rfl (by simp only [zb]; rfl)) rfl rfl rfl ?_)))
 intro v5 r5 hr5
 obtain ⟨b5, rfl, rfl⟩ := hr5
 refine wT (A := []) (r' := .var b5 30 [vB ((wU n d).num < 0), vn10, vd10]) (yC (k := 0) (cs := [_, _, _]) (vs := [_, _, _]) rfl rfl rfl (ocr rfl (ocu hn10 (ocu hd10 oc0))) zZ (Nat.le_of_ble_eq_true rfl)) rfl rfl rfl (asg rfl rfl (zD (zB (zC (zA (gv (yH (vs := [_, _, _]) (.head _) Tryz.underlying30 rfl zZ rfl rfl) rfl (wT (A := [_]) (r' := .var b4 30 [vB ((wU n d).num < 0), vn10, vd10]) (yC (k := 0) (cs := [_, _, _]) (vs := [_, _, _]) rfl rfl rfl (ocr rfl (ocu hn10 (ocu hd10 oc0))) zZ (Nat.le_of_ble_eq_true rfl)) rfl rfl rfl (zD (zJ (e' := [(4, _)]) ⟨rfl, trivial⟩ (zB (zR (xX (fun E S => yP rfl (wS (cs := [_, _, _]) (.tail _ (.head _)) Tryz.underlying30 rfl zZ rfl) E S) ?_))))))))))))
 exact ⟨_, _, rfl, hn10, hd10⟩
theorem rref_same {w0 : World} {h0 : Mem}  (hs : MLe h0 (mem w0)) {qa : Rat} {vna vda : Value} (hna : Us .u32 h0 vna (zF qa.num.natAbs)) (hda : Us .u32 h0 vda (zF (vK qa.den))) {qb : Rat} {vnb vdb : Value} (hnb : Us .u32 h0 vnb (zF qb.num.natAbs)) (hdb : Us .u32 h0 vdb (zF (vK qb.den))) (hqa : lq qa ≤ 100000000000) (hqb : lq qb ≤ 100000000000)  :
    Calls Tryz.prog 62 #[.agg #[vB (qa.num < 0), vna, vda], .agg #[vB (qb.num < 0), vnb, vdb]] w0 (Ret w0 h0 (fun _ r => r = vB (qa = qb))) := by
 have hlna := vH qa
 have hlda := vL qa
 have hlDa := wZ qa
 have hlnb := vH qb
 have hldb := vL qb
 have hlDb := wZ qb
 refine zP (n := 26) (e := [(0, .agg #[vB (qa.num < 0), vna, vda]), (1, .agg #[vB (qb.num < 0), vnb, vdb])]) (vs := [.agg #[vB (qa.num < 0), vna, vda], .agg #[vB (qb.num < 0), vnb, vdb]]) Tryz.func62 rfl rfl (Nat.le_of_ble_eq_true rfl) hs ⟨rfl, rfl, trivial⟩ (zC (zA (zK (wW (cs := [_, _, _]) rfl rfl) rfl rfl rfl ?_)))
 intro v2 r2 hr2
 obtain ⟨b2, rfl, rfl⟩ := hr2
 refine zK (wW (cs := [_, _, _]) rfl rfl) rfl rfl rfl ?_
 intro v3 r3 hr3
 obtain ⟨b3, rfl, rfl⟩ := hr3
 refine asg rfl rfl (zD (zB (zC (zA (gv (zI Tryz.underlying30 rfl Tryz.sizeOf4 rfl) rfl (gv (zU (.tail _ (.head _)) Tryz.isAgg4 rfl rfl) rfl (gv (zI Tryz.underlying30 rfl Tryz.sizeOf4 rfl) rfl (gv (zU (.head _) Tryz.isAgg4 rfl rfl) rfl (gv (tL Tryz.underlying4 rfl rfl) rfl ?_)))))))))
 refine vO (ι := Mem) 8 (fun m_ => MLe h0 m_) (fun _ => [(17, vB (((qa.num < 0) ↔ (qb.num < 0)) ∧ ((gP (qa.num.natAbs) (qb.num.natAbs)) = (0 : Int)))), (2, vP b2 0), (3, vP b3 0)]) (fun _ => [.var b3 30 [vB (qb.num < 0), vnb, vdb], .var b2 30 [vB (qa.num < 0), vna, vda]]) (fun m_ => m_) ?_ ?_
 ·
  refine wM ((qa.num < 0) ↔ (qb.num < 0)) (fun hg => ?_) (fun hg => ?_)
  ·
   refine xH (zG (v := .bool true) (congrArg some (xS hg))) rfl rfl rfl (xA rfl rfl rfl (gv (zI Tryz.underlying30 rfl Tryz.sizeOf28 rfl) rfl (xA rfl rfl rfl (gv (zU (.tail _ (.head _)) Tryz.isAgg28 rfl rfl) rfl (xA rfl rfl rfl (gv (zI Tryz.underlying30 rfl Tryz.sizeOf28 rfl) rfl (xA rfl rfl rfl (gv (zU (.head _) Tryz.isAgg28 rfl rfl) rfl (xA rfl rfl rfl ?_)))))))))
   refine zM (vs := [_, _]) rfl rfl rfl rfl Tryz.call93 ⟨rfl, rfl, trivial⟩ (fun w hs => rS hs hna hnb) ?_
   intro v15 h1 hh1 hr15
   subst hr15
   refine xA rfl rfl rfl (gv (xZ (q := 0) rfl rfl) rfl (gv (xK rfl rfl) rfl (zD ?_)))
   refine yN h1 hh1 ⟨?_, rfl, rfl, trivial⟩ rfl rfl
   exact congrArg some (uI hg)
  refine xH (zG (v := .bool false) (congrArg some (yX hg))) rfl rfl rfl (yL rfl rfl rfl rfl rfl rfl (yL rfl rfl rfl rfl rfl rfl (yL rfl rfl rfl rfl rfl rfl (yL rfl rfl rfl rfl rfl rfl (yL rfl rfl rfl rfl rfl rfl (yL rfl rfl rfl rfl rfl rfl (gv (wB rfl rfl) rfl (zD ?_))))))))
  refine yN h0 (MLe.refl _) ⟨?_, rfl, rfl, trivial⟩ rfl rfl
  exact congrArg some (uJ hg)
 intro mg1_5 hmmg1_5
 show GL _ _ _ _ _ _ _ [(17, vB (((qa.num < 0) ↔ (qb.num < 0)) ∧ ((gP (qa.num.natAbs) (qb.num.natAbs)) = (0 : Int)))), (2, vP b2 0), (3, vP b3 0)] [.var b3 30 [vB (qb.num < 0), vnb, vdb], .var b2 30 [vB (qa.num < 0), vna, vda]] mg1_5
 refine vO (ι := Mem) 8 (fun m_ => MLe mg1_5 m_) (fun _ => [(25, vB ((((qa.num < 0) ↔ (qb.num < 0)) ∧ ((gP (qa.num.natAbs) (qb.num.natAbs)) = (0 : Int))) ∧ ((gP ((vK qa.den)) ((vK qb.den))) = (0 : Int))))]) (fun _ => [.var b3 30 [vB (qb.num < 0), vnb, vdb], .var b2 30 [vB (qa.num < 0), vna, vda]]) (fun m_ => m_) ?_ ?_
 ·
  refine wM (((qa.num < 0) ↔ (qb.num < 0)) ∧ ((gP (qa.num.natAbs) (qb.num.natAbs)) = (0 : Int))) (fun hg => ?_) (fun hg => ?_)
  ·
   refine xH (zG (v := .bool true) (congrArg some (xS hg))) rfl rfl rfl (xA rfl rfl rfl (gv (zI Tryz.underlying30 rfl Tryz.sizeOf28 rfl) rfl (xA rfl rfl rfl (gv (zU (.tail _ (.head _)) Tryz.isAgg28 rfl rfl) rfl (xA rfl rfl rfl (gv (zI Tryz.underlying30 rfl Tryz.sizeOf28 rfl) rfl (xA rfl rfl rfl (gv (zU (.head _) Tryz.isAgg28 rfl rfl) rfl (xA rfl rfl rfl ?_)))))))))
   replace hda := hda.mono hmmg1_5
   replace hdb := hdb.mono hmmg1_5
   refine zM (vs := [_, _]) rfl rfl rfl rfl Tryz.call93 ⟨rfl, rfl, trivial⟩ (fun w hs => rS hs hda hdb) ?_
   intro v23 h1 hh1 hr23
   subst hr23
   refine xA rfl rfl rfl (gv (xZ (q := 0) rfl rfl) rfl (gv (xK rfl rfl) rfl (zD ?_)))
   refine yN h1 hh1 ⟨?_, trivial⟩ rfl rfl
   exact congrArg some (uI hg)
  refine xH (zG (v := .bool false) (congrArg some (yX hg))) rfl rfl rfl (yL rfl rfl rfl rfl rfl rfl (yL rfl rfl rfl rfl rfl rfl (yL rfl rfl rfl rfl rfl rfl (yL rfl rfl rfl rfl rfl rfl (yL rfl rfl rfl rfl rfl rfl (yL rfl rfl rfl rfl rfl rfl (gv (wB rfl rfl) rfl (zD ?_))))))))
  refine yN mg1_5 (MLe.refl _) ⟨?_, trivial⟩ rfl rfl
  exact congrArg some (uJ hg)
 intro mg1_13 hmmg1_13
 show GL _ _ _ _ _ _ _ [(25, vB ((((qa.num < 0) ↔ (qb.num < 0)) ∧ ((gP (qa.num.natAbs) (qb.num.natAbs)) = (0 : Int))) ∧ ((gP ((vK qa.den)) ((vK qb.den))) = (0 : Int))))] [.var b3 30 [vB (qb.num < 0), vnb, vdb], .var b2 30 [vB (qa.num < 0), vna, vda]] mg1_13
 refine asg rfl rfl (zD (zB (zR (yJ rfl rfl ?_))))
 exact pR cmp_same
theorem lQ {w0 : World} {h0 : Mem}  (hs : MLe h0 (mem w0)) {qa : Rat} {vna vda : Value} (hna : Us .u32 h0 vna (zF qa.num.natAbs)) (hda : Us .u32 h0 vda (zF (vK qa.den))) (hqa : lq qa ≤ 100000000000)  :
    Calls Tryz.prog 50 #[.agg #[vB (qa.num < 0), vna, vda]] w0 (Ret w0 h0 (fun _ r => r = vI (uY qa))) := by
 have hlna := vH qa
 have hlda := vL qa
 have hlDa := wZ qa
 refine zP (n := 9) (e := [(0, .agg #[vB (qa.num < 0), vna, vda])]) (vs := [.agg #[vB (qa.num < 0), vna, vda]]) Tryz.func50 rfl rfl (Nat.le_of_ble_eq_true rfl) hs ⟨rfl, trivial⟩ (zC (zA (zK (wW (cs := [_, _, _]) rfl rfl) rfl rfl rfl ?_)))
 intro v1 r1 hr1
 obtain ⟨b1, rfl, rfl⟩ := hr1
 refine asg (v := vI (0)) rfl rfl (zD (zB (zC (zC (zA (gv (zI Tryz.underlying30 rfl Tryz.sizeOf28 rfl) rfl (gv (zU (.head _) Tryz.isAgg28 rfl rfl) rfl (gv (yA Tryz.underlying28 rfl hna) rfl (gv (xZ (q := 0) rfl rfl) rfl (zD (zB ?_)))))))))))
 refine zO rfl (fun hc6 => ?_) (fun hc6 => ?_)
 ·
  refine zC (zA (asg (v := vI (0)) rfl rfl (zD (zB (zR (zX (yJ rfl rfl ?_)))))))
  rw [rE (tM hc6)]
 refine zL (zB (zC (zC (zA (gv (zI Tryz.underlying30 rfl Tryz.sizeOf4 rfl) rfl (gv (zU (.head _) Tryz.isAgg4 rfl rfl) rfl (zD (zB ?_))))))))
 refine zO rfl (fun hc8 => ?_) (fun hc8 => ?_)
 ·
  refine zC (zA (asg (v := vI (-1)) rfl rfl (zD (zB (zR (zX (yJ rfl rfl ?_)))))))
  rw [bZ hc8]
 refine zL (zB (zC (zA (asg (v := vI (1)) rfl rfl (zD (zB (zR (yJ rfl rfl ?_))))))))
 rw [bY (oG hc6) hc8]
theorem rref_neg {w0 : World} {h0 : Mem}  (hs : MLe h0 (mem w0)) {qa : Rat} {vna vda : Value} (hna : Us .u32 h0 vna (zF qa.num.natAbs)) (hda : Us .u32 h0 vda (zF (vK qa.den))) (hqa : lq qa ≤ 100000000000)  :
    Calls Tryz.prog 95 #[.agg #[vB (qa.num < 0), vna, vda]] w0 (Ret w0 h0 (fun h r => vQ h r (-qa))) := by
 have hlna := vH qa
 have hlda := vL qa
 have hlDa := wZ qa
 refine zP (n := 14) (e := [(0, .agg #[vB (qa.num < 0), vna, vda])]) (vs := [.agg #[vB (qa.num < 0), vna, vda]]) Tryz.func95 rfl rfl (Nat.le_of_ble_eq_true rfl) hs ⟨rfl, trivial⟩ (zC (zA (zK (wW (cs := [_, _, _]) rfl rfl) rfl rfl rfl ?_)))
 intro v1 r1 hr1
 obtain ⟨b1, rfl, rfl⟩ := hr1
 refine zK (vN (cs := [vB ((0 : Rat).num < 0), .slice none 0 0, .slice none 0 0]) wP rfl (by simp only [zb]; rfl)) rfl rfl rfl ?_
 intro v2 r2 hr2
 obtain ⟨b2, rfl, rfl⟩ := hr2
 refine zD (zB (zC (zA (gv (zI Tryz.underlying30 rfl Tryz.sizeOf4 rfl) rfl (gv (zU (.tail _ (.head _)) Tryz.isAgg4 rfl rfl) rfl (gv (kS rfl) rfl ?_))))))
 refine vO (ι := Unit) 6 (fun _ => True) (fun _ => [(11, vB ((¬ (qa.num < 0)) ∧ ((0 : Int) < (↑(zF qa.num.natAbs).length : Int)))), (1, vP b1 0), (2, vP b2 0)]) (fun _ => [.var b2 30 [vB ((0 : Rat).num < 0), .slice none 0 0, .slice none 0 0], .var b1 30 [vB (qa.num < 0), vna, vda]]) (fun _ => h0) ?_ ?_
 ·
  refine wM (¬ (qa.num < 0)) (fun hg => ?_) (fun hg => ?_)
  ·
   refine xH (zG (v := .bool true) (congrArg some (xS hg))) rfl rfl rfl (xA rfl rfl rfl (gv (zI Tryz.underlying30 rfl Tryz.sizeOf28 rfl) rfl (xA rfl rfl rfl (gv (zU (.tail _ (.head _)) Tryz.isAgg28 rfl rfl) rfl (xA rfl rfl rfl (gv (yA Tryz.underlying28 rfl hna) rfl (xA rfl rfl rfl (gv (uS (q := 0) rfl rfl) rfl (gv (xK rfl rfl) rfl (zD ?_))))))))))
   refine yN () trivial ⟨?_, rfl, rfl, trivial⟩ rfl rfl
   exact congrArg some (uI hg)
  refine xH (zG (v := .bool false) (congrArg some (yX hg))) rfl rfl rfl (yL rfl rfl rfl rfl rfl rfl (yL rfl rfl rfl rfl rfl rfl (yL rfl rfl rfl rfl rfl rfl (yL rfl rfl rfl rfl rfl rfl (gv (wB rfl rfl) rfl (zD ?_))))))
  refine yN () trivial ⟨?_, rfl, rfl, trivial⟩ rfl rfl
  exact congrArg some (uJ hg)
 intro _ _
 show GL _ _ _ _ _ _ _ [(11, vB ((¬ (qa.num < 0)) ∧ ((0 : Int) < (↑(zF qa.num.natAbs).length : Int)))), (1, vP b1 0), (2, vP b2 0)] [.var b2 30 [vB ((0 : Rat).num < 0), .slice none 0 0, .slice none 0 0], .var b1 30 [vB (qa.num < 0), vna, vda]] h0
 refine gv (zI Tryz.underlying30 rfl Tryz.sizeOf4 rfl) rfl (wT (A := [_]) (r' := .var b1 30 [vB ((¬ (qa.num < 0)) ∧ ((0 : Int) < (↑(zF qa.num.natAbs).length : Int))), vna, vda]) (yC (k := 0) (cs := [_, _, _]) (vs := [_]) rfl rfl rfl rfl size4 (Nat.le_of_ble_eq_true rfl)) rfl rfl rfl (zD (zB (zC (zA (gv (yH (vs := [_, _, _]) (.tail _ (.head _)) Tryz.underlying30 rfl zZ rfl rfl) rfl (wT (A := []) (r' := .var b2 30 [vB ((¬ (qa.num < 0)) ∧ ((0 : Int) < (↑(zF qa.num.natAbs).length : Int))), vna, vda]) (yC (k := 0) (cs := [_, _, _]) (vs := [_, _, _]) rfl rfl rfl (ocr rfl (ocu hna (ocu hda oc0))) zZ (Nat.le_of_ble_eq_true rfl)) rfl rfl rfl (zD (zB (zR (xX (fun E S => yP rfl (wS (cs := [_, _, _]) (.head _) Tryz.underlying30 rfl zZ rfl) E S) ?_)))))))))))
 exact vQ.negB hna hda
theorem x8 {w0 : World} {h0 : Mem}  (hs : MLe h0 (mem w0)) {qa : Rat} {vna vda : Value} (hna : Us .u32 h0 vna (zF qa.num.natAbs)) (hda : Us .u32 h0 vda (zF (vK qa.den))) {qb : Rat} {vnb vdb : Value} (hnb : Us .u32 h0 vnb (zF qb.num.natAbs)) (hdb : Us .u32 h0 vdb (zF (vK qb.den))) (hqa : lq qa ≤ 100000000000) (hqb : lq qb ≤ 100000000000)  :
    Calls Tryz.prog 53 #[.agg #[vB (qa.num < 0), vna, vda], .agg #[vB (qb.num < 0), vnb, vdb]] w0 (Ret w0 h0 (fun h r => vQ h r (qa + qb))) := by
 have hlna := vH qa
 have hlda := vL qa
 have hlDa := wZ qa
 have hlnb := vH qb
 have hldb := vL qb
 have hlDb := wZ qb
 refine zP (n := 75) (e := [(0, .agg #[vB (qa.num < 0), vna, vda]), (1, .agg #[vB (qb.num < 0), vnb, vdb])]) (vs := [.agg #[vB (qa.num < 0), vna, vda], .agg #[vB (qb.num < 0), vnb, vdb]]) Tryz.func53 rfl rfl (Nat.le_of_ble_eq_true rfl) hs ⟨rfl, rfl, trivial⟩ (zC (zA (zK (wW (cs := [_, _, _]) rfl rfl) rfl rfl rfl ?_)))
 intro v2 r2 hr2
 obtain ⟨b2, rfl, rfl⟩ := hr2
 refine zK (wW (cs := [_, _, _]) rfl rfl) rfl rfl rfl ?_
 intro v3 r3 hr3
 obtain ⟨b3, rfl, rfl⟩ := hr3
 refine zK (vN (cs := [vB ((0 : Rat).num < 0), .slice none 0 0, .slice none 0 0]) wP rfl (by simp only [zb]; rfl)) rfl rfl rfl ?_
 intro v4 r4 hr4
 obtain ⟨b4, rfl, rfl⟩ := hr4
 refine zD (zB (zC (zC (zA (gv (zI Tryz.underlying30 rfl Tryz.sizeOf28 rfl) rfl (gv (zU (.tail _ (.tail _ (.head _))) Tryz.isAgg28 rfl rfl) rfl (gv (yA Tryz.underlying28 rfl hna) rfl (gv (xZ (q := 0) rfl rfl) rfl (zD (zB ?_))))))))))
 refine zO rfl (fun hc15 => ?_) (fun hc15 => ?_)
 ·
  refine zC (zA (gv (yH (vs := [_, _, _]) (.tail _ (.head _)) Tryz.underlying30 rfl zZ rfl rfl) rfl (wT (A := []) (r' := .var b4 30 [vB (qb.num < 0), vnb, vdb]) (yC (k := 0) (cs := [_, _, _]) (vs := [_, _, _]) rfl rfl rfl (ocr rfl (ocu hnb (ocu hdb oc0))) zZ (Nat.le_of_ble_eq_true rfl)) rfl rfl rfl (zD (zB (zR (zX (xX (fun E S => yP rfl (wS (cs := [_, _, _]) (.head _) Tryz.underlying30 rfl zZ rfl) E S) ?_))))))))
  rw [tM hc15, Rat.zero_add]
  exact ⟨_, _, rfl, hnb, hdb⟩
 refine zL (zB (zC (zC (zA (gv (zI Tryz.underlying30 rfl Tryz.sizeOf28 rfl) rfl (gv (zU (.tail _ (.head _)) Tryz.isAgg28 rfl rfl) rfl (gv (yA Tryz.underlying28 rfl hnb) rfl (gv (xZ (q := 0) rfl rfl) rfl (zD (zB ?_))))))))))
 refine zO rfl (fun hc20 => ?_) (fun hc20 => ?_)
 ·
  refine wH (e' := [(2, _), (4, _)]) ⟨rfl, rfl, trivial⟩ (zC (zA (gv (yH (vs := [_, _, _]) (.tail _ (.tail _ (.head _))) Tryz.underlying30 rfl zZ rfl rfl) rfl (wT (A := []) (r' := .var b4 30 [vB (qa.num < 0), vna, vda]) (yC (k := 0) (cs := [_, _, _]) (vs := [_, _, _]) rfl rfl rfl (ocr rfl (ocu hna (ocu hda oc0))) zZ (Nat.le_of_ble_eq_true rfl)) rfl rfl rfl (zD (zB (zR (zX (xX (fun E S => yP rfl (wS (cs := [_, _, _]) (.head _) Tryz.underlying30 rfl zZ rfl) E S) ?_)))))))))
  rw [tM hc20, Rat.add_zero]
  exact ⟨_, _, rfl, hna, hda⟩
 refine wH (e' := [(2, _), (3, _), (4, _)]) ⟨rfl, rfl, rfl, trivial⟩ (zL (zB (zC ?_)))
 refine yI 12 _ [] [(0, .q), (1, .q), (2, .q), (5, .q), (6, .q), (7, .q), (3, .c), (4, .c), (8, .c), (9, .c), (10, .q), (11, .q)] xI (fun x hx => by cases hx) (by kernel_rfl) (fun x hx => by cases hx) (fun r hr => hr) (w_q rfl (fun h' L' hh hR => zI Tryz.underlying30 rfl Tryz.sizeOf28 rfl) rfl (w_q rfl (fun h' L' hh hR => zU (hR _ (.tail _ (.tail _ (.head _)))) Tryz.isAgg28 rfl rfl) rfl (w_q rfl (fun h' L' hh hR => yH (vs := [_, _, _]) (hR _ (.tail _ (.head _))) Tryz.underlying30 rfl zZ rfl rfl) rfl (w_q rfl (fun h' L' hh hR => zI Tryz.underlying30 rfl Tryz.sizeOf28 rfl) rfl (w_q rfl (fun h' L' hh hR => zU (hR _ (.tail _ (.head _))) Tryz.isAgg28 rfl rfl) rfl (w_q rfl (fun h' L' hh hR => yH (vs := [_, _, _]) (hR _ (.tail _ (.tail _ (.head _)))) Tryz.underlying30 rfl zZ rfl rfl) rfl ?_))))))
 refine w_c rfl ?_
 refine yD (vs := [_]) Tryz.call91 ⟨rfl, trivial⟩ (fun w hs => fI hs rfl hnb hdb) rfl ?_
 intro v25 h1 hh1 hr25
 rw [uF] at hr25
 refine w_c rfl ?_
 replace hna := hna.mono hh1
 refine yD (vs := [_, _]) Tryz.call90 ⟨rfl, rfl, trivial⟩ (fun w hs => tI hs hna hr25 (by omega) (by omega)) rfl ?_
 intro v26 h2 hh2 hr26
 try simp only [zV] at hr26
 have hlm26 := xN ((qa.num.natAbs)) ((qb.den))
 refine w_c rfl ?_
 replace hna := hna.mono hh2
 replace hda := hda.mono (hh1.trans hh2)
 refine yD (vs := [_]) Tryz.call91 ⟨rfl, trivial⟩ (fun w hs => fI hs rfl hna hda) rfl ?_
 intro v30 h3 hh3 hr30
 rw [uF] at hr30
 refine w_c rfl ?_
 replace hnb := hnb.mono ((hh1.trans hh2).trans hh3)
 refine yD (vs := [_, _]) Tryz.call90 ⟨rfl, rfl, trivial⟩ (fun w hs => tI hs hnb hr30 (by omega) (by omega)) rfl ?_
 intro v31 h4 hh4 hr31
 try simp only [zV] at hr31
 have hlm31 := xN ((qb.num.natAbs)) ((qa.den))
 refine w_q rfl (fun h' L' hh hR => zY rfl) rfl (w_q rfl (fun h' L' hh hR => zY rfl) rfl (xB (zJ (e' := [(2, _), (3, _), (4, _), (5, _), (6, _)]) ⟨rfl, rfl, rfl, rfl, rfl, trivial⟩ (zB (zC ?_)))))
 refine yI 6 _ [] [(0, .q), (2, .q), (1, .c), (3, .c), (4, .c), (5, .q)] xI (fun x hx => by cases hx) (by kernel_rfl) (fun x hx => by cases hx) (fun r hr => hr) (w_q rfl (fun h' L' hh hR => yH (vs := [_, _, _]) (hR _ (.tail _ (.tail _ (.head _)))) Tryz.underlying30 rfl zZ rfl rfl) rfl (w_q rfl (fun h' L' hh hR => yH (vs := [_, _, _]) (hR _ (.tail _ (.head _))) Tryz.underlying30 rfl zZ rfl rfl) rfl ?_))
 refine w_c rfl ?_
 replace hna := hna.mono (hh3.trans hh4)
 replace hda := hda.mono (hh3.trans hh4)
 refine yD (vs := [_]) Tryz.call91 ⟨rfl, trivial⟩ (fun w hs => fI hs rfl hna hda) rfl ?_
 intro v33 h5 hh5 hr33
 rw [uF] at hr33
 refine w_c rfl ?_
 replace hnb := hnb.mono (hh4.trans hh5)
 replace hdb := hdb.mono ((((hh1.trans hh2).trans hh3).trans hh4).trans hh5)
 refine yD (vs := [_]) Tryz.call91 ⟨rfl, trivial⟩ (fun w hs => fI hs rfl hnb hdb) rfl ?_
 intro v35 h6 hh6 hr35
 rw [uF] at hr35
 refine w_c rfl ?_
 replace hr33 := hr33.mono hh6
 refine yD (vs := [_, _]) Tryz.call90 ⟨rfl, rfl, trivial⟩ (fun w hs => tI hs hr33 hr35 (by omega) (by omega)) rfl ?_
 intro v36 h7 hh7 hr36
 try simp only [zV] at hr36
 have hlm36 := xN ((qa.den)) ((qb.den))
 refine w_q rfl (fun h' L' hh hR => zY rfl) rfl (xB (zB (zC (zC (zA (gv (zI Tryz.underlying30 rfl Tryz.sizeOf4 rfl) rfl (gv (zU (.tail _ (.tail _ (.head _))) Tryz.isAgg4 rfl rfl) rfl (gv (zI Tryz.underlying30 rfl Tryz.sizeOf4 rfl) rfl (gv (zU (.tail _ (.head _)) Tryz.isAgg4 rfl rfl) rfl (gv (tL Tryz.underlying4 rfl rfl) rfl (zD (zB ?_))))))))))))
 refine zO rfl (fun hc41 => ?_) (fun hc41 => ?_)
 ·
  refine wH (e' := [(2, _), (4, _), (5, _), (6, _), (7, _)]) ⟨rfl, rfl, rfl, rfl, rfl, trivial⟩ (zC ?_)
  refine yI 7 _ [] [(0, .q), (1, .q), (2, .q), (3, .q), (5, .q), (4, .c), (6, .c), (7, .t)] xI (fun x hx => by cases hx) (by kernel_rfl) (fun x hx => by cases hx) (fun r hr => hr) (w_q rfl (fun h' L' hh hR => zI Tryz.underlying30 rfl Tryz.sizeOf4 rfl) rfl (w_q rfl (fun h' L' hh hR => zU (hR _ (.tail _ (.tail _ (.head _)))) Tryz.isAgg4 rfl rfl) rfl (w_q rfl (fun h' L' hh hR => zG rfl) rfl (w_q rfl (fun h' L' hh hR => zG rfl) rfl (w_q rfl (fun h' L' hh hR => zG rfl) rfl ?_)))))
  refine w_c rfl ?_
  replace hr26 := hr26.mono ((((hh3.trans hh4).trans hh5).trans hh6).trans hh7)
  replace hr31 := hr31.mono ((hh5.trans hh6).trans hh7)
  refine yD (vs := [_, _]) Tryz.call92 ⟨rfl, rfl, trivial⟩ (fun w hs => ref_add hs hr26 hr31 (by omega) (by omega)) rfl ?_
  intro v46 h8 hh8 hr46
  have hlm46 := jL ((((qa.num.natAbs)) * ((qb.den)))) ((((qb.num.natAbs)) * ((qa.den))))
  refine w_c rfl ?_
  replace hr36 := hr36.mono hh8
  refine yD (vs := [_, _, _]) Tryz.call89 ⟨rfl, rfl, rfl, trivial⟩ (fun w hs => fU hs hr46 hr36 (by omega) (by omega) (by first | (simp only [zV]; omega) | (simp only [zV]; first | exact Rat.den_nz _ | exact Nat.mul_ne_zero (Rat.den_nz _) (Rat.den_nz _) | exact Nat.one_ne_zero | assumption) | assumption)) rfl ?_
  intro v48 h9 hh9 hr48
  try simp only [zV] at hr48
  obtain ⟨vn48, vd48, rfl, hn48, hd48⟩ := hr48
  refine gQ (A := []) (q' := .var b4 30 [vB ((mkRat (sg (qa.num < 0) (((((((qa.num.natAbs)) * ((qb.den)))) + ((((qb.num.natAbs)) * ((qa.den)))))))) (((((qa.den)) * ((qb.den)))))).num < 0), vn48, vd48]) rfl (yC (k := 0) (cs := [_, _, _]) (vs := [_, _, _]) rfl rfl rfl (ocr rfl (ocu hn48 (ocu hd48 oc0))) zZ (Nat.le_of_ble_eq_true rfl)) rfl (xB (zJ (e' := [(4, _)]) ⟨rfl, trivial⟩ (zB (zR (zX (xX (fun E S => yP rfl (wS (cs := [_, _, _]) (.head _) Tryz.underlying30 rfl zZ rfl) E S) ?_))))))
  rw [add_same hc41] at hn48 hd48 ⊢
  exact ⟨_, _, rfl, hn48, hd48⟩
 refine wH (e' := [(2, _), (3, _), (4, _), (5, _), (6, _), (7, _)]) ⟨rfl, rfl, rfl, rfl, rfl, rfl, trivial⟩ (zL (zB (zC (zC (zA (mv rfl rfl (mv rfl rfl ?_)))))))
 replace hr26 := hr26.mono ((((hh3.trans hh4).trans hh5).trans hh6).trans hh7)
 replace hr31 := hr31.mono ((hh5.trans hh6).trans hh7)
 refine zM (vs := [_, _]) rfl rfl rfl rfl Tryz.call93 ⟨rfl, rfl, trivial⟩ (fun w hs => rS hs hr26 hr31) ?_
 intro v51 h8 hh8 hr51
 subst hr51
 refine gv (zW (q := 0) rfl rfl) rfl (zD (zB ?_))
 refine zO rfl (fun hc52 => ?_) (fun hc52 => ?_)
 ·
  refine zC (zA (mv rfl rfl (mv rfl rfl ?_)))
  replace hr26 := hr26.mono hh8
  replace hr31 := hr31.mono hh8
  refine zM (vs := [_, _]) rfl rfl rfl rfl Tryz.call94 ⟨rfl, rfl, trivial⟩ (fun w hs => ref_sub hs hr31 hr26 (by omega)) ?_
  intro v56 h9 hh9 hr56
  obtain ⟨u56, rfl, hu56⟩ := hr56
  have hlm56 := xJ (Nat.sub_le ((((qb.num.natAbs)) * ((qa.den)))) ((((qa.num.natAbs)) * ((qb.den)))))
  refine mv rfl rfl (gv (zN (vs := [_, _]) rfl rfl) rfl (gv (zN (vs := [_, _]) rfl rfl) rfl (asg rfl rfl (asg rfl rfl (zD (zJ (e' := [(3, _), (4, _), (7, _), (8, _)]) ⟨rfl, rfl, rfl, rfl, trivial⟩ (zB (zC (zA (gv (zI Tryz.underlying30 rfl Tryz.sizeOf4 rfl) rfl (gv (zU (.tail _ (.head _)) Tryz.isAgg4 rfl rfl) rfl (mv rfl rfl (mv rfl rfl ?_)))))))))))))
  replace hr36 := hr36.mono (hh8.trans hh9)
  refine zM (vs := [_, _, _]) rfl rfl rfl rfl Tryz.call89 ⟨rfl, rfl, rfl, trivial⟩ (fun w hs => fU hs hu56 hr36 (by omega) (by omega) (by first | (simp only [zV]; omega) | (simp only [zV]; first | exact Rat.den_nz _ | exact Nat.mul_ne_zero (Rat.den_nz _) (Rat.den_nz _) | exact Nat.one_ne_zero | assumption) | assumption)) ?_
  intro v63 h10 hh10 hr63
  try simp only [zV] at hr63
  obtain ⟨vn63, vd63, rfl, hn63, hd63⟩ := hr63
  refine wT (A := []) (r' := .var b4 30 [vB ((mkRat (sg (qb.num < 0) (((((((qb.num.natAbs)) * ((qa.den)))) - ((((qa.num.natAbs)) * ((qb.den)))))))) (((((qa.den)) * ((qb.den)))))).num < 0), vn63, vd63]) (yC (k := 0) (cs := [_, _, _]) (vs := [_, _, _]) rfl rfl rfl (ocr rfl (ocu hn63 (ocu hd63 oc0))) zZ (Nat.le_of_ble_eq_true rfl)) rfl rfl rfl (zD (zB (zR (zX (xX (fun E S => yP rfl (wS (cs := [_, _, _]) (.head _) Tryz.underlying30 rfl zZ rfl) E S) ?_)))))
  rw [add_lt hc41 (by have := fO.1 hc52; omega)] at hn63 hd63 ⊢
  exact ⟨_, _, rfl, hn63, hd63⟩
 refine zL (zB (zC (zA (mv rfl rfl (mv rfl rfl ?_)))))
 replace hr26 := hr26.mono hh8
 replace hr31 := hr31.mono hh8
 refine zM (vs := [_, _]) rfl rfl rfl rfl Tryz.call94 ⟨rfl, rfl, trivial⟩ (fun w hs => ref_sub hs hr26 hr31 (by omega)) ?_
 intro v67 h9 hh9 hr67
 obtain ⟨u67, rfl, hu67⟩ := hr67
 have hlm67 := xJ (Nat.sub_le ((((qa.num.natAbs)) * ((qb.den)))) ((((qb.num.natAbs)) * ((qa.den)))))
 refine mv rfl rfl (gv (zN (vs := [_, _]) rfl rfl) rfl (gv (zN (vs := [_, _]) rfl rfl) rfl (asg rfl rfl (asg rfl rfl (zD (zJ (e' := [(2, _), (4, _), (7, _), (10, _)]) ⟨rfl, rfl, rfl, rfl, trivial⟩ (zB (zC (zA (gv (zI Tryz.underlying30 rfl Tryz.sizeOf4 rfl) rfl (gv (zU (.tail _ (.tail _ (.head _))) Tryz.isAgg4 rfl rfl) rfl (mv rfl rfl (mv rfl rfl ?_)))))))))))))
 replace hr36 := hr36.mono (hh8.trans hh9)
 refine zM (vs := [_, _, _]) rfl rfl rfl rfl Tryz.call89 ⟨rfl, rfl, rfl, trivial⟩ (fun w hs => fU hs hu67 hr36 (by omega) (by omega) (by first | (simp only [zV]; omega) | (simp only [zV]; first | exact Rat.den_nz _ | exact Nat.mul_ne_zero (Rat.den_nz _) (Rat.den_nz _) | exact Nat.one_ne_zero | assumption) | assumption)) ?_
 intro v74 h10 hh10 hr74
 try simp only [zV] at hr74
 obtain ⟨vn74, vd74, rfl, hn74, hd74⟩ := hr74
 refine wT (A := []) (r' := .var b4 30 [vB ((mkRat (sg (qa.num < 0) (((((((qa.num.natAbs)) * ((qb.den)))) - ((((qb.num.natAbs)) * ((qa.den)))))))) (((((qa.den)) * ((qb.den)))))).num < 0), vn74, vd74]) (yC (k := 0) (cs := [_, _, _]) (vs := [_, _, _]) rfl rfl rfl (ocr rfl (ocu hn74 (ocu hd74 oc0))) zZ (Nat.le_of_ble_eq_true rfl)) rfl rfl rfl (zD (zB (zR (xX (fun E S => yP rfl (wS (cs := [_, _, _]) (.head _) Tryz.underlying30 rfl zZ rfl) E S) ?_))))
 rw [add_ge hc41 (Nat.le_of_not_lt (fun h => hc52 (fO.2 h)))] at hn74 hd74 ⊢
 exact ⟨_, _, rfl, hn74, hd74⟩
theorem rref_sub {w0 : World} {h0 : Mem}  (hs : MLe h0 (mem w0)) {qa : Rat} {vna vda : Value} (hna : Us .u32 h0 vna (zF qa.num.natAbs)) (hda : Us .u32 h0 vda (zF (vK qa.den))) {qb : Rat} {vnb vdb : Value} (hnb : Us .u32 h0 vnb (zF qb.num.natAbs)) (hdb : Us .u32 h0 vdb (zF (vK qb.den))) (hqa : lq qa ≤ 100000000000) (hqb : lq qb ≤ 100000000000)  :
    Calls Tryz.prog 56 #[.agg #[vB (qa.num < 0), vna, vda], .agg #[vB (qb.num < 0), vnb, vdb]] w0 (Ret w0 h0 (fun h r => vQ h r (qa - qb))) := by
 have hlna := vH qa
 have hlda := vL qa
 have hlDa := wZ qa
 have hlnb := vH qb
 have hldb := vL qb
 have hlDb := wZ qb
 refine zP (n := 9) (e := [(0, .agg #[vB (qa.num < 0), vna, vda]), (1, .agg #[vB (qb.num < 0), vnb, vdb])]) (vs := [.agg #[vB (qa.num < 0), vna, vda], .agg #[vB (qb.num < 0), vnb, vdb]]) Tryz.func56 rfl rfl (Nat.le_of_ble_eq_true rfl) hs ⟨rfl, rfl, trivial⟩ (zC (zA (zK (wW (cs := [_, _, _]) rfl rfl) rfl rfl rfl ?_)))
 intro v2 r2 hr2
 obtain ⟨b2, rfl, rfl⟩ := hr2
 refine zK (wW (cs := [_, _, _]) rfl rfl) rfl rfl rfl ?_
 intro v3 r3 hr3
 obtain ⟨b3, rfl, rfl⟩ := hr3
 refine zK (vN (cs := [vB ((0 : Rat).num < 0), .slice none 0 0, .slice none 0 0]) wP rfl (by simp only [zb]; rfl)) rfl rfl rfl ?_
 intro v4 r4 hr4
 obtain ⟨b4, rfl, rfl⟩ := hr4
 refine zD (zB (zC ?_))
 refine yI 4 _ [] [(0, .q), (1, .q), (2, .c), (3, .c), (4, .t)] xI (fun x hx => by cases hx) (by kernel_rfl) (fun x hx => by cases hx) (fun r hr => hr) (w_q rfl (fun h' L' hh hR => yH (vs := [_, _, _]) (hR _ (.tail _ (.tail _ (.head _)))) Tryz.underlying30 rfl zZ rfl rfl) rfl (w_q rfl (fun h' L' hh hR => yH (vs := [_, _, _]) (hR _ (.tail _ (.head _))) Tryz.underlying30 rfl zZ rfl rfl) rfl ?_))
 refine w_c rfl ?_
 refine yD (vs := [_]) Tryz.call95 ⟨rfl, trivial⟩ (fun w hs => rref_neg hs hnb hdb (by omega)) rfl ?_
 intro v7 h1 hh1 hr7
 obtain ⟨vn7, vd7, rfl, hn7, hd7⟩ := hr7
 have hlq7 := lq_neg qb
 refine w_c rfl ?_
 replace hna := hna.mono hh1
 replace hda := hda.mono hh1
 refine yD (vs := [_, _]) Tryz.call53 ⟨rfl, rfl, trivial⟩ (fun w hs => x8 hs hna hda hn7 hd7 (by omega) (by omega)) rfl ?_
 intro v8 h2 hh2 hr8
 obtain ⟨vn8, vd8, rfl, hn8, hd8⟩ := hr8
 have hlq8 := rY qa (-qb)
 refine gQ (A := []) (q' := .var b4 30 [vB ((qa + (-qb)).num < 0), vn8, vd8]) rfl (yC (k := 0) (cs := [_, _, _]) (vs := [_, _, _]) rfl rfl rfl (ocr rfl (ocu hn8 (ocu hd8 oc0))) zZ (Nat.le_of_ble_eq_true rfl)) rfl (xB (zB (zR (xX (fun E S => yP rfl (wS (cs := [_, _, _]) (.head _) Tryz.underlying30 rfl zZ rfl) E S) ?_))))
 rw [← Rat.sub_eq_add_neg] at hn8 hd8 ⊢
 exact ⟨_, _, rfl, hn8, hd8⟩
theorem rref_mul {w0 : World} {h0 : Mem}  (hs : MLe h0 (mem w0)) {qa : Rat} {vna vda : Value} (hna : Us .u32 h0 vna (zF qa.num.natAbs)) (hda : Us .u32 h0 vda (zF (vK qa.den))) {qb : Rat} {vnb vdb : Value} (hnb : Us .u32 h0 vnb (zF qb.num.natAbs)) (hdb : Us .u32 h0 vdb (zF (vK qb.den))) (hqa : lq qa ≤ 100000000000) (hqb : lq qb ≤ 100000000000)  :
    Calls Tryz.prog 54 #[.agg #[vB (qa.num < 0), vna, vda], .agg #[vB (qb.num < 0), vnb, vdb]] w0 (Ret w0 h0 (fun h r => vQ h r (qa * qb))) := by
 have hlna := vH qa
 have hlda := vL qa
 have hlDa := wZ qa
 have hlnb := vH qb
 have hldb := vL qb
 have hlDb := wZ qb
 refine zP (n := 21) (e := [(0, .agg #[vB (qa.num < 0), vna, vda]), (1, .agg #[vB (qb.num < 0), vnb, vdb])]) (vs := [.agg #[vB (qa.num < 0), vna, vda], .agg #[vB (qb.num < 0), vnb, vdb]]) Tryz.func54 rfl rfl (Nat.le_of_ble_eq_true rfl) hs ⟨rfl, rfl, trivial⟩ (zC (zA (zK (wW (cs := [_, _, _]) rfl rfl) rfl rfl rfl ?_)))
 intro v2 r2 hr2
 obtain ⟨b2, rfl, rfl⟩ := hr2
 refine zK (wW (cs := [_, _, _]) rfl rfl) rfl rfl rfl ?_
 intro v3 r3 hr3
 obtain ⟨b3, rfl, rfl⟩ := hr3
 refine zK (vN (cs := [vB ((0 : Rat).num < 0), .slice none 0 0, .slice none 0 0]) wP rfl (by simp only [zb]; rfl)) rfl rfl rfl ?_
 intro v4 r4 hr4
 obtain ⟨b4, rfl, rfl⟩ := hr4
 refine zD (zB (zC ?_))
 refine yI 16 _ [] [(0, .q), (1, .q), (2, .q), (3, .q), (4, .q), (5, .q), (6, .q), (7, .q), (8, .q), (10, .q), (12, .q), (9, .c), (11, .c), (13, .c), (14, .c), (15, .c), (16, .t)] xI (fun x hx => by cases hx) (by kernel_rfl) (fun x hx => by cases hx) (fun r hr => hr) (w_q rfl (fun h' L' hh hR => zI Tryz.underlying30 rfl Tryz.sizeOf4 rfl) rfl (w_q rfl (fun h' L' hh hR => zU (hR _ (.tail _ (.tail _ (.head _)))) Tryz.isAgg4 rfl rfl) rfl (w_q rfl (fun h' L' hh hR => zI Tryz.underlying30 rfl Tryz.sizeOf4 rfl) rfl (w_q rfl (fun h' L' hh hR => zU (hR _ (.tail _ (.head _))) Tryz.isAgg4 rfl rfl) rfl (w_q rfl (fun h' L' hh hR => gI Tryz.underlying4 rfl rfl) rfl (w_q rfl (fun h' L' hh hR => zI Tryz.underlying30 rfl Tryz.sizeOf28 rfl) rfl (w_q rfl (fun h' L' hh hR => zU (hR _ (.tail _ (.tail _ (.head _)))) Tryz.isAgg28 rfl rfl) rfl (w_q rfl (fun h' L' hh hR => zI Tryz.underlying30 rfl Tryz.sizeOf28 rfl) rfl (w_q rfl (fun h' L' hh hR => zU (hR _ (.tail _ (.head _))) Tryz.isAgg28 rfl rfl) rfl (w_q rfl (fun h' L' hh hR => yH (vs := [_, _, _]) (hR _ (.tail _ (.tail _ (.head _)))) Tryz.underlying30 rfl zZ rfl rfl) rfl (w_q rfl (fun h' L' hh hR => yH (vs := [_, _, _]) (hR _ (.tail _ (.head _))) Tryz.underlying30 rfl zZ rfl rfl) rfl ?_)))))))))))
 refine w_c rfl ?_
 refine yD (vs := [_, _]) Tryz.call90 ⟨rfl, rfl, trivial⟩ (fun w hs => tI hs hna hnb (by omega) (by omega)) rfl ?_
 intro v14 h1 hh1 hr14
 try simp only [zV] at hr14
 have hlm14 := xN ((qa.num.natAbs)) ((qb.num.natAbs))
 refine w_c rfl ?_
 replace hna := hna.mono hh1
 replace hda := hda.mono hh1
 refine yD (vs := [_]) Tryz.call91 ⟨rfl, trivial⟩ (fun w hs => fI hs rfl hna hda) rfl ?_
 intro v16 h2 hh2 hr16
 rw [uF] at hr16
 refine w_c rfl ?_
 replace hnb := hnb.mono (hh1.trans hh2)
 replace hdb := hdb.mono (hh1.trans hh2)
 refine yD (vs := [_]) Tryz.call91 ⟨rfl, trivial⟩ (fun w hs => fI hs rfl hnb hdb) rfl ?_
 intro v18 h3 hh3 hr18
 rw [uF] at hr18
 refine w_c rfl ?_
 replace hr16 := hr16.mono hh3
 refine yD (vs := [_, _]) Tryz.call90 ⟨rfl, rfl, trivial⟩ (fun w hs => tI hs hr16 hr18 (by omega) (by omega)) rfl ?_
 intro v19 h4 hh4 hr19
 try simp only [zV] at hr19
 have hlm19 := xN ((qa.den)) ((qb.den))
 refine w_c rfl ?_
 replace hr14 := hr14.mono ((hh2.trans hh3).trans hh4)
 refine yD (vs := [_, _, _]) Tryz.call89 ⟨rfl, rfl, rfl, trivial⟩ (fun w hs => fU hs hr14 hr19 (by omega) (by omega) (by first | (simp only [zV]; omega) | (simp only [zV]; first | exact Rat.den_nz _ | exact Nat.mul_ne_zero (Rat.den_nz _) (Rat.den_nz _) | exact Nat.one_ne_zero | assumption) | assumption)) rfl ?_
 intro v20 h5 hh5 hr20
 try simp only [zV] at hr20
 obtain ⟨vn20, vd20, rfl, hn20, hd20⟩ := hr20
 refine gQ (A := []) (q' := .var b4 30 [vB ((mkRat (sg (¬ ((qa.num < 0) ↔ (qb.num < 0))) (((((qa.num.natAbs)) * ((qb.num.natAbs)))))) (((((qa.den)) * ((qb.den)))))).num < 0), vn20, vd20]) rfl (yC (k := 0) (cs := [_, _, _]) (vs := [_, _, _]) rfl rfl rfl (ocr rfl (ocu hn20 (ocu hd20 oc0))) zZ (Nat.le_of_ble_eq_true rfl)) rfl (xB (zJ (e' := [(4, _)]) ⟨rfl, trivial⟩ (zB (zR (xX (fun E S => yP rfl (wS (cs := [_, _, _]) (.head _) Tryz.underlying30 rfl zZ rfl) E S) ?_)))))
 rw [mul_eq] at hn20 hd20 ⊢
 exact ⟨_, _, rfl, hn20, hd20⟩
theorem rref_quo {w0 : World} {h0 : Mem}  (hs : MLe h0 (mem w0)) {qa : Rat} {vna vda : Value} (hna : Us .u32 h0 vna (zF qa.num.natAbs)) (hda : Us .u32 h0 vda (zF (vK qa.den))) {qb : Rat} {vnb vdb : Value} (hnb : Us .u32 h0 vnb (zF qb.num.natAbs)) (hdb : Us .u32 h0 vdb (zF (vK qb.den))) (hqa : lq qa ≤ 100000000000) (hqb : lq qb ≤ 100000000000)  :
    Calls Tryz.prog 88 #[.agg #[vB (qa.num < 0), vna, vda], .agg #[vB (qb.num < 0), vnb, vdb]] w0 (Ret w0 h0 (fun h r => ∃ u, r = .tuple #[u, vI (if qb = 0 then 3 else 0)] ∧ vQ h u (if qb = 0 then 0 else qa / qb))) := by
 have hlna := vH qa
 have hlda := vL qa
 have hlDa := wZ qa
 have hlnb := vH qb
 have hldb := vL qb
 have hlDb := wZ qb
 refine zP (n := 27) (e := [(0, .agg #[vB (qa.num < 0), vna, vda]), (1, .agg #[vB (qb.num < 0), vnb, vdb])]) (vs := [.agg #[vB (qa.num < 0), vna, vda], .agg #[vB (qb.num < 0), vnb, vdb]]) Tryz.func88 rfl rfl (Nat.le_of_ble_eq_true rfl) hs ⟨rfl, rfl, trivial⟩ (zC (zA (zK (wW (cs := [_, _, _]) rfl rfl) rfl rfl rfl ?_)))
 intro v2 r2 hr2
 obtain ⟨b2, rfl, rfl⟩ := hr2
 refine zK (wW (cs := [_, _, _]) rfl rfl) rfl rfl rfl ?_
 intro v3 r3 hr3
 obtain ⟨b3, rfl, rfl⟩ := hr3
 refine zK (vN (cs := [vB ((0 : Rat).num < 0), .slice none 0 0, .slice none 0 0]) wP rfl (by simp only [zb]; rfl)) rfl rfl rfl ?_
 intro v4 r4 hr4
 obtain ⟨b4, rfl, rfl⟩ := hr4
 refine asg (v := vI (0)) rfl rfl (zD (zB (zC (zC (zA (gv (zI Tryz.underlying30 rfl Tryz.sizeOf28 rfl) rfl (gv (zU (.tail _ (.head _)) Tryz.isAgg28 rfl rfl) rfl (gv (yA Tryz.underlying28 rfl hnb) rfl (gv (xZ (q := 0) rfl rfl) rfl (zD (zB ?_)))))))))))
 refine zO rfl (fun hc9 => ?_) (fun hc9 => ?_)
 ·
  refine zC (zA (gv (wN (ps' := []) (vs := [vB ((0 : Rat).num < 0), .slice none 0 0, .slice none 0 0]) Tryz.underlying30 wP rfl (qE Tryz.underlying30) trivial (by simp only [zb]; exact qD)) rfl (wT (A := []) (r' := .var b4 30 [vB ((0 : Rat).num < 0), .slice none 0 0, .slice none 0 0]) (yC (k := 0) (cs := [_, _, _]) (vs := [_, _, _]) rfl rfl rfl rfl zZ (Nat.le_of_ble_eq_true rfl)) rfl rfl rfl (asg (v := vI (3)) rfl rfl (zD (zB (zR (zX (xX (fun E S => kZ rfl (wS (cs := [_, _, _]) (.head _) Tryz.underlying30 rfl zZ rfl) (tP rfl) E S) ?_)))))))))
  rw [if_pos (tM hc9), if_pos (tM hc9)]
  exact ⟨_, rfl, vQ.zero _⟩
 have hb0 := oG hc9
 have hbn := oH.2 hb0
 have hd0 : qa.den * qb.num.natAbs ≠ 0 := Nat.mul_ne_zero qa.den_nz hbn
 refine zL (zB (zC ?_))
 refine yI 16 _ [] [(0, .q), (1, .q), (2, .q), (3, .q), (4, .q), (5, .q), (6, .q), (7, .q), (10, .q), (12, .q), (13, .q), (8, .c), (9, .c), (11, .c), (14, .c), (15, .c), (16, .t), (17, .t)] xI (fun x hx => by cases hx) (by kernel_rfl) (fun x hx => by cases hx) (fun r hr => hr) (w_q rfl (fun h' L' hh hR => zI Tryz.underlying30 rfl Tryz.sizeOf4 rfl) rfl (w_q rfl (fun h' L' hh hR => zU (hR _ (.tail _ (.tail _ (.head _)))) Tryz.isAgg4 rfl rfl) rfl (w_q rfl (fun h' L' hh hR => zI Tryz.underlying30 rfl Tryz.sizeOf4 rfl) rfl (w_q rfl (fun h' L' hh hR => zU (hR _ (.tail _ (.head _))) Tryz.isAgg4 rfl rfl) rfl (w_q rfl (fun h' L' hh hR => gI Tryz.underlying4 rfl rfl) rfl (w_q rfl (fun h' L' hh hR => zI Tryz.underlying30 rfl Tryz.sizeOf28 rfl) rfl (w_q rfl (fun h' L' hh hR => zU (hR _ (.tail _ (.tail _ (.head _)))) Tryz.isAgg28 rfl rfl) rfl (w_q rfl (fun h' L' hh hR => yH (vs := [_, _, _]) (hR _ (.tail _ (.head _))) Tryz.underlying30 rfl zZ rfl rfl) rfl (w_q rfl (fun h' L' hh hR => yH (vs := [_, _, _]) (hR _ (.tail _ (.tail _ (.head _)))) Tryz.underlying30 rfl zZ rfl rfl) rfl (w_q rfl (fun h' L' hh hR => zI Tryz.underlying30 rfl Tryz.sizeOf28 rfl) rfl (w_q rfl (fun h' L' hh hR => zU (hR _ (.tail _ (.head _))) Tryz.isAgg28 rfl rfl) rfl ?_)))))))))))
 refine w_c rfl ?_
 refine yD (vs := [_]) Tryz.call91 ⟨rfl, trivial⟩ (fun w hs => fI hs rfl hnb hdb) rfl ?_
 intro v19 h1 hh1 hr19
 rw [uF] at hr19
 refine w_c rfl ?_
 replace hna := hna.mono hh1
 refine yD (vs := [_, _]) Tryz.call90 ⟨rfl, rfl, trivial⟩ (fun w hs => tI hs hna hr19 (by omega) (by omega)) rfl ?_
 intro v20 h2 hh2 hr20
 try simp only [zV] at hr20
 have hlm20 := xN ((qa.num.natAbs)) ((qb.den))
 refine w_c rfl ?_
 replace hna := hna.mono hh2
 replace hda := hda.mono (hh1.trans hh2)
 refine yD (vs := [_]) Tryz.call91 ⟨rfl, trivial⟩ (fun w hs => fI hs rfl hna hda) rfl ?_
 intro v22 h3 hh3 hr22
 rw [uF] at hr22
 refine w_c rfl ?_
 replace hnb := hnb.mono ((hh1.trans hh2).trans hh3)
 refine yD (vs := [_, _]) Tryz.call90 ⟨rfl, rfl, trivial⟩ (fun w hs => tI hs hr22 hnb (by omega) (by omega)) rfl ?_
 intro v25 h4 hh4 hr25
 try simp only [zV] at hr25
 have hlm25 := xN ((qa.den)) ((qb.num.natAbs))
 refine w_c rfl ?_
 replace hr20 := hr20.mono (hh3.trans hh4)
 refine yD (vs := [_, _, _]) Tryz.call89 ⟨rfl, rfl, rfl, trivial⟩ (fun w hs => fU hs hr20 hr25 (by omega) (by omega) (by first | (simp only [zV]; omega) | (simp only [zV]; first | exact Rat.den_nz _ | exact Nat.mul_ne_zero (Rat.den_nz _) (Rat.den_nz _) | exact Nat.one_ne_zero | assumption) | assumption)) rfl ?_
 intro v26 h5 hh5 hr26
 try simp only [zV] at hr26
 obtain ⟨vn26, vd26, rfl, hn26, hd26⟩ := hr26
 refine gQ (A := []) (q' := .var b4 30 [vB ((mkRat (sg (¬ ((qa.num < 0) ↔ (qb.num < 0))) (((((qa.num.natAbs)) * ((qb.den)))))) (((((qa.den)) * ((qb.num.natAbs)))))).num < 0), vn26, vd26]) rfl (yC (k := 0) (cs := [_, _, _]) (vs := [_, _, _]) rfl rfl rfl (ocr rfl (ocu hn26 (ocu hd26 oc0))) zZ (Nat.le_of_ble_eq_true rfl)) rfl (cT rfl (zY (v := vI (0)) rfl) rfl (xB (zJ (e' := [(4, _), (5, _)]) ⟨rfl, rfl, trivial⟩ (zB (zR (xX (fun E S => kZ rfl (wS (cs := [_, _, _]) (.head _) Tryz.underlying30 rfl zZ rfl) (tP rfl) E S) ?_))))))
 rw [if_neg hb0, if_neg hb0]
 rw [quo_eq _ hb0] at hn26 hd26 ⊢
 exact ⟨_, rfl, _, _, rfl, hn26, hd26⟩
theorem x7 {w0 : World} {h0 : Mem}  (hs : MLe h0 (mem w0)) {qa : Rat} {vna vda : Value} (hna : Us .u32 h0 vna (zF qa.num.natAbs)) (hda : Us .u32 h0 vda (zF (vK qa.den))) {qb : Rat} {vnb vdb : Value} (hnb : Us .u32 h0 vnb (zF qb.num.natAbs)) (hdb : Us .u32 h0 vdb (zF (vK qb.den))) (hqa : lq qa ≤ 100000000000) (hqb : lq qb ≤ 100000000000)  :
    Calls Tryz.prog 113 #[.agg #[vB (qa.num < 0), vna, vda], .agg #[vB (qb.num < 0), vnb, vdb]] w0 (Ret w0 h0 (fun _ r => r = vI (kF qa qb))) := by
 have hlna := vH qa
 have hlda := vL qa
 have hlDa := wZ qa
 have hlnb := vH qb
 have hldb := vL qb
 have hlDb := wZ qb
 have hcr : -1 ≤ gP (qa.num.natAbs * qb.den) (qb.num.natAbs * qa.den) ∧ gP (qa.num.natAbs * qb.den) (qb.num.natAbs * qa.den) ≤ 1 := f5 qa qb
 refine zP (n := 34) (e := [(0, .agg #[vB (qa.num < 0), vna, vda]), (1, .agg #[vB (qb.num < 0), vnb, vdb])]) (vs := [.agg #[vB (qa.num < 0), vna, vda], .agg #[vB (qb.num < 0), vnb, vdb]]) Tryz.func113 rfl rfl (Nat.le_of_ble_eq_true rfl) hs ⟨rfl, rfl, trivial⟩ (zC (zA (zK (wW (cs := [_, _, _]) rfl rfl) rfl rfl rfl ?_)))
 intro v2 r2 hr2
 obtain ⟨b2, rfl, rfl⟩ := hr2
 refine zK (wW (cs := [_, _, _]) rfl rfl) rfl rfl rfl ?_
 intro v3 r3 hr3
 obtain ⟨b3, rfl, rfl⟩ := hr3
 refine asg (v := vI (0)) rfl rfl (zD (zB (zC (zC ?_))))
 refine yI 6 _ [] [(0, .q), (2, .q), (1, .c), (3, .c), (4, .q), (5, .q)] xI (fun x hx => by cases hx) (by kernel_rfl) (fun x hx => by cases hx) (fun r hr => hr) (w_q rfl (fun h' L' hh hR => yH (vs := [_, _, _]) (hR _ (.tail _ (.head _))) Tryz.underlying30 rfl zZ rfl rfl) rfl (w_q rfl (fun h' L' hh hR => yH (vs := [_, _, _]) (hR _ (.head _)) Tryz.underlying30 rfl zZ rfl rfl) rfl ?_))
 refine w_c rfl ?_
 refine yD (vs := [_]) Tryz.call50 ⟨rfl, trivial⟩ (fun w hs => lQ hs hna hda (by omega)) rfl ?_
 intro v9 h1 hh1 hr9
 have hsr9 := vY qa
 subst hr9
 refine w_c rfl ?_
 replace hnb := hnb.mono hh1
 replace hdb := hdb.mono hh1
 refine yD (vs := [_]) Tryz.call50 ⟨rfl, trivial⟩ (fun w hs => lQ hs hnb hdb (by omega)) rfl ?_
 intro v11 h2 hh2 hr11
 have hsr11 := vY qb
 subst hr11
 refine w_q rfl (fun h' L' hh hR => zY rfl) rfl (w_q rfl (fun h' L' hh hR => zY rfl) rfl (xB (zB (zC (zA (mv rfl rfl (mv rfl rfl (gv (tK rfl rfl) rfl (zD (zB ?_))))))))))
 refine zO rfl (fun hc14 => ?_) (fun hc14 => ?_)
 ·
  refine wH (e' := [(5, _), (6, _)]) ⟨rfl, rfl, trivial⟩ (zC (zC (zA (mv rfl rfl (mv rfl rfl (gv (zW rfl rfl) rfl (zD (zB ?_))))))))
  refine zO rfl (fun hc17 => ?_) (fun hc17 => ?_)
  ·
   refine zC (zA (asg (v := vI (-1)) rfl rfl (zD (zB (zR (zX (zX (yJ rfl rfl ?_))))))))
   rw [lG hc14, if_pos hc17]
  refine zL (zB (zC (zA (asg (v := vI (1)) rfl rfl (zD (zB (zR (zX (yJ rfl rfl ?_)))))))))
  rw [lG hc14, if_neg hc17]
 have hss := y2 hc14
 refine wH (e' := [(2, _), (3, _)]) ⟨rfl, rfl, trivial⟩ (zL (zB (zC ?_)))
 refine yI 12 _ [] [(0, .q), (1, .q), (2, .q), (5, .q), (6, .q), (7, .q), (3, .c), (4, .c), (8, .c), (9, .c), (10, .c), (11, .q)] xI (fun x hx => by cases hx) (by kernel_rfl) (fun x hx => by cases hx) (fun r hr => hr) (w_q rfl (fun h' L' hh hR => zI Tryz.underlying30 rfl Tryz.sizeOf28 rfl) rfl (w_q rfl (fun h' L' hh hR => zU (hR _ (.tail _ (.head _))) Tryz.isAgg28 rfl rfl) rfl (w_q rfl (fun h' L' hh hR => yH (vs := [_, _, _]) (hR _ (.head _)) Tryz.underlying30 rfl zZ rfl rfl) rfl (w_q rfl (fun h' L' hh hR => zI Tryz.underlying30 rfl Tryz.sizeOf28 rfl) rfl (w_q rfl (fun h' L' hh hR => zU (hR _ (.head _)) Tryz.isAgg28 rfl rfl) rfl (w_q rfl (fun h' L' hh hR => yH (vs := [_, _, _]) (hR _ (.tail _ (.head _))) Tryz.underlying30 rfl zZ rfl rfl) rfl ?_))))))
 refine w_c rfl ?_
 replace hnb := hnb.mono hh2
 replace hdb := hdb.mono hh2
 refine yD (vs := [_]) Tryz.call91 ⟨rfl, trivial⟩ (fun w hs => fI hs rfl hnb hdb) rfl ?_
 intro v21 h3 hh3 hr21
 rw [uF] at hr21
 refine w_c rfl ?_
 replace hna := hna.mono ((hh1.trans hh2).trans hh3)
 refine yD (vs := [_, _]) Tryz.call90 ⟨rfl, rfl, trivial⟩ (fun w hs => tI hs hna hr21 (by omega) (by omega)) rfl ?_
 intro v22 h4 hh4 hr22
 try simp only [zV] at hr22
 have hlm22 := xN ((qa.num.natAbs)) ((qb.den))
 refine w_c rfl ?_
 replace hna := hna.mono hh4
 replace hda := hda.mono (((hh1.trans hh2).trans hh3).trans hh4)
 refine yD (vs := [_]) Tryz.call91 ⟨rfl, trivial⟩ (fun w hs => fI hs rfl hna hda) rfl ?_
 intro v26 h5 hh5 hr26
 rw [uF] at hr26
 refine w_c rfl ?_
 replace hnb := hnb.mono ((hh3.trans hh4).trans hh5)
 refine yD (vs := [_, _]) Tryz.call90 ⟨rfl, rfl, trivial⟩ (fun w hs => tI hs hnb hr26 (by omega) (by omega)) rfl ?_
 intro v27 h6 hh6 hr27
 try simp only [zV] at hr27
 have hlm27 := xN ((qb.num.natAbs)) ((qa.den))
 refine w_c rfl ?_
 replace hr22 := hr22.mono (hh5.trans hh6)
 refine yD (vs := [_, _]) Tryz.call93 ⟨rfl, rfl, trivial⟩ (fun w hs => rS hs hr22 hr27) rfl ?_
 intro v28 h7 hh7 hr28
 subst hr28
 refine w_q rfl (fun h' L' hh hR => zY rfl) rfl (xB (zJ (e' := [(2, _), (7, _)]) ⟨rfl, rfl, trivial⟩ (zB (zC (zC (zA (gv (zI Tryz.underlying30 rfl Tryz.sizeOf4 rfl) rfl (gv (zU (.tail _ (.head _)) Tryz.isAgg4 rfl rfl) rfl (zD (zB ?_))))))))))
 refine zO rfl (fun hc30 => ?_) (fun hc30 => ?_)
 ·
  refine zC (zA (mv rfl rfl (gv (aI rfl (by omega) (by omega)) rfl (asg rfl rfl (zD (zB (zR (zX (yJ rfl rfl ?_)))))))))
  rw [cmpQ_cN hss hc30]; rfl
 refine zL (zB (zC (zA (mv rfl rfl (asg rfl rfl (zD (zB (zR (yJ rfl rfl ?_)))))))))
 rw [g9 hss hc30]; rfl
theorem rref_min {w0 : World} {h0 : Mem}  (hs : MLe h0 (mem w0)) {qa : Rat} {vna vda : Value} (hna : Us .u32 h0 vna (zF qa.num.natAbs)) (hda : Us .u32 h0 vda (zF (vK qa.den))) {qb : Rat} {vnb vdb : Value} (hnb : Us .u32 h0 vnb (zF qb.num.natAbs)) (hdb : Us .u32 h0 vdb (zF (vK qb.den))) (hqa : lq qa ≤ 100000000000) (hqb : lq qb ≤ 100000000000)  :
    Calls Tryz.prog 74 #[.agg #[vB (qa.num < 0), vna, vda], .agg #[vB (qb.num < 0), vnb, vdb]] w0 (Ret w0 h0 (fun h r => vQ h r (kL qa qb))) := by
 have hlna := vH qa
 have hlda := vL qa
 have hlDa := wZ qa
 have hlnb := vH qb
 have hldb := vL qb
 have hlDb := wZ qb
 refine zP (n := 11) (e := [(0, .agg #[vB (qa.num < 0), vna, vda]), (1, .agg #[vB (qb.num < 0), vnb, vdb])]) (vs := [.agg #[vB (qa.num < 0), vna, vda], .agg #[vB (qb.num < 0), vnb, vdb]]) Tryz.func74 rfl rfl (Nat.le_of_ble_eq_true rfl) hs ⟨rfl, rfl, trivial⟩ (zC (zA (zK (wW (cs := [_, _, _]) rfl rfl) rfl rfl rfl ?_)))
 intro v2 r2 hr2
 obtain ⟨b2, rfl, rfl⟩ := hr2
 refine zK (wW (cs := [_, _, _]) rfl rfl) rfl rfl rfl ?_
 intro v3 r3 hr3
 obtain ⟨b3, rfl, rfl⟩ := hr3
 refine zK (vN (cs := [vB ((0 : Rat).num < 0), .slice none 0 0, .slice none 0 0]) wP rfl (by simp only [zb]; rfl)) rfl rfl rfl ?_
 intro v4 r4 hr4
 obtain ⟨b4, rfl, rfl⟩ := hr4
 refine zD (zB (zC (zC (zA (gv (yH (vs := [_, _, _]) (.tail _ (.head _)) Tryz.underlying30 rfl zZ rfl rfl) rfl (gv (yH (vs := [_, _, _]) (.tail _ (.tail _ (.head _))) Tryz.underlying30 rfl zZ rfl rfl) rfl ?_))))))
 refine zM (vs := [_, _]) rfl rfl rfl rfl Tryz.call113 ⟨rfl, rfl, trivial⟩ (fun w hs => x7 hs hnb hdb hna hda (by omega) (by omega)) ?_
 intro v7 h1 hh1 hr7
 have hcr7 := tG qb qa
 subst hr7
 refine gv (zW (q := 0) rfl rfl) rfl (zD (zB ?_))
 refine zO rfl (fun hc8 => ?_) (fun hc8 => ?_)
 ·
  refine zC (zA (gv (yH (vs := [_, _, _]) (.tail _ (.head _)) Tryz.underlying30 rfl zZ rfl rfl) rfl ?_))
  replace hnb := hnb.mono hh1
  replace hdb := hdb.mono hh1
  refine wT (A := []) (r' := .var b4 30 [vB (qb.num < 0), vnb, vdb]) (yC (k := 0) (cs := [_, _, _]) (vs := [_, _, _]) rfl rfl rfl (ocr rfl (ocu hnb (ocu hdb oc0))) zZ (Nat.le_of_ble_eq_true rfl)) rfl rfl rfl (zD (zB (zR (zX (xX (fun E S => yP rfl (wS (cs := [_, _, _]) (.head _) Tryz.underlying30 rfl zZ rfl) E S) ?_)))))
  rw [minQ_t hc8]
  exact ⟨_, _, rfl, hnb, hdb⟩
 refine zL (zB (zC (zA (gv (yH (vs := [_, _, _]) (.tail _ (.tail _ (.head _))) Tryz.underlying30 rfl zZ rfl rfl) rfl ?_))))
 replace hna := hna.mono hh1
 replace hda := hda.mono hh1
 refine wT (A := []) (r' := .var b4 30 [vB (qa.num < 0), vna, vda]) (yC (k := 0) (cs := [_, _, _]) (vs := [_, _, _]) rfl rfl rfl (ocr rfl (ocu hna (ocu hda oc0))) zZ (Nat.le_of_ble_eq_true rfl)) rfl rfl rfl (zD (zB (zR (xX (fun E S => yP rfl (wS (cs := [_, _, _]) (.head _) Tryz.underlying30 rfl zZ rfl) E S) ?_))))
 rw [minQ_f hc8]
 exact ⟨_, _, rfl, hna, hda⟩
theorem rref_max {w0 : World} {h0 : Mem}  (hs : MLe h0 (mem w0)) {qa : Rat} {vna vda : Value} (hna : Us .u32 h0 vna (zF qa.num.natAbs)) (hda : Us .u32 h0 vda (zF (vK qa.den))) {qb : Rat} {vnb vdb : Value} (hnb : Us .u32 h0 vnb (zF qb.num.natAbs)) (hdb : Us .u32 h0 vdb (zF (vK qb.den))) (hqa : lq qa ≤ 100000000000) (hqb : lq qb ≤ 100000000000)  :
    Calls Tryz.prog 75 #[.agg #[vB (qa.num < 0), vna, vda], .agg #[vB (qb.num < 0), vnb, vdb]] w0 (Ret w0 h0 (fun h r => vQ h r (kI qa qb))) := by
 have hlna := vH qa
 have hlda := vL qa
 have hlDa := wZ qa
 have hlnb := vH qb
 have hldb := vL qb
 have hlDb := wZ qb
 refine zP (n := 11) (e := [(0, .agg #[vB (qa.num < 0), vna, vda]), (1, .agg #[vB (qb.num < 0), vnb, vdb])]) (vs := [.agg #[vB (qa.num < 0), vna, vda], .agg #[vB (qb.num < 0), vnb, vdb]]) Tryz.func75 rfl rfl (Nat.le_of_ble_eq_true rfl) hs ⟨rfl, rfl, trivial⟩ (zC (zA (zK (wW (cs := [_, _, _]) rfl rfl) rfl rfl rfl ?_)))
 intro v2 r2 hr2
 obtain ⟨b2, rfl, rfl⟩ := hr2
 refine zK (wW (cs := [_, _, _]) rfl rfl) rfl rfl rfl ?_
 intro v3 r3 hr3
 obtain ⟨b3, rfl, rfl⟩ := hr3
 refine zK (vN (cs := [vB ((0 : Rat).num < 0), .slice none 0 0, .slice none 0 0]) wP rfl (by simp only [zb]; rfl)) rfl rfl rfl ?_
 intro v4 r4 hr4
 obtain ⟨b4, rfl, rfl⟩ := hr4
 refine zD (zB (zC (zC (zA (gv (yH (vs := [_, _, _]) (.tail _ (.head _)) Tryz.underlying30 rfl zZ rfl rfl) rfl (gv (yH (vs := [_, _, _]) (.tail _ (.tail _ (.head _))) Tryz.underlying30 rfl zZ rfl rfl) rfl ?_))))))
 refine zM (vs := [_, _]) rfl rfl rfl rfl Tryz.call113 ⟨rfl, rfl, trivial⟩ (fun w hs => x7 hs hnb hdb hna hda (by omega) (by omega)) ?_
 intro v7 h1 hh1 hr7
 have hcr7 := tG qb qa
 subst hr7
 refine gv (uS (q := 0) rfl rfl) rfl (zD (zB ?_))
 refine zO rfl (fun hc8 => ?_) (fun hc8 => ?_)
 ·
  refine zC (zA (gv (yH (vs := [_, _, _]) (.tail _ (.head _)) Tryz.underlying30 rfl zZ rfl rfl) rfl ?_))
  replace hnb := hnb.mono hh1
  replace hdb := hdb.mono hh1
  refine wT (A := []) (r' := .var b4 30 [vB (qb.num < 0), vnb, vdb]) (yC (k := 0) (cs := [_, _, _]) (vs := [_, _, _]) rfl rfl rfl (ocr rfl (ocu hnb (ocu hdb oc0))) zZ (Nat.le_of_ble_eq_true rfl)) rfl rfl rfl (zD (zB (zR (zX (xX (fun E S => yP rfl (wS (cs := [_, _, _]) (.head _) Tryz.underlying30 rfl zZ rfl) E S) ?_)))))
  rw [maxQ_t hc8]
  exact ⟨_, _, rfl, hnb, hdb⟩
 refine zL (zB (zC (zA (gv (yH (vs := [_, _, _]) (.tail _ (.tail _ (.head _))) Tryz.underlying30 rfl zZ rfl rfl) rfl ?_))))
 replace hna := hna.mono hh1
 replace hda := hda.mono hh1
 refine wT (A := []) (r' := .var b4 30 [vB (qa.num < 0), vna, vda]) (yC (k := 0) (cs := [_, _, _]) (vs := [_, _, _]) rfl rfl rfl (ocr rfl (ocu hna (ocu hda oc0))) zZ (Nat.le_of_ble_eq_true rfl)) rfl rfl rfl (zD (zB (zR (xX (fun E S => yP rfl (wS (cs := [_, _, _]) (.head _) Tryz.underlying30 rfl zZ rfl) E S) ?_))))
 rw [maxQ_f hc8]
 exact ⟨_, _, rfl, hna, hda⟩
end Go.Proofs.YtghhjjmjpeehdaaGreat
namespace Bk
set_option linter.unusedVariables false
set_option linter.unusedSimpArgs false
open Go Go.RowKit
theorem int_of_wf {x : Int} (h : (Lit.int .i64 x).wf = true) : -9223372036854775808 ≤ x ∧ x < 9223372036854775808 := by
  simp only [Lit.wf, Bool.and_eq_true, decide_eq_true_eq] at h
  simp [IntKind.min, IntKind.max, IntKind.signed, IntKind.bits] at h
  omega
end Bk
namespace Bk
set_option linter.unusedVariables false
set_option linter.unusedSimpArgs false
open Go Go.RowKit
def ByB (bs : List Nat) : Prop := ∀ x ∈ bs, x < 256
section
variable {P : Program} {n : Nat} {w0 : World} {h0 : Mem} {e : List (Nat × Value)} {L : List Res} {h : Mem}
variable {ds : Option Tmp} {ty : TypeId} {ps : String} {af : Array Edge} {gd : Option (Nat × Bool)}
end
end Bk
namespace Bk
set_option linter.unusedVariables false
set_option linter.unusedSimpArgs false
open Go Go.RowKit
open Classical
noncomputable def txtQ (q : Rat) : List Nat := (if q.num < 0 then [45] else []) ++ txt q.num.natAbs ++ (if vK q.den = 0 then [] else [47] ++ txt (vK q.den))
def tQ : List Nat → Nat
  | [] => 0
  | b :: bs => if 48 ≤ b ∧ b ≤ 57 then tQ bs + 1 else 0
noncomputable def exU (s : List Nat) : List Nat := if s.drop 1 ≠ [] ∧ ((s.drop 1).getD 0 0 = 43 ∨ (s.drop 1).getD 0 0 = 45) then (s.drop 1).drop 1 else s.drop 1
def exDown (s : List Nat) : Prop := s.drop 1 ≠ [] ∧ (s.drop 1).getD 0 0 = 45
def exOk (s : List Nat) : Prop := (s.getD 0 0 = 101 ∨ s.getD 0 0 = 69) ∧ exU s ≠ [] ∧ (exU s).length ≤ 3 ∧ tQ (exU s) = (exU s).length
noncomputable def exN (s : List Nat) : Nat := if exOk s then hor (exU s) else 0
noncomputable def fin4 (s : Prop) (n d : Nat) : Int × Rat := if (2048 : Int) < bitsQ (mkRat (sg s n) d) then (2, 0) else (0, mkRat (sg s n) d)
noncomputable def fin3 (s : Prop) (n d : Nat) (r : List Nat) : Int × Rat :=
  if r = [] then fin4 s n d else if exOk r then (if exDown r then fin4 s n (d * 10 ^ exN r) else fin4 s (n * 10 ^ exN r) d) else (4, 0)
def slash (r : List Nat) : Prop := r ≠ [] ∧ r.getD 0 0 = 47
def dot (r : List Nat) : Prop := r ≠ [] ∧ r.getD 0 0 = 46
noncomputable def fin2 (s : Prop) (bs : List Nat) : Int × Rat :=
  if tQ bs = 0 then (4, 0) else
  if slash (bs.drop (tQ bs)) then
    (if (bs.drop (tQ bs)).drop 1 = [] ∨ tQ ((bs.drop (tQ bs)).drop 1) ≠ ((bs.drop (tQ bs)).drop 1).length then (4, 0) else if hor ((bs.drop (tQ bs)).drop 1) = 0 then (3, 0) else fin3 s (hor (bs.take (tQ bs))) (hor ((bs.drop (tQ bs)).drop 1)) [])
  else if dot (bs.drop (tQ bs)) then
    (if tQ ((bs.drop (tQ bs)).drop 1) = 0 then (4, 0) else fin3 s (hor (bs.take (tQ bs) ++ ((bs.drop (tQ bs)).drop 1).take (tQ ((bs.drop (tQ bs)).drop 1)))) (10 ^ tQ ((bs.drop (tQ bs)).drop 1)) ((bs.drop (tQ bs)).drop (tQ ((bs.drop (tQ bs)).drop 1) + 1)))
  else fin3 s (hor (bs.take (tQ bs))) 1 (bs.drop (tQ bs))
def parNeg (bs : List Nat) : Prop := (0 : Int) < ↑bs.length ∧ bs.getD 0 0 = 45
noncomputable def parBody (bs : List Nat) : List Nat := if parNeg bs then bs.drop 1 else bs
noncomputable def parQ (bs : List Nat) : Int × Rat := if 4096 < bs.length then (2, 0) else fin2 (parNeg bs) (parBody bs)
end Bk
namespace Go.Proofs.YtghhjjmjpeehdaaGreat
open Bk Go
set_option linter.unusedVariables false
set_option linter.unusedSimpArgs false
set_option maxRecDepth 10000
end Go.Proofs.YtghhjjmjpeehdaaGreat
namespace Bk
set_option linter.unusedVariables false
set_option linter.unusedSimpArgs false
open Go Go.RowKit
open Classical
def RatsC (h : Mem) : List Value → List Rat → Prop
  | cs, [] => cs = []
  | cs, q :: qs => ∃ vn vd rest, cs = vB (q.num < 0) :: vn :: vd :: rest ∧ Us .u32 h vn (zF q.num.natAbs) ∧ Us .u32 h vd (zF (vK q.den)) ∧ RatsC h rest qs
def IsRats (h : Mem) (v : Value) (qs : List Rat) : Prop := ∃ cs, v = .agg cs.toArray ∧ RatsC h cs qs
section
variable {P : Program} {n : Nat} {w0 : World} {h0 : Mem} {e : List (Nat × Value)} {L : List Res} {h : Mem} {Q : Exit → Act → World → Prop}
variable {ds : Option Tmp} {ty : TypeId} {ps : String} {af : Array Edge} {gd : Option (Nat × Bool)}
def f9 (P : Program) (c : Code) (Q : Exit → Act → World → Prop) (a : Act) (w : World) : Prop :=
  ∀ (b : Frame) (k : List Item) (cs : List Frame), ∃ x a' w', Q x a' w' ∧ Arrives P (lone (b.at a (.code c :: .inLoop c :: k)) cs w) b k cs x a' w'
theorem j7 {c : Code} {a : Act} {w : World} (hw : c.wp P (Exit.then (f9 P c Q) Q) a w) : f9 P c Q a w := by
  intro b k cs
  obtain ⟨x, a1, w1, hq, harr⟩ := hw b (.inLoop c :: k) cs
  cases x with
  | normal =>
    obtain ⟨x2, a2, w2, hq2, harr2⟩ := hq b k cs
    exact ⟨x2, a2, w2, hq2, .of_steps (Steps.trans harr (.one step_inLoop)) harr2⟩
  | exit id => exact ⟨_, a1, w1, hq, .pass (x := .inLoop c) rfl (fun _ _ => .inl (by simp)) harr⟩
  | goto l => exact ⟨_, a1, w1, hq, .pass (x := .inLoop c) rfl (fun _ _ => .inl (by simp)) harr⟩
  | ret => exact ⟨_, a1, w1, hq, .pass (x := .inLoop c) rfl (fun _ _ => .inl (by simp)) harr⟩
  | panic ch => exact ⟨_, a1, w1, hq, .pass (x := .inLoop c) rfl (fun _ _ => .inl (by simp)) harr⟩
  | outgrown => exact ⟨_, a1, w1, hq, .pass (x := .inLoop c) rfl (fun _ _ => .inl (by simp)) harr⟩
theorem jS {c : Code} (k : GC P n w0 h0 c (Exit.then (f9 P c Q) Q) e L h) : GC P n w0 h0 (.loop c) Q e L h := by
  intro a w E S b k' cs
  obtain ⟨x, a', w', hq, harr⟩ := j7 (k a w E S) b k' cs
  exact ⟨x, a', w', hq, .of_steps (.one step_loop) harr⟩
theorem xU {c : Code} (k : GC P n w0 h0 c (Exit.then (f9 P c Q) Q) e L h) : GQ n w0 h0 (Exit.then (f9 P c Q) Q) .normal e L h :=
  fun a w E S => j7 (k a w E S)
theorem OpV.cv {o : Oper} {v v' : Value} (hv : OpV P n w0 h0 o e L h v) (e' : v = v') : OpV P n w0 h0 o e L h v' := e' ▸ hv
end
end Bk
namespace Bk
set_option linter.unusedVariables false
set_option linter.unusedSimpArgs false
open Go Go.RowKit
section
variable {P : Program} {n : Nat} {w0 : World} {h0 : Mem} {e : List (Nat × Value)} {L : List Res} {h : Mem}
variable {ds : Option Tmp} {ty : TypeId} {ps : String} {af : Array Edge} {gd : Option (Nat × Bool)}
theorem fW {x : Operand} {b k : Nat} (hx : yK e x = some (vP b k)) : OpV P n w0 h0 ⟨ds, .nilCheck x, ty, ps, af, gd⟩ e L h (vP b k) := by
  intro a w Ev S
  simp [execOp, Ev.eval hx]
theorem zH {t E : TypeId} {x y : Operand} {b k m sz : Nat} {q : Int} (i : Nat) (ht : P.underlying t = some (.array m E)) (hsz : ∀ w, (Go.sizeOf E).run P w = .ok sz w) (hx : yK e x = some (vP b k)) (hy : yK e y = some (vI q)) (hq : q = (i : Int)) (hi : i < m) :
    OpV P n w0 h0 ⟨ds, .indexAddr t x y, ty, ps, af, gd⟩ e L h (vP b (k + i * sz)) := by
  subst hq
  intro a w Ev S
  simp [execOp, Ev.eval hx, Ev.eval hy, Instr.indexAt, vI, asIntOf, run_underlying ht, hsz, Instr.sureAddr, hi, jZ]
theorem dG {t E : TypeId} {m sz : Nat} {i : TypeInfo} {z : Value} {parts : List (Nat × Operand)} {ps' : List (Nat × Value)} {vs : List Value} (ht : P.underlying t = some (.array m E)) (hi : P.info? t = some i) (hz : i.zero = some z)
    (hsz : ∀ w, (Go.sizeOf E).run P w = .ok sz w) (hp : pI e parts ps') (hf : Instr.fill (fun i => some (i * sz, sz)) z.cells ps' = some vs.toArray) :
    OpV P n w0 h0 ⟨ds, .build t parts.toArray, ty, ps, af, gd⟩ e L h (.agg vs.toArray) := by
  intro a w Ev S
  have hpa : (parts.toArray.map fun (p : Nat × Operand) => (p.1, a.eval p.2)).toList = ps' := by
    rw [List.map_toArray]
    exact hp.eval Ev
  have hz' : (zeroValue t).run P w = .ok z w := by simp [zeroValue, typeInfo, hi, hz]
  simp only [execOp, Instr.build]
  rw [show (parts.toArray.map fun (i, x) => (i, a.eval x)).toList = ps' from hpa]
  simp only [Sem.run_bind, hz', Result.andThen_ok, run_underlying ht, hsz, hf]
  rfl
end
end Bk
namespace Bk
set_option linter.unusedVariables false
set_option linter.unusedSimpArgs false
open Go Go.RowKit
open Classical
structure Is (h : Mem) (v : Value) (xs : List Int) : Prop where
  sl : Sl h 1 v xs.length (xs.map vI)
  rng : ∀ x ∈ xs, -9223372036854775808 ≤ x ∧ x < 9223372036854775808
theorem Is.mono {h h' : Mem} {v : Value} {xs : List Int} (s : Is h v xs) (hh : MLe h h') : Is h' v xs := ⟨s.sl.mono hh, s.rng⟩
theorem Is.nil (h : Mem) : Is h (.slice none 0 0) [] := ⟨Sl.nil h 1, by simp⟩
theorem Is.one {h : Mem} {v : Value} {xs : List Int} (s : Is h v xs) : ∃ a cap, v = .slice a xs.length cap := s.sl.one
theorem Is.lt63 {h : Mem} {v : Value} {xs : List Int} (s : Is h v xs) : xs.length < 9223372036854775808 := s.sl.lt63
theorem Is.cells {h : Mem} {v : Value} {xs : List Int} (s : Is h v xs) : v.cells = [v].toArray := by
  obtain ⟨a, cap, rfl⟩ := s.one
  rfl
theorem is_of_row {w : World} {a : Option Addr} {len cap : Nat} {zs : List Int}
    (h : (a = none ∧ len = 0 ∧ cap = 0 ∧ zs = []) ∨ ∃ x, a = some x ∧ len ≤ cap ∧ cap ≤ maxLen ∧ zs.length = cap ∧ (∀ i, i < zs.length → w.cell? (x.add i) = some (.int .i64 (zs.getD i 0))) ∧ ∀ n ∈ zs, (Lit.int .i64 n).wf = true) :
    ∃ xs : List Int, Is (mem w) (.slice a len cap) xs := by
  rcases h with ⟨rfl, rfl, rfl, rfl⟩ | ⟨x, rfl, h1, h2, h3, h4, h5⟩
  · exact ⟨[], Is.nil _⟩
  · refine ⟨zs.take len, ⟨?_, ?_⟩⟩
    · have hl : (zs.take len).length = len := by simp; omega
      rw [hl]
      refine ⟨_, cap, rfl, h1, h2, by simp; omega, fun i hi => ?_⟩
      have hi' : i < len := by simp at hi; omega
      have hc := h4 i (by omega)
      have hspot : (x.add 0).spot = none := World.cell?_spot (h4 0 (by omega))
      obtain ⟨b, o, sp⟩ := x
      simp [Addr.add] at hspot
      subst hspot
      refine ⟨b, o, rfl, ?_⟩
      rw [jZ] at hc
      rw [iA hc, List.getElem?_map, List.getElem?_take, if_pos hi', List.getElem?_eq_getElem (by omega)]
      rw [List.getD_eq_getElem?_getD, List.getElem?_eq_getElem (by omega)]
      rfl
    · intro n hn
      exact int_of_wf (h5 n (List.mem_of_mem_take hn))
section
variable {P : Program} {n : Nat} {w0 : World} {h0 : Mem} {e : List (Nat × Value)} {L : List Res} {h : Mem} {Q : Exit → Act → World → Prop}
variable {ds : Option Tmp} {ty : TypeId} {ps : String} {af : Array Edge} {gd : Option (Nat × Bool)}
theorem iL {v : Value} {xs : List Int} {t E : TypeId} {x : Operand} (ht : P.underlying t = some (.slice E)) (hx : yK e x = some v) (hv : Is h v xs) :
    OpV P n w0 h0 ⟨ds, .call { callee := .builtin .len, args := #[x], argTypes := #[t] }, ty, ps, af, gd⟩ e L h (vI (xs.length : Int)) := rH ht hx hv.one
theorem w8 {v : Value} {xs : List Int} {t E : TypeId} {x y : Operand} {q : Int} (i : Nat) (ht : P.underlying t = some (.slice E)) (hsz : ∀ w, (Go.sizeOf E).run P w = .ok 1 w) (hx : yK e x = some v) (hy : yK e y = some (vI q))
    (hv : Is h v xs) (hq : q = (i : Int)) (hi : i < xs.length) : OpV P n w0 h0 ⟨ds, .indexAddr t x y, ty, ps, af, gd⟩ e L h (xD 1 v i) := cE i ht hsz hx hy hv.sl hq hi (by omega)
theorem s8 {v : Value} {xs : List Int} {t : TypeId} {x : Operand} {i : Nat} (ha : ∀ w, (isAgg t).run P w = .ok false w) (hx : yK e x = some (xD 1 v i)) (hv : Is h v xs) (hi : i < xs.length) :
    OpV P n w0 h0 ⟨ds, .load t x, ty, ps, af, gd⟩ e L h (vI (xs.getD i 0)) :=
  mV ha hx hv.sl (by rw [List.getElem?_map, List.getElem?_eq_getElem hi, List.getD_eq_getElem?_getD, List.getElem?_eq_getElem hi]; rfl)
theorem ov_remt_i {t yt : TypeId} {x y : Operand} {p q : Int} (hx : yK e x = some (vI p)) (hy : yK e y = some (vI q)) (h3 : 0 < q) :
    OpV P n w0 h0 ⟨ds, .binOp .rem t x y yt, ty, ps, af, gd⟩ e L h (vI (p.tmod q)) := by
  intro a w E S
  have h7 : q ≠ 0 := by omega
  simp [execOp, E.eval hx, E.eval hy, vI, wO, binOp, Op.intDiv, h7]
end
def bS (w0 : World) (h0 : Mem) (h : Mem) (L : List Res) (G : Mem → Value → Res → Prop) : Ending → World → Prop :=
  rD w0 h0 (fun g v K => ∃ q', (q' :: L).Sublist K ∧ MLe h g ∧ G g v q')
section
variable {P : Program} {n : Nat} {w0 : World} {h0 : Mem} {e : List (Nat × Value)} {L : List Res} {h : Mem} {Q : Exit → Act → World → Prop}
variable {ty : TypeId} {ps : String} {af : Array Edge}
theorem xW {ops : Array Oper} {rest : List Oper} {d f : Nat} {xs : List Operand} {ts : Array TypeId} {vs : List Value} {A B : List Res} {q : Res} {G : Mem → Value → Res → Prop} (hcall : ∀ args w, (callFunc f args).run P w = .ok (.enter f args) w) (hvs : pM e xs vs)
    (hc : ∀ X w, St w0 h0 (q :: X) h w → Calls P f vs.toArray w (bS w0 h0 h X G)) (hn : Nat.ble (d + 1) n = true) (k : ∀ v g q', MLe h g → G g v q' → GL P n w0 h0 ops Q rest ((d, v) :: e) (A ++ q' :: B) g) :
    GL P n w0 h0 ops Q (⟨some d, .call { callee := .value (.func f), args := xs.toArray, argTypes := ts }, ty, ps, af, none⟩ :: rest) e (A ++ q :: B) h := by
  refine k9 ?_
  refine cK rfl rfl rfl hn hcall hvs (hc (A ++ B)) ?_
  rintro v g K ⟨q', hK, hle, hG⟩
  have := k v g q' hle hG
  exact fun a w Ev S => this a w Ev ((S.sublist hK).perm List.perm_middle.symm)
section
variable {ops : Array Oper} {R : List Res} {d : Nat}
theorem mN {W' : List (Nat × Value) → List Res → Mem → Prop} {f : Nat} {xs : List Operand} {ts : Array TypeId} {vs : List Value} {A B : List Res} {q : Res} {G : Mem → Value → Res → Prop} (hcall : ∀ args w, (callFunc f args).run P w = .ok (.enter f args) w) (hvs : pM e xs vs)
    (hc : ∀ X w, St w0 h0 (q :: X) h w → Calls P f vs.toArray w (bS w0 h0 h X G)) (hn : Nat.ble (d + 1) n = true) (hR : ∀ r ∈ R, ∀ q', r ∈ A ++ q :: B → r ∈ A ++ q' :: B)
    (k : ∀ v g q', MLe h g → G g v q' → W' ((d, v) :: e) (A ++ q' :: B) g) :
    jV P n w0 h0 ops R ⟨some d, .call { callee := .value (.func f), args := xs.toArray, argTypes := ts }, ty, ps, af, none⟩ e (A ++ q :: B) h W' := by
  intro X a w E S
  have S1 : St w0 h0 (q :: (A ++ B ++ X)) h w := S.perm (by simp)
  unfold uX
  rw [if_pos (wn rfl)]
  have hargs : xs.toArray.map a.eval = vs.toArray := by rw [List.map_toArray, E.evals hvs]
  have hr : (execOp a.eval ⟨some d, .call { callee := .value (.func f), args := xs.toArray, argTypes := ts }, ty, ps, af, none⟩).run P w = .ok (.enter f vs.toArray) w := by
    simp only [execOp, resolve, Act.eval]
    simp [Deferred.ofValue, invoke, hcall, hargs]
  rw [hr]
  refine (hc _ w S1).mono ?_
  rintro e' w' ⟨v, g, K, rfl, ⟨q', hK, hle, hG⟩, S'⟩
  have S2 : St w0 h0 (A ++ q' :: B ++ X) g w' := (S'.sublist hK).perm (by simpa using List.perm_middle.symm)
  exact ⟨v, rfl, fun d' hd => (by cases hd; exact Nat.le_of_ble_eq_true hn), A ++ q' :: B, g, hle, fun hh r hr => hR r hr q' (hh r hr), S2, k v g q' hle hG⟩
theorem j5 {A B : List Res} {q : Res} : ∀ r ∈ A ++ B, r ∈ A ++ q :: B := by
  intro r hr
  simp only [List.mem_append, List.mem_cons] at hr ⊢
  rcases hr with h | h
  · exact .inl h
  · exact .inr (.inr h)
theorem oY {Q : Exit → Act → World → Prop} {id : Nat} {l : List Oper} {A B : List Res} {q : Res} (m : Nat) (al : Als) (ord : List (Nat × Kd)) (hm : P.follows .mixedOrders = true) (hal : jG P n al)
    (hchk : (Region.noSelect l.toArray && sY l.toArray al && (al.all fun x => decide (x.1 < m)) && chk l.toArray m ord (Array.replicate l.length false) (al.map (·.1))) = true) (hae : ∀ x ∈ al, al.lookup x.1 = some x.2 ∧ e.lookup x.2.1 = none)
    (k : W P n w0 h0 l.toArray Q (A ++ B) al ord e (A ++ q :: B) h) : GC P n w0 h0 (.region id l.toArray true) Q e (A ++ q :: B) h := yI m (A ++ B) al ord hm hal hchk hae j5 k
theorem xF {R A B : List Res} {q : Res} (hR : ∀ r ∈ R, r ∈ A ++ B) : ∀ r ∈ R, ∀ q', r ∈ A ++ q :: B → r ∈ A ++ q' :: B := fun r hr q' _ => j5 r (hR r hr)
end
end
def eV (p q : Int) : Int := if p.tmod q < 0 then p.tmod q + q else p.tmod q
theorem mJ (p : Int) {q : Int} (hq : 0 < q) : -q < p.tmod q ∧ p.tmod q < q := by
  have h1 := Int.tmod_lt_of_pos p hq
  have h2 := Int.tmod_lt_of_pos (-p) hq
  rw [Int.neg_tmod] at h2
  omega
theorem modZ_range (p : Int) {q : Int} (hq : 0 < q) : 0 ≤ eV p q ∧ eV p q < q := by
  have := mJ p hq
  unfold eV
  split <;> omega
def partN (n : Int) : Int := 1 + eV (n.tdiv 17) 12
noncomputable def partQ (n : Int) : Rat := wU (eV n (partN n + 1)) (partN n)
end Bk
namespace Bk
set_option linter.unusedVariables false
set_option linter.unusedSimpArgs false
open Go Go.RowKit
open Classical
theorem cells_one {v : Value} (h : v.oneCell' = true) : v.cells = #[v] := by cases v <;> simp [Value.oneCell'] at h <;> rfl
structure Rp (α : Type) where
  n : Nat
  agg : Bool
  R : Mem → List Value → α → Prop
  len : ∀ {h cs x}, R h cs x → cs.length = n
  mono : ∀ {h h' cs x}, MLe h h' → R h cs x → R h' cs x
  one : ∀ {h cs x}, R h cs x → cs.all (·.oneCell') = true
  cell : agg = false → n = 1
section
variable {α β γ δ : Type}
def Rp.val (ρ : Rp α) (cs : List Value) : Value := if ρ.agg then .agg cs.toArray else cs.headD undef
def Rp.Is (ρ : Rp α) (h : Mem) (v : Value) (x : α) : Prop := ∃ cs, ρ.R h cs x ∧ v = ρ.val cs
theorem Rp.Is.mono {ρ : Rp α} {h h' : Mem} {v : Value} {x : α} (s : ρ.Is h v x) (hh : MLe h h') : ρ.Is h' v x := by
  obtain ⟨cs, r, e⟩ := s
  exact ⟨cs, ρ.mono hh r, e⟩
theorem Rp.single {ρ : Rp α} {h : Mem} {cs : List Value} {x : α} (r : ρ.R h cs x) (ha : ρ.agg = false) : ∃ c, cs = [c] ∧ c.oneCell' = true := by
  have h1 := ρ.len r
  have h2 := ρ.one r
  rw [ρ.cell ha] at h1
  match cs, h1 with
  | [c], _ => exact ⟨c, rfl, by simpa using h2⟩
theorem Rp.cells_val {ρ : Rp α} {h : Mem} {cs : List Value} {x : α} (r : ρ.R h cs x) : (ρ.val cs).cells = cs.toArray := by
  unfold Rp.val
  split
  · rfl
  · rename_i ha
    obtain ⟨c, rfl, hc⟩ := Rp.single r (by simpa using ha)
    exact cells_one hc
theorem Rp.Is.cells {ρ : Rp α} {h : Mem} {v : Value} {x : α} (s : ρ.Is h v x) : ∃ cs, ρ.R h cs x ∧ v.cells = cs.toArray := by
  obtain ⟨cs, r, rfl⟩ := s
  exact ⟨cs, r, Rp.cells_val r⟩
theorem Rp.Is.cast {ρ : Rp α} {h : Mem} {v : Value} {x y : α} (s : ρ.Is h v x) (e : x = y) : ρ.Is h v y := e ▸ s
def RL (ρ : Rp α) (h : Mem) : List Value → List α → Prop
  | cs, [] => cs = []
  | cs, x :: xs => ∃ a b, cs = a ++ b ∧ ρ.R h a x ∧ RL ρ h b xs
theorem RL.len {ρ : Rp α} {h : Mem} : ∀ {xs : List α} {cs : List Value}, RL ρ h cs xs → cs.length = xs.length * ρ.n
  | [], _, r => by rw [r]; simp
  | x :: xs, _, ⟨a, b, e, r, s⟩ => by rw [e, List.length_append, ρ.len r, s.len, List.length_cons, Nat.add_mul]; omega
theorem RL.mono {ρ : Rp α} {h h' : Mem} (hh : MLe h h') : ∀ {xs : List α} {cs : List Value}, RL ρ h cs xs → RL ρ h' cs xs
  | [], _, r => r
  | _ :: _, _, ⟨a, b, e, r, s⟩ => ⟨a, b, e, ρ.mono hh r, s.mono hh⟩
theorem RL.one {ρ : Rp α} {h : Mem} : ∀ {xs : List α} {cs : List Value}, RL ρ h cs xs → cs.all (·.oneCell') = true
  | [], _, r => by rw [r]; rfl
  | _ :: _, _, ⟨a, b, e, r, s⟩ => by rw [e, List.all_append, ρ.one r, s.one]; rfl
theorem RL.append {ρ : Rp α} {h : Mem} : ∀ {xs ys : List α} {cs ds : List Value}, RL ρ h cs xs → RL ρ h ds ys → RL ρ h (cs ++ ds) (xs ++ ys)
  | [], _, _, _, r, s => by rw [r]; exact s
  | _ :: _, _, _, _, ⟨a, b, e, r, s⟩, t => ⟨a, _, by rw [e, List.append_assoc], r, s.append t⟩
theorem RL.nil {ρ : Rp α} {h : Mem} : RL ρ h [] [] := rfl
theorem RL.drop {ρ : Rp α} {h : Mem} : ∀ {xs : List α} {cs : List Value} (i : Nat), RL ρ h cs xs → RL ρ h (cs.drop (i * ρ.n)) (xs.drop i)
  | _, _, 0, r => by simpa using r
  | [], _, i + 1, r => by rw [r]; simp [RL]
  | _ :: xs, _, i + 1, ⟨a, b, e, r, s⟩ => by
    rw [e, show (i + 1) * ρ.n = a.length + i * ρ.n by rw [ρ.len r, Nat.add_mul]; omega, ← List.drop_drop, List.drop_left]
    exact s.drop i
theorem RL.take {ρ : Rp α} {h : Mem} : ∀ {xs : List α} {cs : List Value} (i : Nat), RL ρ h cs xs → RL ρ h (cs.take (i * ρ.n)) (xs.take i)
  | _, _, 0, r => by simp [RL]
  | [], _, i + 1, r => by rw [r]; simp [RL]
  | _ :: xs, _, i + 1, ⟨a, b, e, r, s⟩ => by
    rw [e, show (i + 1) * ρ.n = a.length + i * ρ.n by rw [ρ.len r, Nat.add_mul]; omega, List.take_length_add_append]
    exact ⟨a, _, rfl, r, s.take i⟩
theorem RL.get {ρ : Rp α} {h : Mem} {xs : List α} {cs : List Value} {i : Nat} {x : α} (r : RL ρ h cs xs) (hx : xs[i]? = some x) : ρ.R h ((cs.drop (i * ρ.n)).take ρ.n) x := by
  have h1 := r.drop i
  obtain ⟨hi, e⟩ := List.getElem?_eq_some_iff.1 hx
  rw [List.drop_eq_getElem_cons hi, e] at h1
  obtain ⟨a, b, e1, ra, _⟩ := h1
  rw [e1, ← ρ.len ra, List.take_left]
  exact ra
theorem RL.set {ρ : Rp α} {h : Mem} {xs : List α} {cs ds : List Value} {i : Nat} {y : α} (r : RL ρ h cs xs) (hi : i < xs.length) (hd : ρ.R h ds y) : RL ρ h (cs.take (i * ρ.n) ++ ds ++ cs.drop (i * ρ.n + ρ.n)) (xs.set i y) := by
  have h1 := r.take i
  have h2 := r.drop (i + 1)
  rw [Nat.add_mul, Nat.one_mul] at h2
  rw [List.set_eq_take_append_cons_drop, if_pos hi, List.append_assoc]
  exact h1.append ⟨ds, _, rfl, hd, h2⟩
def rpQ (k : Nat) : Rp Rat where
  n := 3
  agg := true
  R h cs q := (∃ vn vd, cs = [vB (q.num < 0), vn, vd] ∧ Us .u32 h vn (zF q.num.natAbs) ∧ Us .u32 h vd (zF (vK q.den))) ∧ lq q ≤ k
  len := by rintro h cs q ⟨⟨vn, vd, rfl, _⟩, _⟩; rfl
  mono := by
    rintro h h' cs q hh ⟨⟨vn, vd, rfl, h1, h2⟩, h3⟩
    exact ⟨⟨vn, vd, rfl, h1.mono hh, h2.mono hh⟩, h3⟩
  one := by
    rintro h cs q ⟨⟨vn, vd, rfl, h1, h2⟩, h3⟩
    exact ocr rfl (ocu h1 (ocu h2 oc0))
  cell := by simp
def rpI : Rp Int where
  n := 1
  agg := false
  R _ cs z := cs = [vI z] ∧ -9223372036854775808 ≤ z ∧ z < 9223372036854775808
  len := by rintro h cs z ⟨rfl, _⟩; rfl
  mono := fun _ r => r
  one := by rintro h cs z ⟨rfl, _⟩; rfl
  cell := fun _ => rfl
def rpB : Rp Prop where
  n := 1
  agg := false
  R _ cs p := cs = [vB p]
  len := by rintro h cs p rfl; rfl
  mono := fun _ r => r
  one := by rintro h cs p rfl; rfl
  cell := fun _ => rfl
def rpP (ρ : Rp α) (σ : Rp β) : Rp (α × β) where
  n := ρ.n + σ.n
  agg := true
  R h cs x := ∃ a b, cs = a ++ b ∧ ρ.R h a x.1 ∧ σ.R h b x.2
  len := by rintro h cs x ⟨a, b, rfl, h1, h2⟩; rw [List.length_append, ρ.len h1, σ.len h2]
  mono := by rintro h h' cs x hh ⟨a, b, rfl, h1, h2⟩; exact ⟨a, b, rfl, ρ.mono hh h1, σ.mono hh h2⟩
  one := by rintro h cs x ⟨a, b, rfl, h1, h2⟩; rw [List.all_append, ρ.one h1, σ.one h2]; rfl
  cell := by simp
@[ext] structure T3 (α : Type) where
  x : α
  y : α
  z : α
def T3.at (p : T3 α) : Nat → α
  | 0 => p.x
  | 1 => p.y
  | _ => p.z
def T3.set (p : T3 α) : Nat → α → T3 α
  | 0, a => ⟨a, p.y, p.z⟩
  | 1, a => ⟨p.x, a, p.z⟩
  | _, a => ⟨p.x, p.y, a⟩
def rpT (ρ : Rp α) : Rp (T3 α) where
  n := ρ.n + (ρ.n + ρ.n)
  agg := true
  R h cs p := (rpP ρ (rpP ρ ρ)).R h cs (p.x, p.y, p.z)
  len := fun r => (rpP ρ (rpP ρ ρ)).len r
  mono := fun hh r => (rpP ρ (rpP ρ ρ)).mono hh r
  one := fun r => (rpP ρ (rpP ρ ρ)).one r
  cell := by simp
def rpA (k : Nat) (ρ : Rp α) : Rp (List α) where
  n := k * ρ.n
  agg := true
  R h cs xs := xs.length = k ∧ RL ρ h cs xs
  len := by rintro h cs xs ⟨rfl, r⟩; exact r.len
  mono := fun hh r => ⟨r.1, r.2.mono hh⟩
  one := fun r => r.2.one
  cell := by simp
def rpS (ρ : Rp α) : Rp (List α) where
  n := 1
  agg := false
  R h cs xs := ∃ v ds, cs = [v] ∧ Sl h ρ.n v xs.length ds ∧ RL ρ h ds xs
  len := by rintro h cs xs ⟨v, ds, rfl, _⟩; rfl
  mono := by rintro h h' cs xs hh ⟨v, ds, rfl, h1, h2⟩; exact ⟨v, ds, rfl, h1.mono hh, h2.mono hh⟩
  one := by
    rintro h cs xs ⟨v, ds, rfl, h1, h2⟩
    obtain ⟨a, cap, rfl⟩ := h1.one
    rfl
  cell := fun _ => rfl
theorem sP {h : Mem} {z : Int} (h1 : -9223372036854775808 ≤ z) (h2 : z < 9223372036854775808) : rpI.Is h (vI z) z := ⟨_, ⟨rfl, h1, h2⟩, rfl⟩
theorem bC {h : Mem} {v : Value} {z : Int} (s : rpI.Is h v z) : v = vI z ∧ -9223372036854775808 ≤ z ∧ z < 9223372036854775808 := by
  obtain ⟨cs, ⟨rfl, h1, h2⟩, rfl⟩ := s
  exact ⟨rfl, h1, h2⟩
theorem bD {h : Mem} {v : Value} {q : Rat} {k : Nat} (s : vQ h v q) (hk : lq q ≤ k) : (rpQ k).Is h v q := by
  obtain ⟨vn, vd, rfl, h1, h2⟩ := s
  exact ⟨_, ⟨⟨vn, vd, rfl, h1, h2⟩, hk⟩, rfl⟩
theorem of_q {h : Mem} {v : Value} {q : Rat} {k : Nat} (s : (rpQ k).Is h v q) : vQ h v q ∧ lq q ≤ k := by
  obtain ⟨cs, ⟨⟨vn, vd, rfl, h1, h2⟩, hk⟩, rfl⟩ := s
  exact ⟨⟨vn, vd, rfl, h1, h2⟩, hk⟩
theorem uP {h : Mem} {v : Value} {q : Rat} {k : Nat} (s : (rpQ k).Is h v q) : ∃ vn vd, v = .agg #[vB (q.num < 0), vn, vd] ∧ Us .u32 h vn (zF q.num.natAbs) ∧ Us .u32 h vd (zF (vK q.den)) ∧ lq q ≤ k := by
  obtain ⟨cs, ⟨⟨vn, vd, rfl, h1, h2⟩, hk⟩, rfl⟩ := s
  exact ⟨vn, vd, rfl, h1, h2, hk⟩
theorem is_s {ρ : Rp α} {h : Mem} {v : Value} {xs : List α} {ds : List Value} (s : Sl h ρ.n v xs.length ds) (r : RL ρ h ds xs) : (rpS ρ).Is h v xs := ⟨_, ⟨v, ds, rfl, s, r⟩, rfl⟩
theorem of_s {ρ : Rp α} {h : Mem} {v : Value} {xs : List α} (s : (rpS ρ).Is h v xs) : ∃ ds, Sl h ρ.n v xs.length ds ∧ RL ρ h ds xs := by
  obtain ⟨cs, ⟨v, ds, rfl, h1, h2⟩, rfl⟩ := s
  exact ⟨ds, h1, h2⟩
theorem cI {ρ : Rp α} (h : Mem) : (rpS ρ).Is h (.slice none 0 0) [] := is_s (Sl.nil h _) rfl
theorem s_lt {ρ : Rp α} {h : Mem} {v : Value} {xs : List α} (s : (rpS ρ).Is h v xs) : xs.length < 9223372036854775808 := by
  obtain ⟨ds, h1, _⟩ := of_s s
  exact h1.lt63
theorem s_one {ρ : Rp α} {h : Mem} {v : Value} {xs : List α} (s : (rpS ρ).Is h v xs) : ∃ a cap, v = .slice a xs.length cap := by
  obtain ⟨ds, h1, _⟩ := of_s s
  exact h1.one
structure Le (ρ σ : Rp α) : Prop where
  n : ρ.n = σ.n
  agg : ρ.agg = σ.agg
  R : ∀ {h cs x}, ρ.R h cs x → σ.R h cs x
theorem Le.refl (ρ : Rp α) : Le ρ ρ := ⟨rfl, rfl, id⟩
theorem Le.q {k l : Nat} (h : k ≤ l) : Le (rpQ k) (rpQ l) := ⟨rfl, rfl, fun ⟨a, b⟩ => ⟨a, Nat.le_trans b h⟩⟩
theorem Le.p {ρ ρ' : Rp α} {σ σ' : Rp β} (h : Le ρ ρ') (k : Le σ σ') : Le (rpP ρ σ) (rpP ρ' σ') := ⟨by show ρ.n + σ.n = ρ'.n + σ'.n; rw [h.n, k.n], rfl, fun ⟨a, b, e, r, s⟩ => ⟨a, b, e, h.R r, k.R s⟩⟩
theorem Le.t {ρ ρ' : Rp α} (h : Le ρ ρ') : Le (rpT ρ) (rpT ρ') := ⟨by show ρ.n + (ρ.n + ρ.n) = ρ'.n + (ρ'.n + ρ'.n); rw [h.n], rfl, fun r => (Le.p h (Le.p h h)).R r⟩
theorem Le.rl {ρ ρ' : Rp α} (h : Le ρ ρ') {m : Mem} : ∀ {xs : List α} {cs : List Value}, RL ρ m cs xs → RL ρ' m cs xs
  | [], _, r => r
  | _ :: _, _, ⟨a, b, e, r, s⟩ => ⟨a, b, e, h.R r, h.rl s⟩
theorem Le.a {k : Nat} {ρ ρ' : Rp α} (h : Le ρ ρ') : Le (rpA k ρ) (rpA k ρ') := ⟨by show k * ρ.n = k * ρ'.n; rw [h.n], rfl, fun r => ⟨r.1, h.rl r.2⟩⟩
theorem Le.s {ρ ρ' : Rp α} (h : Le ρ ρ') : Le (rpS ρ) (rpS ρ') := ⟨rfl, rfl, fun ⟨v, ds, e, s, r⟩ => ⟨v, ds, e, h.n ▸ s, h.rl r⟩⟩
theorem Rp.Is.le {ρ σ : Rp α} {h : Mem} {v : Value} {x : α} (s : ρ.Is h v x) (k : Le ρ σ) : σ.Is h v x := by
  obtain ⟨cs, r, rfl⟩ := s
  exact ⟨cs, k.R r, by unfold Rp.val; rw [k.agg]⟩
structure Pc (ρ : Rp α) (off : Nat) (σ : Rp β) (g : α → β) (s : α → β → α) : Prop where
  fits : off + σ.n ≤ ρ.n
  get : ∀ {h cs x}, ρ.R h cs x → σ.R h ((cs.drop off).take σ.n) (g x)
  set : ∀ {h cs x ds y}, ρ.R h cs x → σ.R h ds y → ρ.R h (cs.take off ++ ds ++ cs.drop (off + σ.n)) (s x y)
theorem Pc.here (ρ : Rp α) : Pc ρ 0 ρ (fun x => x) (fun _ y => y) := by
  refine ⟨by omega, fun r => ?_, fun {h cs x ds y} r s => ?_⟩
  · have := ρ.len r
    rw [List.drop_zero, ← this, List.take_length]; exact r
  · have := ρ.len r
    rw [Nat.zero_add, ← this, List.drop_length, List.take_zero, List.nil_append, List.append_nil]; exact s
theorem Pc.fst {ρ : Rp α} {σ : Rp β} {τ : Rp γ} {off : Nat} {g : α → γ} {s : α → γ → α} (p : Pc ρ off τ g s) : Pc (rpP ρ σ) off τ (fun x => g x.1) (fun x y => (s x.1 y, x.2)) := by
  have hf := p.fits
  refine ⟨by show off + τ.n ≤ ρ.n + σ.n; omega, ?_, ?_⟩
  · rintro h cs x ⟨a, b, rfl, ra, rb⟩
    have hl := ρ.len ra
    have := p.get ra
    rwa [List.drop_append_of_le_length (by omega), List.take_append_of_le_length (by rw [List.length_drop]; omega)]
  · rintro h cs x ds y ⟨a, b, rfl, ra, rb⟩ rd
    have hl := ρ.len ra
    refine ⟨_, b, ?_, p.set ra rd, rb⟩
    rw [List.take_append_of_le_length (by omega), List.drop_append_of_le_length (by omega)]
    simp [List.append_assoc]
theorem Pc.snd {ρ : Rp α} {σ : Rp β} {τ : Rp γ} {off : Nat} {g : β → γ} {s : β → γ → β} (p : Pc σ off τ g s) : Pc (rpP ρ σ) (ρ.n + off) τ (fun x => g x.2) (fun x y => (x.1, s x.2 y)) := by
  have hf := p.fits
  refine ⟨by show ρ.n + off + τ.n ≤ ρ.n + σ.n; omega, ?_, ?_⟩
  · rintro h cs x ⟨a, b, rfl, ra, rb⟩
    have hl := ρ.len ra
    have := p.get rb
    rwa [← hl, ← List.drop_drop, List.drop_left]
  · rintro h cs x ds y ⟨a, b, rfl, ra, rb⟩ rd
    have hl := ρ.len ra
    refine ⟨a, _, ?_, ra, p.set rb rd⟩
    rw [← hl, List.take_length_add_append, Nat.add_assoc, ← List.drop_drop, List.drop_left]
    simp [List.append_assoc]
theorem Pc.tx {ρ : Rp α} {τ : Rp γ} {off : Nat} {g : α → γ} {s : α → γ → α} (p : Pc ρ off τ g s) : Pc (rpT ρ) off τ (fun x => g x.x) (fun x y => ⟨s x.x y, x.y, x.z⟩) := by
  have q : Pc (rpP ρ (rpP ρ ρ)) off τ _ _ := p.fst
  exact ⟨q.fits, fun r => q.get r, fun r d => q.set r d⟩
theorem Pc.ty {ρ : Rp α} {τ : Rp γ} {off : Nat} {g : α → γ} {s : α → γ → α} (p : Pc ρ off τ g s) : Pc (rpT ρ) (ρ.n + off) τ (fun x => g x.y) (fun x y => ⟨x.x, s x.y y, x.z⟩) := by
  have q : Pc (rpP ρ (rpP ρ ρ)) (ρ.n + off) τ _ _ := (Pc.fst (σ := ρ) p).snd
  exact ⟨q.fits, fun r => q.get r, fun r d => q.set r d⟩
theorem Pc.tz {ρ : Rp α} {τ : Rp γ} {off : Nat} {g : α → γ} {s : α → γ → α} (p : Pc ρ off τ g s) : Pc (rpT ρ) (ρ.n + (ρ.n + off)) τ (fun x => g x.z) (fun x y => ⟨x.x, x.y, s x.z y⟩) := by
  have q : Pc (rpP ρ (rpP ρ ρ)) (ρ.n + (ρ.n + off)) τ _ _ := (Pc.snd (ρ := ρ) p).snd
  exact ⟨q.fits, fun r => q.get r, fun r d => q.set r d⟩
theorem Pc.ta {ρ : Rp α} {τ : Rp γ} {off : Nat} {g : α → γ} {s : α → γ → α} (p : Pc ρ off τ g s) (i : Nat) (hi : i < 3) : Pc (rpT ρ) (i * ρ.n + off) τ (fun x => g (x.at i)) (fun x y => x.set i (s (x.at i) y)) := by
  match i, hi with
  | 0, _ => rw [Nat.zero_mul, Nat.zero_add]; exact p.tx
  | 1, _ => rw [Nat.one_mul]; exact p.ty
  | 2, _ => rw [show 2 * ρ.n + off = ρ.n + (ρ.n + off) by omega]; exact p.tz
theorem Pc.arr {ρ : Rp α} {τ : Rp γ} {off k : Nat} {g : α → γ} {s : α → γ → α} (p : Pc ρ off τ g s) (d : α) (i : Nat) (hi : i < k) : Pc (rpA k ρ) (i * ρ.n + off) τ (fun x => g (x.getD i d)) (fun x y => x.set i (s (x.getD i d) y)) := by
  have hf := p.fits
  have hm : i * ρ.n + ρ.n ≤ k * ρ.n := by rw [← Nat.succ_mul]; exact Nat.mul_le_mul_right _ hi
  have hx : ∀ {x : List α}, x.length = k → x[i]? = some (x.getD i d) := by
    intro x hl
    rw [List.getD_eq_getElem?_getD, List.getElem?_eq_getElem (by omega)]; rfl
  refine ⟨by show i * ρ.n + off + τ.n ≤ k * ρ.n; omega, ?_, ?_⟩
  · rintro h cs x ⟨hl, r⟩
    have h1 := p.get (r.get (hx hl))
    rw [List.drop_take, List.take_take, Nat.min_eq_left (by omega), List.drop_drop] at h1
    exact h1
  · rintro h cs x ds y ⟨hl, r⟩ rd
    have hc := r.len
    rw [hl] at hc
    refine ⟨by simpa using hl, ?_⟩
    have h1 := r.set (i := i) (by omega) (p.set (r.get (hx hl)) rd)
    have e : cs.take (i * ρ.n) ++ (((cs.drop (i * ρ.n)).take ρ.n).take off ++ ds ++ ((cs.drop (i * ρ.n)).take ρ.n).drop (off + τ.n)) ++ cs.drop (i * ρ.n + ρ.n) = cs.take (i * ρ.n + off) ++ ds ++ cs.drop (i * ρ.n + off + τ.n) := by
      rw [List.take_take, Nat.min_eq_left (by omega), List.drop_take, List.drop_drop]
      have e1 : cs.take (i * ρ.n + off) = cs.take (i * ρ.n) ++ (cs.drop (i * ρ.n)).take off := List.take_add
      have e2 : cs.drop (i * ρ.n + off + τ.n) = (cs.drop (i * ρ.n + (off + τ.n))).take (ρ.n - (off + τ.n)) ++ cs.drop (i * ρ.n + ρ.n) := by
        have e3 := List.take_append_drop (ρ.n - (off + τ.n)) (cs.drop (i * ρ.n + (off + τ.n)))
        rw [List.drop_drop, show i * ρ.n + (off + τ.n) + (ρ.n - (off + τ.n)) = i * ρ.n + ρ.n by omega] at e3
        rw [Nat.add_assoc (i * ρ.n)]
        exact e3.symm
      rw [e1, e2]
      simp [List.append_assoc]
    rw [← e]
    exact h1
theorem wD {k : Nat} {h : Mem} (hk : 1 ≤ k) : (rpQ k).R h [.bool false, .slice none 0 0, .slice none 0 0] 0 := by
  refine ⟨⟨_, _, ?_, nI h, nJ h⟩, by rw [nX]; exact hk⟩
  rw [yX (show ¬ (0 : Rat).num < 0 by decide)]
theorem eL {h : Mem} : rpI.R h [.int .i64 0] 0 := ⟨rfl, by decide, by decide⟩
theorem eH {ρ : Rp α} {σ : Rp β} {h : Mem} {a b : List Value} {x : α} {y : β} (r : ρ.R h a x) (s : σ.R h b y) : (rpP ρ σ).R h (a ++ b) (x, y) := ⟨a, b, rfl, r, s⟩
theorem wI {ρ : Rp α} {h : Mem} {a : List Value} {x : α} (r : ρ.R h a x) : (rpT ρ).R h (a ++ (a ++ a)) ⟨x, x, x⟩ := ⟨a, _, rfl, r, a, a, rfl, r, r⟩
theorem zr_a {ρ : Rp α} {h : Mem} {a : List Value} {x : α} (k : Nat) (r : ρ.R h a x) : (rpA k ρ).R h (List.replicate k a).flatten (List.replicate k x) := by
  refine ⟨List.length_replicate, ?_⟩
  induction k with
  | zero => rfl
  | succ k ih => rw [List.replicate_succ, List.replicate_succ]; exact ⟨a, _, rfl, r, ih⟩
end
end Bk
namespace Bk
set_option linter.unusedVariables false
set_option linter.unusedSimpArgs false
open Go Go.RowKit
open Classical
structure TyOk (P : Program) (t : TypeId) (n : Nat) (agg : Bool) : Prop where
  sz : ∀ w, (Go.sizeOf t).run P w = .ok n w
  ag : ∀ w, (isAgg t).run P w = .ok agg w
section
variable {α β γ : Type}
variable {P : Program} {n : Nat} {w0 : World} {h0 : Mem} {e : List (Nat × Value)} {L : List Res} {h : Mem} {Q : Exit → Act → World → Prop}
variable {ds : Option Tmp} {ty : TypeId} {ps : String} {af : Array Edge} {gd : Option (Nat × Bool)}
theorem w6 : ∀ (vs : List Value) (k : Nat) (cs : List Value), k + vs.length ≤ cs.length → nM cs k vs = cs.take k ++ vs ++ cs.drop (k + vs.length) := by
  have key : ∀ (vs : List Value) (j k : Nat) (cs : List Value), k + j + vs.length ≤ cs.length → (vs.zipIdx j).foldl (fun c p => c.set (k + p.2) p.1) cs = cs.take (k + j) ++ vs ++ cs.drop (k + j + vs.length) := by
    intro vs
    induction vs with
    | nil => intro j k cs hl; simp
    | cons v vs ih =>
      intro j k cs hl
      simp only [List.length_cons] at hl
      rw [List.zipIdx_cons, List.foldl_cons, ih (j + 1) k _ (by rw [List.length_set]; omega)]
      rw [List.set_eq_take_append_cons_drop, if_pos (by omega)]
      have h1 : (cs.take (k + j)).length = k + j := by rw [List.length_take]; omega
      have e1 : (cs.take (k + j) ++ v :: cs.drop (k + j + 1)).take (k + (j + 1)) = cs.take (k + j) ++ [v] := by
        rw [show k + (j + 1) = (cs.take (k + j)).length + 1 by omega, List.take_length_add_append]; rfl
      have e2 : (cs.take (k + j) ++ v :: cs.drop (k + j + 1)).drop (k + (j + 1) + vs.length) = cs.drop (k + j + (vs.length + 1)) := by
        rw [show k + (j + 1) + vs.length = (cs.take (k + j)).length + (vs.length + 1) by omega, ← List.drop_drop, List.drop_left, List.drop_succ_cons, List.drop_drop]
        congr 1; omega
      rw [e1, e2]
      simp
  intro vs k cs hl
  exact key vs 0 k cs (by omega)
def OpX (P : Program) (n : Nat) (w0 : World) (h0 : Mem) (o : Oper) (e : List (Nat × Value)) (R : List Res) (h : Mem) (F : Value → Prop) : Prop :=
  ∃ v, (∀ L' h', MLe h h' → (∀ r ∈ R, r ∈ L') → OpV P n w0 h0 o e L' h' v) ∧ F v
theorem wG {ops : Array Oper} {rest : List Oper} {d : Nat} {op : Op} {R : List Res} {F : Value → Prop} (hv : OpX P n w0 h0 ⟨some d, op, ty, ps, af, none⟩ e R h F) (hR : ∀ r ∈ R, r ∈ L) (hn : Nat.ble (d + 1) n = true)
    (k : ∀ v, F v → GL P n w0 h0 ops Q rest ((d, v) :: e) L h) : GL P n w0 h0 ops Q (⟨some d, op, ty, ps, af, none⟩ :: rest) e L h := by
  obtain ⟨v, hv, hF⟩ := hv
  exact xH (hv L h (MLe.refl h) hR) rfl rfl hn (k v hF)
section
variable {ops : Array Oper} {RR : List Res} {al : Als} {d i : Nat} {op : Op} {v : Value} {r : List (Nat × Kd)} {g t : Nat} {b : Bool}
theorem yR {R : List Res} {F : Value → Prop} (ho : ops.getD i default = ⟨some d, op, ty, ps, af, none⟩) (hv : OpX P n w0 h0 ⟨some d, op, ty, ps, af, none⟩ e R h F) (hR : ∀ r ∈ R, r ∈ RR) (hn : Nat.ble (d + 1) n = true)
    (k : ∀ v, F v → W P n w0 h0 ops Q RR al r ((d, v) :: e) L h) : W P n w0 h0 ops Q RR al ((i, .q) :: r) e L h := by
  obtain ⟨v, hv, hF⟩ := hv
  exact w_q ho (fun h' L' hh hr => hv L' h' hh fun r hr' => hr r (hR r hr')) hn (k v hF)
theorem tR {R : List Res} {F : Value → Prop} (ho : ops.getD i default = ⟨some d, op, ty, ps, af, some (g, b)⟩) (ht : (ops[g]?).bind (·.dst) = some t) (he : e.lookup t = some (.bool b)) (hv : OpX P n w0 h0 ⟨some d, op, ty, ps, af, none⟩ e R h F) (hR : ∀ r ∈ R, r ∈ RR) (hn : Nat.ble (d + 1) n = true)
    (k : ∀ v, F v → W P n w0 h0 ops Q RR al r ((d, v) :: e) L h) : W P n w0 h0 ops Q RR al ((i, .q) :: r) e L h := by
  obtain ⟨v, hv, hF⟩ := hv
  exact uO ho ht he (fun h' L' hh hr => hv L' h' hh fun r hr' => hr r (hR r hr')) hn (k v hF)
theorem s_x {W' : List (Nat × Value) → List Res → Mem → Prop} {R : List Res} {F : Value → Prop} (hv : OpX P n w0 h0 ⟨some d, op, ty, ps, af, none⟩ e R h F) (hR : ∀ r ∈ R, r ∈ L) (hn : Nat.ble (d + 1) n = true)
    (k : ∀ v, F v → W' ((d, v) :: e) L h) : jV P n w0 h0 ops RR ⟨some d, op, ty, ps, af, none⟩ e L h W' := by
  obtain ⟨v, hv, hF⟩ := hv
  exact s_val (fun X => hv (L ++ X) h (MLe.refl h) fun r hr => List.mem_append_left _ (hR r hr)) hn (k v hF)
end
theorem uH {L : List Res} : ∀ r ∈ ([] : List Res), r ∈ L := fun r hr => by cases hr
theorem yF {L : List Res} {r : Res} (hr : r ∈ L) : ∀ x ∈ [r], x ∈ L := fun x hx => by cases hx with | head => exact hr | tail _ h => cases h
theorem part_x {E : TypeId} {σ : Rp β} {cs : List Value} {off : Nat} {y : β} (T : TyOk P E σ.n σ.agg) (r : σ.R h ((cs.drop off).take σ.n) y) (w : World) : (part E cs.toArray off).run P w = .ok (σ.val ((cs.drop off).take σ.n)) w := by
  simp only [part, Sem.run_bind, T.ag, Result.andThen_ok]
  unfold Rp.val
  cases ha : σ.agg with
  | true => simp [Sem.run_bind, T.sz, List.extract_toArray, List.extract_eq_take_drop, List.take_drop]
  | false =>
    obtain ⟨c, hc, _⟩ := Rp.single r ha
    rw [hc]
    have h1 : cs[off]? = some c := by
      have h2 : ((cs.drop off).take σ.n)[0]? = some c := by rw [hc]; rfl
      rw [List.getElem?_take] at h2
      split at h2
      · rw [List.getElem?_drop] at h2; simpa using h2
      · cases h2
    simp [h1]
theorem ox_index {t E : TypeId} {x y : Operand} {m off : Nat} {q : Int} {v : Value} {ρ : Rp α} {σ : Rp β} {g : α → β} {s : α → β → α} {X : α} {Z : β} (i : Nat) (ht : P.underlying t = some (.array m E)) (T : TyOk P E σ.n σ.agg) (pc : Pc ρ off σ g s) (ho : i * σ.n = off) (ha : ρ.agg = true) (hx : yK e x = some v) (hy : yK e y = some (vI q))
    (r : ρ.Is h v X) (hq : q = (i : Int)) (hi : i < m) (hZ : g X = Z) : OpX P n w0 h0 ⟨ds, .index t x y, ty, ps, af, gd⟩ e [] h (fun u => σ.Is h u Z) := by
  subst hZ
  obtain ⟨cs, r, rfl⟩ := r
  subst ho; subst hq
  have h1 := pc.get r
  refine ⟨_, fun L' h' _ _ a w Ev S => ?_, _, h1, rfl⟩
  have hv : ρ.val cs = .agg cs.toArray := by unfold Rp.val; rw [ha]; rfl
  rw [hv] at hx
  simp [execOp, Ev.eval hx, Ev.eval hy, Instr.index, vI, asIntOf, run_underlying ht, T.sz, hi, part_x T h1]
theorem aU {t : TypeId} {σ : Rp β} {cs : List Value} {y : β} {w : World} {b o : Nat} (T : TyOk P t σ.n σ.agg) (r : σ.R h cs y) (hc : w.rangeAt b o cs) : (Instr.loadAt t (vP b o)).run P w = .ok (σ.val cs) w := by
  have hlen := σ.len r
  simp only [Instr.loadAt, Instr.sureAddr, loadVar, Sem.run_bind, T.ag, Result.andThen_ok, Sem.run_pure]
  unfold Rp.val
  cases ha : σ.agg with
  | true =>
    have hl : (loadCells ⟨b, o, none⟩ cs.length).run P w = .ok cs.toArray w := run_loadCells_list (P := P) w ⟨b, o, none⟩ cs (fun j v hv => by rw [Addr.add_mid]; exact hc j v hv)
    rw [hlen] at hl
    simp [Sem.run_bind, T.sz, hl]
  | false =>
    obtain ⟨c, rfl, _⟩ := Rp.single r ha
    have := hc 0 c rfl
    simp only [Nat.add_zero] at this
    simp [Go.load, Sem.run, this]
theorem zE {t E : TypeId} {x : Operand} {b k off : Nat} {cs : List Value} {ρ : Rp α} {σ : Rp β} {g : α → β} {s : α → β → α} {X : α} {Z : β} (T : TyOk P t σ.n σ.agg) (pc : Pc ρ off σ g s) (ho : k = off) (hx : yK e x = some (vP b k)) (r : ρ.R h cs X) (hZ : g X = Z) :
    OpX P n w0 h0 ⟨ds, .load t x, ty, ps, af, gd⟩ e [.var b E cs] h (fun u => σ.Is h u Z) := by
  subst hZ
  subst ho
  have h1 := pc.get r
  refine ⟨_, fun L' h' _ hm a w Ev S => ?_, _, h1, rfl⟩
  have hw : w.heap[b]? = some (.cells cs.toArray E) := S.ok (.var b E cs) (hm _ (.head _))
  have hr := aU (P := P) (w := w) T h1 (cU hw k _ (by rw [σ.len h1]))
  simp [execOp, Ev.eval hx, hr]
def AtP (ρ : Rp α) (h : Mem) (p : Value) (X : α) : Prop := ∃ b o cs, p = vP b o ∧ ρ.R h cs X ∧ ∀ j u, cs[j]? = some u → cell h b (o + j) = some u
theorem uR {t E : TypeId} {x y : Operand} {q : Int} {v : Value} {ρ : Rp α} {xs : List α} (d : α) (i : Nat) (ht : P.underlying t = some (.slice E)) (T : TyOk P E ρ.n ρ.agg) (hx : yK e x = some v) (hy : yK e y = some (vI q)) (r : (rpS ρ).Is h v xs) (hq : q = (i : Int)) (hi : i < xs.length) (hp : 0 < ρ.n) :
    OpX P n w0 h0 ⟨ds, .indexAddr t x y, ty, ps, af, gd⟩ e [] h (fun u => AtP ρ h u (xs.getD i d)) := by
  obtain ⟨cs, hs, hr⟩ := of_s r
  have hxi : xs[i]? = some (xs.getD i d) := by rw [List.getD_eq_getElem?_getD, List.getElem?_eq_getElem hi]; rfl
  have hg := hr.get hxi
  have hlen := hr.len
  have hm : i * ρ.n + ρ.n ≤ cs.length := by rw [hlen, ← Nat.succ_mul]; exact Nat.mul_le_mul_right _ hi
  refine ⟨xD ρ.n v i, fun L' h' hh _ => cE i ht T.sz hx hy (hs.mono hh) hq hi hp, ?_⟩
  have h0 : (cs[i * ρ.n + 0]?) = some (cs[i * ρ.n]'(by omega)) := by rw [Nat.add_zero, List.getElem?_eq_getElem]
  obtain ⟨b, o, e1, _⟩ := hs.cell h0
  refine ⟨b, o, _, e1, hg, fun j u hj => ?_⟩
  rw [List.getElem?_take] at hj
  split at hj
  · rw [List.getElem?_drop] at hj
    obtain ⟨b', o', e2, hc⟩ := hs.cell hj
    rw [e1] at e2
    simp only [Value.pointer.injEq, Option.some.injEq, Addr.mk.injEq] at e2
    rw [e2.1, e2.2.1]; exact hc
  · cases hj
theorem vM {t : TypeId} {x : Operand} {p : Value} {ρ : Rp α} {X : α} (T : TyOk P t ρ.n ρ.agg) (hx : yK e x = some p) (r : AtP ρ h p X) : OpX P n w0 h0 ⟨ds, .load t x, ty, ps, af, gd⟩ e [] h (fun u => ρ.Is h u X) := by
  obtain ⟨b, o, cs, rfl, r, hc⟩ := r
  refine ⟨_, fun L' h' hh _ a w Ev S => ?_, _, r, rfl⟩
  have hr := aU (P := P) (w := w) T r (fun j u hj => pF (hh.trans S.sub) (hc j u hj))
  simp [execOp, Ev.eval hx, hr]
theorem vT {v : Value} {ρ : Rp α} {xs : List α} {t E : TypeId} {x : Operand} (ht : P.underlying t = some (.slice E)) (hx : yK e x = some v) (r : (rpS ρ).Is h v xs) :
    OpV P n w0 h0 ⟨ds, .call { callee := .builtin .len, args := #[x], argTypes := #[t] }, ty, ps, af, gd⟩ e L h (vI (xs.length : Int)) := rH ht hx (s_one r)
theorem yG {E t : TypeId} {b k off : Nat} {cs : List Value} {v : Value} {x y : Operand} {ρ : Rp α} {σ : Rp β} {g : α → β} {s : α → β → α} {X Z : α} {Y : β} (hsz : ∀ w, (Go.sizeOf t).run P w = .ok σ.n w) (pc : Pc ρ off σ g s) (ho : k = off) (hx : yK e x = some (vP b k)) (hy : yK e y = some v) (r : ρ.R h cs X) (ry : σ.Is h v Y) (hZ : s X Y = Z) :
    ∃ cs', ρ.R h cs' Z ∧ ∀ A B, Upd P n w0 h0 ⟨ds, .store t x y, ty, ps, af, gd⟩ e A (.var b E cs) B h (.var b E cs') := by
  subst hZ
  subst ho
  obtain ⟨vs, rv, hv⟩ := ry.cells
  have hl := σ.len rv
  have hlc := ρ.len r
  have hf := pc.fits
  refine ⟨nM cs k vs, ?_, ?_⟩
  · rw [w6 _ _ _ (by omega), hl]
    exact pc.set r rv
  · intro A B a w Ev S
    have hw : w.heap[b]? = some (.cells cs.toArray E) := S.ok (.var b E cs) (by simp)
    obtain ⟨h2, h3⟩ := rP vs k cs w hw
    refine ⟨w.setCells b k vs, ?_, h3, h2⟩
    have hthere : w.there b k vs.length := by
      intro j hj
      have : k + j < cs.length := by omega
      refine ⟨?_, ?_⟩
      · unfold World.cell?
        simp [hw, this]
      · simp [World.frozen?, hw]
    have hrun := run_storeCells_cells (P := P) b k vs 0 w (fun j hj => by simpa using (hthere j hj).1) (fun j hj => by simpa using (hthere j hj).2) (fun u hu => List.all_eq_true.1 (σ.one rv) u hu)
    simp only [Nat.add_zero] at hrun
    simp [execOp, Ev.eval hx, Ev.eval hy, Instr.storeAt, Instr.sureAddr, storeVar, hsz, hv, hl, hrun]
theorem wE {ops : Array Oper} {rest : List Oper} {A B : List Res} {op : Op} {b : Nat} {E : TypeId} {cs : List Value} {F : List Value → Prop} (hv : ∃ cs', F cs' ∧ ∀ A B, Upd P n w0 h0 ⟨none, op, ty, ps, af, none⟩ e A (.var b E cs) B h (.var b E cs'))
    (k : ∀ cs', F cs' → GL P n w0 h0 ops Q rest e (A ++ .var b E cs' :: B) h) : GL P n w0 h0 ops Q (⟨none, op, ty, ps, af, none⟩ :: rest) e (A ++ .var b E cs :: B) h := by
  obtain ⟨cs', hF, hu⟩ := hv
  exact wT (hu A B) rfl rfl rfl (k cs' hF)
theorem wF {ops : Array Oper} {RR : List Res} {al : Als} {i : Nat} {r : List (Nat × Kd)} {A B : List Res} {op : Op} {b : Nat} {E : TypeId} {cs : List Value} {F : List Value → Prop} (ho : ops.getD i default = ⟨none, op, ty, ps, af, none⟩) (hv : ∃ cs', F cs' ∧ ∀ A B, Upd P n w0 h0 ⟨none, op, ty, ps, af, none⟩ e A (.var b E cs) B h (.var b E cs'))
    (k : ∀ cs', F cs' → W P n w0 h0 ops Q RR al r e (A ++ .var b E cs' :: B) h) : W P n w0 h0 ops Q RR al ((i, .t) :: r) e (A ++ .var b E cs :: B) h := by
  obtain ⟨cs', hF, hu⟩ := hv
  exact gQ ho (hu A B) rfl (k cs' hF)
theorem tB {ops : Array Oper} {R : List Res} {W' : List (Nat × Value) → List Res → Mem → Prop} {A B : List Res} {op : Op} {b : Nat} {E : TypeId} {cs : List Value} {F : List Value → Prop} (hv : ∃ cs', F cs' ∧ ∀ A B, Upd P n w0 h0 ⟨none, op, ty, ps, af, none⟩ e A (.var b E cs) B h (.var b E cs'))
    (hR : ∀ r ∈ R, ∀ q', r ∈ A ++ .var b E cs :: B → r ∈ A ++ q' :: B) (k : ∀ cs', F cs' → W' e (A ++ .var b E cs' :: B) h) : jV P n w0 h0 ops R ⟨none, op, ty, ps, af, none⟩ e (A ++ .var b E cs :: B) h W' := by
  obtain ⟨cs', hF, hu⟩ := hv
  intro X a w Ev S
  have S1 : St w0 h0 (A ++ .var b E cs :: (B ++ X)) h w := by simpa using S
  unfold uX
  rw [if_pos (wn rfl)]
  obtain ⟨w', hr, hgr, hok⟩ := hu A (B ++ X) a w Ev S1
  rw [hr]
  refine ⟨fun d' hd => (by cases hd), A ++ .var b E cs' :: B, h, MLe.refl h, fun hh r hr => hR r hr _ (hh r hr), ?_, k cs' hF⟩
  have := S1.grown hgr hok fun b hb => .inl hb
  simpa using this
theorem yY {E : TypeId} {x : Operand} {v : Value} {ρ : Rp α} {X : α} (hx : yK e x = some v) (r : ρ.Is h v X) :
    sZ P n w0 h0 ⟨ds, .box E x, ty, ps, af, gd⟩ e L h (fun u q => ∃ b cs, u = vP b 0 ∧ q = .var b E cs ∧ ρ.R h cs X) := by
  obtain ⟨cs, rc, hc⟩ := r.cells
  intro a w Ev S
  obtain ⟨v', w', q, h1, h2, h3, h4, b, h5, h6⟩ := wW (n := n) (ds := ds) (ty := ty) (ps := ps) (af := af) (gd := gd) (L := L) (E := E) hx hc a w Ev S
  exact ⟨v', w', q, h1, h2, h3, h4, b, cs, h5, h6, rc⟩
theorem yZ {E : TypeId} {i : TypeInfo} {z : Value} {cs : List Value} {ρ : Rp α} {X : α} (hi : P.info? E = some i) (hz : i.zero = some z) (hc : z.cells = cs.toArray) (r : ρ.R h cs X) :
    sZ P n w0 h0 ⟨ds, .alloc E, ty, ps, af, gd⟩ e L h (fun u q => ∃ b cs, u = vP b 0 ∧ q = .var b E cs ∧ ρ.R h cs X) := by
  intro a w Ev S
  obtain ⟨v', w', q, h1, h2, h3, h4, b, h5, h6⟩ := vN (n := n) (ds := ds) (ty := ty) (ps := ps) (af := af) (gd := gd) (e := e) (L := L) (h := h) hi hz hc a w Ev S
  exact ⟨v', w', q, h1, h2, h3, h4, b, cs, h5, h6, r⟩
def hO (ρ : Rp α) (h : Mem) (place : Nat → Option (Nat × Nat)) (X : α) (parts : List (Nat × Value)) (X' : α) : Prop :=
  ∀ cs, ρ.R h cs X → ∃ cs', ρ.R h cs' X' ∧ Instr.fill place cs.toArray parts = some cs'.toArray
theorem xY {ρ : Rp α} {place : Nat → Option (Nat × Nat)} {X : α} : hO ρ h place X [] X := fun cs r => ⟨cs, r, rfl⟩
theorem yU {ρ : Rp α} {σ : Rp β} {place : Nat → Option (Nat × Nat)} {X X' : α} {Y : β} {i off : Nat} {v : Value} {rest : List (Nat × Value)} {g : α → β} {s : α → β → α} (hp : place i = some (off, σ.n)) (pc : Pc ρ off σ g s) (ry : σ.Is h v Y) (k : hO ρ h place (s X Y) rest X') : hO ρ h place X ((i, v) :: rest) X' := by
  intro cs r
  obtain ⟨vs, rv, hv⟩ := ry.cells
  have hl := σ.len rv
  have hlc := ρ.len r
  have hf := pc.fits
  obtain ⟨cs', r', e'⟩ := k _ (pc.set r rv)
  refine ⟨cs', r', ?_⟩
  have e1 : cs = cs.take off ++ (cs.drop off).take σ.n ++ cs.drop (off + σ.n) := by
    rw [List.append_assoc, ← List.drop_drop, List.take_append_drop, List.take_append_drop]
  rw [e1]
  exact wX hp (by rw [List.length_take]; omega) (by rw [List.length_take, List.length_drop]; omega) hl hv e'
theorem cD {t : TypeId} {i : TypeInfo} {z : Value} {zs : List Value} {fs : Array Field} {places : Array (Nat × Nat)} {parts : List (Nat × Operand)} {ps' : List (Nat × Value)} {ρ : Rp α} {X X' : α} (ht : P.underlying t = some (.struct fs)) (hi : P.info? t = some i) (hz : i.zero = some z) (hzc : z.cells = zs.toArray)
    (hpl : ∀ w, (fs.mapM fun (f : Field) => do pure (f.offset, ← Go.sizeOf f.type)).run P w = .ok places w) (hp : pI e parts ps') (ha : ρ.agg = true) (rz : ρ.R h zs X) (hf : hO ρ h (places[·]?) X ps' X') :
    OpX P n w0 h0 ⟨ds, .build t parts.toArray, ty, ps, af, gd⟩ e [] h (fun u => ρ.Is h u X') := by
  obtain ⟨cs', r', e'⟩ := hf zs rz
  refine ⟨.agg cs'.toArray, fun L' h' _ _ => wN ht hi hz hpl hp (by rw [hzc]; exact e'), cs', r', ?_⟩
  unfold Rp.val; rw [ha]; rfl
theorem wV {t E : TypeId} {m sz : Nat} {i : TypeInfo} {z : Value} {zs : List Value} {parts : List (Nat × Operand)} {ps' : List (Nat × Value)} {ρ : Rp α} {X X' : α} (ht : P.underlying t = some (.array m E)) (hi : P.info? t = some i) (hz : i.zero = some z) (hzc : z.cells = zs.toArray)
    (hsz : ∀ w, (Go.sizeOf E).run P w = .ok sz w) (hp : pI e parts ps') (ha : ρ.agg = true) (rz : ρ.R h zs X) (hf : hO ρ h (fun i => some (i * sz, sz)) X ps' X') :
    OpX P n w0 h0 ⟨ds, .build t parts.toArray, ty, ps, af, gd⟩ e [] h (fun u => ρ.Is h u X') := by
  obtain ⟨cs', r', e'⟩ := hf zs rz
  refine ⟨.agg cs'.toArray, fun L' h' _ _ => dG ht hi hz hsz hp (by rw [hzc]; exact e'), cs', r', ?_⟩
  unfold Rp.val; rw [ha]; rfl
theorem jI {R R' : Mem → Value → Prop} (k : ∀ h r, R h r → R' h r) (x : Ending) (w : World) (s : Ret w0 h0 R x w) : Ret w0 h0 R' x w := by
  obtain ⟨v, h, e, r, S⟩ := s
  exact ⟨v, h, e, k h v r, S⟩
theorem Rp.castR {ρ : Rp α} {cs : List Value} {x y : α} (r : ρ.R h cs x) (e : x = y) : ρ.R h cs y := e ▸ r
theorem Rp.R.mono {ρ : Rp α} {h' : Mem} {cs : List Value} {x : α} (r : ρ.R h cs x) (hh : MLe h h') : ρ.R h' cs x := Rp.mono ρ hh r
theorem gF {t : Nat} {T E : TypeId} {b : Nat} {cs : List Value} {ρ : Rp α} {X : α} (tok : TyOk P T ρ.n ρ.agg) (hm : .var b E cs ∈ L) (hx : yK e (.tmp t) = some (vP b 0)) (r : ρ.R h cs X) : ∃ v, RV P n w0 h0 (.cell t T) e L h v ∧ ρ.Is h v X := by
  refine ⟨ρ.val cs, ?_, cs, r, rfl⟩
  intro a w Ev S
  have hw : w.heap[b]? = some (.cells cs.toArray E) := S.ok _ hm
  have := Ev.eval hx
  simp only [Act.eval] at this
  have h2 := aU (P := P) tok r (cU hw 0 cs (by simp))
  simp only [Instr.loadAt, Instr.sureAddr, Sem.run_bind, Sem.run_pure, Result.andThen_ok] at h2
  simp [mP, this, asAddr, h2]
theorem uG {r : ResultVar} {F : Value → Prop} {x : Exit} (s : ∃ v, RV P n w0 h0 r e L h v ∧ F v) (k : ∀ v, RV P n w0 h0 r e L h v → F v → GQ n w0 h0 Q x e L h) : GQ n w0 h0 Q x e L h := by
  obtain ⟨v, a, b⟩ := s
  exact k v a b
end
end Bk
namespace Bk
set_option linter.unusedVariables false
set_option linter.unusedSimpArgs false
open Go Go.RowKit
open Classical
section
variable {P : Program} {n : Nat} {w0 : World} {h0 : Mem} {e : List (Nat × Value)} {L : List Res} {h : Mem} {Q : Exit → Act → World → Prop}
variable {ds : Option Tmp} {ty : TypeId} {ps : String} {af : Array Edge} {gd : Option (Nat × Bool)}
abbrev vF (f : Nat) (cap : List Value) : Value := .func (.func f) #[] cap.toArray
def Enters (P : Program) (n : Nat) (o : Oper) (e : List (Nat × Value)) (f : Nat) (args : Array Value) : Prop := ∀ a w, Env n e a → (execOp a.eval o).run P w = .ok (.enter f args) w
theorem fM {x : Operand} {f : Nat} {cap : List Value} {xs : List Operand} {ts : Array TypeId} {vs : List Value} (hcall : ∀ args w, (callFunc f args).run P w = .ok (.enter f args) w) (hx : yK e x = some (vF f cap)) (hvs : pM e xs vs) :
    Enters P n ⟨ds, .call { callee := .value x, args := xs.toArray, argTypes := ts }, ty, ps, af, gd⟩ e f (vs ++ cap).toArray := by
  intro a w Ev
  have hargs : xs.toArray.map a.eval = vs.toArray := by rw [List.map_toArray, Ev.evals hvs]
  simp only [execOp, resolve, Ev.eval hx]
  simp [Deferred.ofValue, invoke, hcall, hargs]
theorem gl_enter {ops : Array Oper} {rest : List Oper} {o : Oper} {d f : Nat} {args : Array Value} {R : Mem → Value → Prop} (he : Enters P n o e f args) (hg : o.guard = none) (hd : o.dst = some d) (hn : Nat.ble (d + 1) n = true)
    (hc : ∀ w, MLe h (mem w) → Calls P f args w (Ret w h R)) (k : ∀ v h', MLe h h' → R h' v → GL P n w0 h0 ops Q rest ((d, v) :: e) L h') : GL P n w0 h0 ops Q (o :: rest) e L h := by
  intro a w E S
  refine wpList_plain hg fun K hK => ?_
  unfold Oper.wp
  rw [he a w E, Oper.upon_enter]
  refine (hc w S.sub).mono ?_
  rintro e' w' ⟨v, h', rfl, hR, S'⟩
  have S2 := S.call S'
  rw [hd]
  exact hK _ _ (k v h' S'.le hR _ _ (E.put (Nat.le_of_ble_eq_true hn)) S2)
theorem xM {R A B : List Res} {q : Res} (hR : ∀ r ∈ R, r ∈ A ++ B) : ∀ r ∈ R, r ∈ A ++ q :: B → r ∈ A ++ B := fun r hr _ => hR r hr
section
variable {ops : Array Oper} {R : List Res} {d : Nat} {op : Op}
theorem tS {W' : List (Nat × Value) → List Res → Mem → Prop} {f : Nat} {args : Array Value} {R' : Mem → Value → Prop} (he : Enters P n ⟨some d, op, ty, ps, af, none⟩ e f args) (hn : Nat.ble (d + 1) n = true)
    (hc : ∀ w, MLe h (mem w) → Calls P f args w (Ret w h R')) (k : ∀ v h', MLe h h' → R' h' v → W' ((d, v) :: e) L h') : jV P n w0 h0 ops R ⟨some d, op, ty, ps, af, none⟩ e L h W' := by
  intro X a w E S
  unfold uX
  rw [if_pos (wn rfl), he a w E]
  refine (hc w S.sub).mono ?_
  rintro e' w' ⟨v, h', rfl, hR, S'⟩
  have S2 : St w0 h0 (L ++ X) h' w' := S.call S'
  exact ⟨v, rfl, fun d' hd => (by cases hd; exact Nat.le_of_ble_eq_true hn), L, h', S'.le, fun hh => hh, S2, k v h' S'.le hR⟩
end
end
end Bk
namespace Bk
set_option linter.unusedVariables false
set_option linter.unusedSimpArgs false
open Go Go.RowKit
open Classical
section
variable {α β γ : Type}
variable {P : Program} {n : Nat} {w0 : World} {h0 : Mem} {e : List (Nat × Value)} {L : List Res} {h : Mem} {Q : Exit → Act → World → Prop}
variable {ds : Option Tmp} {ty : TypeId} {ps : String} {af : Array Edge} {gd : Option (Nat × Bool)}
theorem St.nilown {w : World} (s : St w0 h0 L h w) (E k : Nat) : St w0 h0 (.gs E k (.slice none 0 0) 0 [] :: L) h w := by
  refine ⟨s.below, s.le, s.sub, s.fresh, ?_, ?_, ?_⟩
  · intro r hr
    rcases List.mem_cons.1 hr with rfl | hr
    · exact World.ownsRow_nil w _ E k
    · exact s.ok r hr
  · intro r hr b hb
    rcases List.mem_cons.1 hr with rfl | hr
    · simp [Res.fp, Value.ownBlock] at hb
    · exact s.own r hr b hb
  · refine List.pairwise_cons.2 ⟨fun r hr b hb => ?_, s.apart⟩
    simp [Res.fp, Value.ownBlock] at hb
theorem bB {c : Code} (E k : Nat) (g : GC P n w0 h0 c Q e (.gs E k (.slice none 0 0) 0 [] :: L) h) : GC P n w0 h0 c Q e L h := fun a w Ev S => g a w Ev (S.nilown E k)
theorem nC {ops : Array Oper} {l : List Oper} (E k : Nat) (g : GL P n w0 h0 ops Q l e (.gs E k (.slice none 0 0) 0 [] :: L) h) : GL P n w0 h0 ops Q l e L h := fun a w Ev S => g a w Ev (S.nilown E k)
theorem made_list (a : List Value) (m : Nat) : (madeCells a.toArray (m * a.length)).toList = (List.replicate m a).flatten := by
  unfold madeCells
  rw [Array.toList_map, Array.toList_range]
  induction m with
  | zero => simp
  | succ m ih =>
    rw [Nat.succ_mul, Nat.add_comm, List.range_add, List.map_append, List.map_map, List.replicate_succ, List.flatten_cons, ← ih]
    congr 1
    · apply List.ext_getElem?
      intro j
      by_cases hj : j < a.length
      · simp [hj, Nat.mod_eq_of_lt hj]
      · simp [hj]
    · apply List.map_congr_left
      intro j _
      simp
theorem rl_zero {ρ : Rp α} {a : List Value} {x : α} (m : Nat) (r : ρ.R h a x) : RL ρ h (madeCells a.toArray (m * ρ.n)).toList (List.replicate m x) := by
  rw [← ρ.len r, made_list]
  exact (zr_a (h := h) m r).2
theorem iQ {t E : TypeId} {i : TypeInfo} {z : Value} {zs : List Value} {x y : Operand} {q q' : Int} {by' : Nat} {ρ : Rp α} {X : α} (m : Nat) (ht : P.underlying t = some (.slice E)) (hi : P.info? E = some i) (hz : i.zero = some z) (hzc : z.cells = zs.toArray) (hsize : i.size = ρ.n) (hby : i.bytes = by') (rz : ρ.R h zs X)
    (hx : yK e x = some (vI q)) (hy : yK e y = some (vI q')) (hq : q = (m : Int)) (hq' : q' = (m : Int)) (hb : by' * m ≤ 281474976710656) (hm : m < 9223372036854775808) :
    sZ P n w0 h0 ⟨ds, .makeSlice t x y, ty, ps, af, gd⟩ e L h (fun v r => ∃ cs, r = .gs E ρ.n v (List.replicate m X).length cs ∧ RL ρ h cs (List.replicate m X)) := by
  subst hq; subst hq'; subst hby
  intro a w Ev S
  obtain ⟨w', hr, hown, hgr⟩ := run_make_full (P := P) w w0.heap.size t E i z ρ.n ht hi hz hsize .i64 .i64 m hb (by unfold maxLen; omega) S.below.size
  rw [hzc] at hown
  refine ⟨_, w', .gs E ρ.n (.slice (some ⟨w.heap.size, 0, none⟩) m m) m (madeCells zs.toArray (m * ρ.n)).toList, ?_, hgr, hown, fun b hb => ?_, _, by rw [List.length_replicate], rl_zero m rz⟩
  · simp only [execOp, Ev.eval hx, Ev.eval hy, vI]
    simp [hr]
  · simp only [Res.fp, Value.ownBlock, Option.some.injEq] at hb
    omega
theorem yW {t E : TypeId} {i : TypeInfo} {z : Value} {zs : List Value} {parts : List (Nat × Operand)} {ps' : List (Nat × Value)} {m : Nat} {ρ : Rp α} {X : α} {xs : List α} (ht : P.underlying t = some (.slice E)) (hi : P.info? E = some i) (hz : i.zero = some z) (hzc : z.cells = zs.toArray) (hsize : i.size = ρ.n) (rz : ρ.R h zs X)
    (hp : pI e parts ps') (hf : hO (rpA m ρ) h (fun i => some (i * ρ.n, ρ.n)) (List.replicate m X) ps' xs) (hm : m * ρ.n ≤ 16777216) (hn : 0 < ρ.n) :
    sZ P n w0 h0 ⟨ds, .buildSlice t m parts.toArray, ty, ps, af, gd⟩ e L h (fun v r => ∃ cs, r = .gs E ρ.n v xs.length cs ∧ RL ρ h cs xs) := by
  obtain ⟨cs, ⟨hlen, hrl⟩, hfill⟩ := hf (madeCells zs.toArray (m * ρ.n)).toList ⟨List.length_replicate, rl_zero m rz⟩
  have hcl := hrl.len
  rw [hlen] at hcl
  intro a w Ev S
  have hpa : (parts.toArray.map fun (p : Nat × Operand) => (p.1, a.eval p.2)).toList = ps' := by
    rw [List.map_toArray]
    exact hp.eval Ev
  refine ⟨.slice (some ⟨w.heap.size, 0, none⟩) m m, w.alloc (.cells cs.toArray E), .gs E ρ.n (.slice (some ⟨w.heap.size, 0, none⟩) m m) m cs, ?_, World.grownBy_alloc w _ none, ?_, fun b hb => ?_, cs, by rw [hlen], hrl⟩
  · have h24 : ¬ (m * ρ.n > 16777216) := by omega
    simp only [execOp, Instr.buildSlice]
    rw [show (parts.toArray.map fun (i, x) => (i, a.eval x)).toList = ps' from hpa]
    have hz' : (zeroValue E).run P w = .ok z w := by simp [zeroValue, typeInfo, hi, hz]
    have hfill' : Instr.fill (fun i => some (i * ρ.n, ρ.n)) (madeCells zs.toArray (m * ρ.n)) ps' = some cs.toArray := by
      simpa using hfill
    have hszE : ∀ w, (Go.sizeOf E).run P w = .ok ρ.n w := fun w => by simp [Go.sizeOf, typeInfo, hi, hsize]
    by_cases h0 : m * ρ.n = 0
    · rw [h0] at hfill'
      simp only [madeCells, Array.range_zero', Array.map_empty] at hfill'
      simp [run_underlying ht, hszE, newRow, newObj, Sem.run, h0, Array.range_zero', hfill']
    · unfold madeCells at hfill'
      simp only [List.size_toArray, List.getElem!_toArray, List.getElem!_eq_getElem?_getD] at hfill'
      simp [run_underlying ht, hszE, h0, h24, hz', hzc, hfill', newRow, newObj, Sem.run]
  · have := World.ownsRow_lit (w := w) (base := w0.heap.size) (e := E) (size := ρ.n) cs.toArray m S.below.size (by unfold maxLen; have := Nat.le_mul_of_pos_right m hn; omega) (by simpa using hcl)
    exact this
  · simp only [Res.fp, Value.ownBlock, Option.some.injEq] at hb
    omega
theorem yM {A B : List Res} {t E : TypeId} {i : TypeInfo} {z : Value} {bytes : Nat} {v v' : Value} {cs : List Value} {x y : Operand} {ρ : Rp α} {xs ys : List α} (ht : P.underlying t = some (.slice E)) (hi : P.info? E = some i) (hz : i.zero = some z) (hsize : i.size = ρ.n) (hby : i.bytes = bytes)
    (hzs : z.cells.size = ρ.n) (hk : 0 < ρ.n) (hx : yK e x = some v) (hy : yK e y = some v') (r : RL ρ h cs xs) (hv' : (rpS ρ).Is h v' ys) (hlen : xs.length + ys.length < 9223372036854775808) (hb' : (xs.length + ys.length) * bytes ≤ 140737488355328) :
    f8 P n w0 h0 ⟨ds, .call { callee := .builtin .append, args := #[x, y], argTypes := #[t, t] }, ty, ps, af, gd⟩ e A (.gs E ρ.n v xs.length cs) B h (fun u r' => ∃ cs', r' = .gs E ρ.n u (xs ++ ys).length cs' ∧ RL ρ h cs' (xs ++ ys)) := by
  obtain ⟨cs2, hs, r2⟩ := of_s hv'
  intro a w Ev S
  obtain ⟨u, w', r', h1, h2, h3, h4, h5⟩ := mQ (A := A) (B := B) (v := v) (cs := cs) (m := xs.length) (ds := ds) (ty := ty) (ps := ps) (af := af) (gd := gd) ht hi hz hsize hby hzs hk hx hy hs (fun u hu => List.all_eq_true.1 r2.one u hu) hlen hb' a w Ev S
  exact ⟨u, w', r', h1, h2, h3, h4, cs ++ cs2, by rw [h5, List.length_append], r.append r2⟩
theorem s7 {E k m : Nat} {v : Value} {cs : List Value} {w : World} (hm : .gs E k v m cs ∈ L) (S : St w0 h0 L h w) : Sl (mem w) k v m cs := by
  obtain ⟨A, B, rfl⟩ := List.append_of_mem hm
  exact aH S
theorem osP_eq (k : Nat) (v : Value) (i : Nat) : xD k v i = xD 1 v (i * k) := by
  unfold xD
  rw [Nat.mul_one]
theorem ov_len_os {E k m : Nat} {v : Value} {cs : List Value} {t E' : TypeId} {x : Operand} (hm : .gs E k v m cs ∈ L) (ht : P.underlying t = some (.slice E')) (hx : yK e x = some v) :
    OpV P n w0 h0 ⟨ds, .call { callee := .builtin .len, args := #[x], argTypes := #[t] }, ty, ps, af, gd⟩ e L h (vI (m : Int)) :=
  fun a w Ev S => rH (L := L) (h := h) ht hx (s7 hm S).one a w Ev S
theorem vE {E m k : Nat} {cs : List Value} {v : Value} {t E' : TypeId} {x y : Operand} {q : Int} (i : Nat) (hm : .gs E k v m cs ∈ L) (ht : P.underlying t = some (.slice E')) (hsz : ∀ w, (Go.sizeOf E').run P w = .ok k w) (hx : yK e x = some v) (hy : yK e y = some (vI q))
    (hq : q = (i : Int)) (hi : i < m) (hk : 0 < k) : OpV P n w0 h0 ⟨ds, .indexAddr t x y, ty, ps, af, gd⟩ e L h (xD 1 v (i * k)) := by
  intro a w Ev S
  have S' : St w (mem w) [] (mem w) w := St.begin (MLe.refl _)
  rw [← osP_eq]
  exact cE (n := n) (w0 := w) (h0 := mem w) (L := []) (h := mem w) i ht hsz hx hy (s7 hm S) hq hi hk a w Ev S'
theorem sl_range {k m o l : Nat} {v : Value} {cs : List Value} {w : World} (s : Sl (mem w) k v m cs) (hl : 0 < l) (ho : o + l ≤ cs.length) : ∃ b o', xD 1 v o = vP b (o' + o) ∧ v = .slice (some ⟨b, o', none⟩) m (match v with | .slice _ _ c => c | _ => 0) ∧ w.rangeAt b (o' + o) ((cs.drop o).take l) := by
  obtain ⟨a, cap, rfl, h1, h2, h3, h4⟩ := s
  obtain ⟨b, o', rfl, _⟩ := h4 o (by omega)
  refine ⟨b, o', by simp [xD, jZ], rfl, ?_⟩
  intro j u hj
  rw [List.getElem?_take] at hj
  split at hj
  · rw [List.getElem?_drop] at hj
    obtain ⟨hlt, _⟩ := List.getElem?_eq_some_iff.1 hj
    obtain ⟨b2, o2, e2, hc⟩ := h4 _ hlt
    simp only [Option.some.injEq, Addr.mk.injEq, and_true] at e2
    obtain ⟨rfl, rfl⟩ := e2
    rw [hj] at hc
    have := pF (MLe.refl _) hc
    rwa [← Nat.add_assoc] at this
  · cases hj
theorem uL {t E : TypeId} {x : Operand} {k off : Nat} {cs : List Value} {v : Value} {ρ : Rp α} {σ : Rp β} {g : List α → β} {s : List α → β → List α} {xs : List α} {Z : β} (T : TyOk P t σ.n σ.agg) (pc : Pc (rpA xs.length ρ) off σ g s) (ho : k = off) (hp : 0 < σ.n) (hx : yK e x = some (xD 1 v k)) (r : RL ρ h cs xs) (hZ : g xs = Z) :
    OpX P n w0 h0 ⟨ds, .load t x, ty, ps, af, gd⟩ e [.gs E ρ.n v xs.length cs] h (fun u => σ.Is h u Z) := by
  subst hZ; subst ho
  have h1 := pc.get (h := h) ⟨rfl, r⟩
  have hf : k + σ.n ≤ xs.length * ρ.n := pc.fits
  have hl := r.len
  refine ⟨_, fun L' h' _ hm a w Ev S => ?_, _, h1, rfl⟩
  obtain ⟨b, o', e1, _, hr⟩ := sl_range (s7 (hm (.gs E ρ.n v xs.length cs) (.head _)) S) hp (show k + σ.n ≤ cs.length by omega)
  rw [e1] at hx
  have := aU (P := P) (w := w) T h1 hr
  simp [execOp, Ev.eval hx, this]
theorem bI {base E k g cap m : Nat} : ∀ (vs : List Value) (off : Nat) (cs : List Value) (w : World), w.ownsRow base E k (.slice (some ⟨g, 0, none⟩) m cap) m cs →
    (w.setCells g off vs).ownsRow base E k (.slice (some ⟨g, 0, none⟩) m cap) m (nM cs off vs) ∧ w.grownBy (w.setCells g off vs) (some g)
  | [], off, cs, w, hw => ⟨hw, ⟨rfl, rfl, rfl, Nat.le_refl _, fun _ _ _ => rfl⟩⟩
  | v :: r, off, cs, w, hw => by
    obtain ⟨h1, h2⟩ := hw.stored off v
    obtain ⟨h3, h4⟩ := bI r (off + 1) (cs.set off v) _ h1
    have e1 : nM cs off (v :: r) = nM (cs.set off v) (off + 1) r := by
      unfold nM
      rw [List.zipIdx_cons, List.foldl_cons, Nat.add_zero, List.zipIdx_succ, List.foldl_map]
      congr 1
      funext c p
      rw [show off + (p.2 + 1) = off + 1 + p.2 by omega]
    refine ⟨by rw [World.setCells, e1]; exact h3, ?_⟩
    refine ⟨h4.os.trans h2.os, h4.tape.trans h2.tape, h4.output.trans h2.output, Nat.le_trans h2.size h4.size, ?_⟩
    intro b' hb' hne
    have h5 := h2.block b' hb' hne
    have h6 := h4.block b' (Nat.lt_of_lt_of_le hb' h2.size) hne
    rw [World.setCells, h6, h5]
theorem mF {E t : TypeId} {k off : Nat} {cs : List Value} {u v : Value} {x y : Operand} {ρ : Rp α} {σ : Rp β} {g : List α → β} {s : List α → β → List α} {xs Z : List α} {Y : β} (hsz : ∀ w, (Go.sizeOf t).run P w = .ok σ.n w) (pc : Pc (rpA xs.length ρ) off σ g s) (ho : k = off) (hp : 0 < σ.n) (hx : yK e x = some (xD 1 v k)) (hy : yK e y = some u) (r : RL ρ h cs xs) (ry : σ.Is h u Y) (hZ : s xs Y = Z) :
    ∃ cs', RL ρ h cs' Z ∧ ∀ A B, Upd P n w0 h0 ⟨ds, .store t x y, ty, ps, af, gd⟩ e A (.gs E ρ.n v xs.length cs) B h (.gs E ρ.n v Z.length cs') := by
  subst hZ; subst ho
  obtain ⟨vs, rv, hv⟩ := ry.cells
  have hl := σ.len rv
  have hlc := r.len
  have hf : k + σ.n ≤ xs.length * ρ.n := pc.fits
  obtain ⟨hZl, hZr⟩ := pc.set (h := h) ⟨rfl, r⟩ rv
  refine ⟨nM cs k vs, ?_, ?_⟩
  · rw [w6 _ _ _ (by omega), hl]
    exact hZr
  · intro A B a w Ev S
    rw [hZl]
    have hok : w.ownsRow w0.heap.size E ρ.n v xs.length cs := S.ok (.gs E ρ.n v xs.length cs) (by simp)
    have hok' := hok
    obtain ⟨_, hr⟩ := hok
    rcases hr with ⟨rfl, hm0⟩ | ⟨b, cap, cur, rfl, hbg, hg, hnc, hcm, hcs, htake⟩
    · rw [hm0] at hf; omega
    · have hpx : xD 1 (.slice (some ⟨b, 0, none⟩) xs.length cap) k = vP b k := by simp [xD, jZ]
      rw [hpx] at hx
      obtain ⟨h1, h2⟩ := bI vs k cs w hok'
      refine ⟨w.setCells b k vs, ?_, h2, h1⟩
      have hrun := run_storeCells_cells (P := P) b k vs 0 w (fun j hj => by
          have h4 := hok'.cellAt (k + j) (by omega)
          rw [List.getElem?_eq_getElem (by omega)] at h4
          simp [h4]) (fun j hj => by simpa using hok'.frozenAt (k + j)) (fun u hu => List.all_eq_true.1 (σ.one rv) u hu)
      simp only [Nat.add_zero] at hrun
      simp [execOp, Ev.eval hx, Ev.eval hy, Instr.storeAt, Instr.sureAddr, storeVar, hsz, hv, hl, hrun]
section
variable {A B : List Res} {op : Op} {E k m : Nat} {v : Value} {cs : List Value} {F : Nat → List Value → Prop}
theorem oW {ops : Array Oper} {rest : List Oper} {m' : Nat} {F : List Value → Prop} (hv : ∃ cs', F cs' ∧ ∀ A B, Upd P n w0 h0 ⟨none, op, ty, ps, af, none⟩ e A (.gs E k v m cs) B h (.gs E k v m' cs'))
    (kk : ∀ cs', F cs' → GL P n w0 h0 ops Q rest e (A ++ .gs E k v m' cs' :: B) h) : GL P n w0 h0 ops Q (⟨none, op, ty, ps, af, none⟩ :: rest) e (A ++ .gs E k v m cs :: B) h := by
  obtain ⟨cs', hF, hu⟩ := hv
  exact wT (hu A B) rfl rfl rfl (kk cs' hF)
theorem iD {ops : Array Oper} {RR : List Res} {al : Als} {i : Nat} {r : List (Nat × Kd)} {m' : Nat} {F : List Value → Prop} (ho : ops.getD i default = ⟨none, op, ty, ps, af, none⟩) (hv : ∃ cs', F cs' ∧ ∀ A B, Upd P n w0 h0 ⟨none, op, ty, ps, af, none⟩ e A (.gs E k v m cs) B h (.gs E k v m' cs'))
    (kk : ∀ cs', F cs' → W P n w0 h0 ops Q RR al r e (A ++ .gs E k v m' cs' :: B) h) : W P n w0 h0 ops Q RR al ((i, .t) :: r) e (A ++ .gs E k v m cs :: B) h := by
  obtain ⟨cs', hF, hu⟩ := hv
  exact gQ ho (hu A B) rfl (kk cs' hF)
end
theorem St.freezex {A B : List Res} {E : Nat} {v : Value} {cs : List Value} {ρ : Rp α} {xs : List α} {w : World} (r : RL ρ h cs xs) (S : St w0 h0 (A ++ .gs E ρ.n v xs.length cs :: B) h w) : ∃ h', MLe h h' ∧ (rpS ρ).Is h' v xs ∧ St w0 h0 (A ++ B) h' w := by
  have hok := S.ok (.gs E ρ.n v xs.length cs) (by simp)
  have hok' := hok
  obtain ⟨hl, hr⟩ := hok
  rcases hr with ⟨rfl, hm0⟩ | ⟨g, cap, cur, rfl, hb, hg, hn, hm, hcs, ht⟩
  · have hx0 : xs = [] := List.eq_nil_of_length_eq_zero hm0
    subst hx0
    exact ⟨h, MLe.refl h, cI h, S.drop⟩
  · obtain ⟨S', hle⟩ := S.freeze (b := g) (o := .cells cur E (0, 0)) rfl hg
    refine ⟨_, hle, is_s ⟨_, cap, rfl, hn, hm, hl, fun i hi => ⟨g, 0, rfl, ?_⟩⟩ (r.mono hle), S'⟩
    unfold cell
    simp only [if_true, Nat.zero_add]
    rw [← ht, List.getElem?_take, if_pos (by omega)]
    simp
section
variable {A B : List Res} {E : Nat} {v : Value} {cs : List Value} {ρ : Rp α} {xs : List α}
theorem kD {ops : Array Oper} {l : List Oper} (r : RL ρ h cs xs) (k : ∀ h', MLe h h' → (rpS ρ).Is h' v xs → GL P n w0 h0 ops Q l e (A ++ B) h') : GL P n w0 h0 ops Q l e (A ++ .gs E ρ.n v xs.length cs :: B) h := by
  intro a w Ev S
  obtain ⟨h', hle, hs, S'⟩ := S.freezex r
  exact k h' hle hs a w Ev S'
theorem gc_freezex {c : Code} (r : RL ρ h cs xs) (k : ∀ h', MLe h h' → (rpS ρ).Is h' v xs → GC P n w0 h0 c Q e (A ++ B) h') : GC P n w0 h0 c Q e (A ++ .gs E ρ.n v xs.length cs :: B) h := by
  intro a w Ev S
  obtain ⟨h', hle, hs, S'⟩ := S.freezex r
  exact k h' hle hs a w Ev S'
theorem kC {x : Exit} (r : RL ρ h cs xs) (k : ∀ h', MLe h h' → (rpS ρ).Is h' v xs → GQ n w0 h0 Q x e (A ++ B) h') : GQ n w0 h0 Q x e (A ++ .gs E ρ.n v xs.length cs :: B) h := by
  intro a w Ev S
  obtain ⟨h', hle, hs, S'⟩ := S.freezex r
  exact k h' hle hs a w Ev S'
theorem xL {o : Oper} {ops : Array Oper} {R : List Res} {W' : List (Nat × Value) → List Res → Mem → Prop} (r : RL ρ h cs xs) (hR : ∀ q ∈ R, q ∈ A ++ .gs E ρ.n v xs.length cs :: B → q ∈ A ++ B)
    (k : ∀ h', MLe h h' → (rpS ρ).Is h' v xs → jV P n w0 h0 ops R o e (A ++ B) h' W') : jV P n w0 h0 ops R o e (A ++ .gs E ρ.n v xs.length cs :: B) h W' := by
  intro X a w Ev S
  have S1 : St w0 h0 (A ++ .gs E ρ.n v xs.length cs :: (B ++ X)) h w := by simpa using S
  obtain ⟨h', hle, hs, S'⟩ := S1.freezex r
  have S2 : St w0 h0 ((A ++ B) ++ X) h' w := by simpa using S'
  refine (k h' hle hs X a w Ev S2).mono ?_
  rintro v' w' ⟨hd, L', g, hg, hk, S3, hW⟩
  exact ⟨hd, L', g, hle.trans hg, fun hh q hq => hk (fun y hy => hR y hy (hh y hy)) q hq, S3, hW⟩
end
end
end Bk
namespace Bk
set_option linter.unusedVariables false
set_option linter.unusedSimpArgs false
open Go Go.RowKit
def hH (o : Oper) : Nat := o.after.toList.foldl (fun a e => if Region.binds .any e then a ||| (1 <<< e.on) else a) 0
theorem pS (k j : Nat) : (1 <<< k).testBit j = decide (j = k) := by
  rw [Nat.one_shiftLeft, Nat.testBit_two_pow]
  exact Bool.eq_iff_iff.2 (by simp [eq_comm])
theorem pG (o : Oper) (k : Nat) : (hH o).testBit k = true ↔ ∃ e ∈ o.after, Region.binds .any e = true ∧ e.on = k := by
  have key : ∀ (l : List Edge) (a : Nat), (l.foldl (fun a e => if Region.binds .any e then a ||| (1 <<< e.on) else a) a).testBit k = true ↔ a.testBit k = true ∨ ∃ e ∈ l, Region.binds .any e = true ∧ e.on = k := by
    intro l
    induction l with
    | nil => intro a; simp
    | cons e l ih =>
      intro a
      rw [List.foldl_cons, ih]
      by_cases hb : Region.binds .any e = true
      · rw [if_pos hb, Nat.testBit_or, pS]
        simp only [Bool.or_eq_true, decide_eq_true_eq, List.mem_cons, exists_eq_or_imp, hb, true_and, or_assoc]
        constructor
        · rintro (h | h | h)
          · exact .inl h
          · exact .inr (.inl h.symm)
          · exact .inr (.inr h)
        · rintro (h | h | h)
          · exact .inl h
          · exact .inr (.inl h.symm)
          · exact .inr (.inr h)
      · rw [if_neg hb]
        simp only [List.mem_cons, exists_eq_or_imp, hb, false_and, false_or]
        simp
  unfold hH
  rw [key]
  simp
def fmask (ops : Array Oper) (ams : List Nat) (i : Nat) : Nat := (List.range ops.size).foldl (fun a j => if j == i || (ams.getD j 0).testBit i || (ops.getD i default).apart ops (ops.getD j default) then a ||| (1 <<< j) else a) 0
theorem fmask_spec (ops : Array Oper) (ams : List Nat) (i k : Nat) : (fmask ops ams i).testBit k = true → k < ops.size ∧ (k = i ∨ (ams.getD k 0).testBit i = true ∨ (ops.getD i default).apart ops (ops.getD k default) = true) := by
  have key : ∀ (l : List Nat) (a : Nat), (l.foldl (fun a j => if j == i || (ams.getD j 0).testBit i || (ops.getD i default).apart ops (ops.getD j default) then a ||| (1 <<< j) else a) a).testBit k = true → a.testBit k = true ∨ (k ∈ l ∧ (k = i ∨ (ams.getD k 0).testBit i = true ∨ (ops.getD i default).apart ops (ops.getD k default) = true)) := by
    intro l
    induction l with
    | nil => intro a h; exact .inl h
    | cons j l ih =>
      intro a h
      rw [List.foldl_cons] at h
      rcases ih _ h with h1 | ⟨h1, h2⟩
      · split at h1
        · rename_i hc
          rw [Nat.testBit_or, pS] at h1
          simp only [Bool.or_eq_true, decide_eq_true_eq] at h1
          rcases h1 with h1 | h1
          · exact .inl h1
          · subst h1
            simp only [Bool.or_eq_true, beq_iff_eq, or_assoc] at hc
            exact .inr ⟨.head _, hc⟩
        · exact .inl h1
      · exact .inr ⟨.tail _ h1, h2⟩
  intro h
  rcases key _ _ h with h1 | ⟨h1, h2⟩
  · simp at h1
  · exact ⟨List.mem_range.1 h1, h2⟩
def cX (ams : List Nat) (x i : Nat) : Bool := !x.testBit i && (ams.getD i 0 &&& x == ams.getD i 0)
def fR (ams : List Nat) (n x : Nat) : List Nat := (List.range n).filter (cX ams x)
def sO (x : Nat) (l : List Nat) : Nat := l.foldl (fun x i => x ||| (1 <<< i)) x
def cQ (ops : Array Oper) (n m : Nat) (ams frs : List Nat) : List (Nat × Kd) → Nat → List Nat → Bool
  | [], x, pend => pend.isEmpty && (fR ams n x).isEmpty
  | (i, .q) :: r, x, pend => decide (i < m) && decide (i < n) && cX ams x i && ((frs.getD i 0 ||| x) &&& (1 <<< n - 1) == 1 <<< n - 1) && !pend.contains i &&
      ((List.range n).all fun k => decide (k < m) || (ams.getD k 0).testBit i || mC ops k i) && cQ ops n m ams frs r (x ||| (1 <<< i)) pend
  | (i, .a) :: r, x, pend => pend.contains i && (fR ams n (sO x (pend.filter (· != i))) == [i]) && cQ ops n m ams frs r (x ||| (1 <<< i)) (pend.filter (· != i))
  | (i, .c) :: r, x, pend => decide (i < m) && !pend.contains i && (fR ams n (sO x pend) == [i]) && cQ ops n m ams frs r (x ||| (1 <<< i)) pend
  | (i, .b j) :: r, x, pend => decide (i < m) && decide (j < m) && !pend.contains i && !pend.contains j && decide (i ≠ j) && (fR ams n (sO x pend) == [i, j]) &&
      (fR ams n (sO (x ||| (1 <<< i)) pend) == [j]) && (fR ams n (sO (x ||| (1 <<< j)) pend) == [i]) && cQ ops n m ams frs r ((x ||| (1 <<< i)) ||| (1 <<< j)) pend
  | (i, .t) :: r, x, pend => pend.isEmpty && (r.all fun y => match y.2 with | .t => true | _ => false) && decide (m ≤ i) && (fR ams n x == [i]) && cQ ops n m ams frs r (x ||| (1 <<< i)) []
  | (i, .p) :: r, x, pend => decide (i < m) && decide (i < n) && cX ams x i && ((frs.getD i 0 ||| x) &&& (1 <<< n - 1) == 1 <<< n - 1) && !pend.contains i && cQ ops n m ams frs r (x ||| (1 <<< i)) pend
  | (i, .d i2 j) :: r, x, pend => (decide (i < m) && decide (i2 < m) && decide (j < m) && !pend.contains i && !pend.contains i2 && !pend.contains j) && (decide (i ≠ i2) && decide (i ≠ j) && decide (i2 ≠ j)) &&
      (fR ams n (sO x pend) == [i, j]) && (fR ams n (sO (x ||| (1 <<< i)) pend) == [i2, j]) && (fR ams n (sO (x ||| (1 <<< j)) pend) == [i]) &&
      (fR ams n (sO ((x ||| (1 <<< i)) ||| (1 <<< i2)) pend) == [j]) && (fR ams n (sO ((x ||| (1 <<< i)) ||| (1 <<< j)) pend) == [i2]) &&
      cQ ops n m ams frs r (((x ||| (1 <<< i)) ||| (1 <<< i2)) ||| (1 <<< j)) pend
section
variable {ops : Array Oper} {ams frs : List Nat}
def bF (ops : Array Oper) (b : Array Bool) (x : Nat) : Prop := b.size = ops.size ∧ ∀ i, i < ops.size → b[i]? = some (x.testBit i)
theorem bF.getF {b : Array Bool} {x : Nat} (h : bF ops b x) {i : Nat} (hi : i < ops.size) (d : Bool) : b.getD i d = x.testBit i := by
  rw [Array.getD_eq_getD_getElem?, h.2 i hi]; rfl
theorem bF.set {b : Array Bool} {x : Nat} (h : bF ops b x) (i : Nat) : bF ops (b.setIfInBounds i true) (x ||| (1 <<< i)) := by
  refine ⟨by simpa using h.1, fun k hk => ?_⟩
  rw [Nat.testBit_or, pS, Array.getElem?_setIfInBounds]
  by_cases e : i = k
  · subst e
    have : i < b.size := by rw [h.1]; exact hk
    simp [this]
  · rw [if_neg e, h.2 k hk]
    simp [Ne.symm e]
theorem bF.setAll {b : Array Bool} {x : Nat} (h : bF ops b x) : ∀ (l : List Nat), bF ops (setAll b l) (sO x l) := by
  intro l
  induction l generalizing b x with
  | nil => exact h
  | cons i l ih => exact ih (h.set i)
theorem bF.start : bF ops (Array.replicate ops.size false) 0 := ⟨by simp, fun i hi => by simp [hi]⟩
def cS (ops : Array Oper) (ams frs : List Nat) : Bool := (ops.toList.map hH == ams) && ((List.range ops.size).map (fmask ops ams) == frs)
theorem t7 (h : cS ops ams frs = true) {i : Nat} (hi : i < ops.size) : ams.getD i 0 = hH (ops.getD i default) := by
  simp only [cS, Bool.and_eq_true, beq_iff_eq] at h
  rw [← h.1, List.getD_eq_getElem?_getD, List.getElem?_map, Array.getElem?_toList, Array.getD_eq_getD_getElem?]
  simp [hi]
theorem tab_fr (h : cS ops ams frs = true) {i : Nat} (hi : i < ops.size) : frs.getD i 0 = fmask ops ams i := by
  simp only [cS, Bool.and_eq_true, beq_iff_eq] at h
  rw [← h.2, List.getD_eq_getElem?_getD, List.getElem?_map]
  simp [hi]
theorem on_lt (hl : ∀ o ∈ ops, ∀ e ∈ o.after, e.on < ops.size) {i : Nat} (hi : i < ops.size) {e : Edge} (he : e ∈ (ops.getD i default).after) : e.on < ops.size := by
  refine hl _ ?_ e he
  rw [Array.getD_eq_getD_getElem?, Array.getElem?_eq_getElem hi]
  exact Array.getElem_mem hi
theorem s4 (ht : cS ops ams frs = true) (hl : ∀ o ∈ ops, ∀ e ∈ o.after, e.on < ops.size) {b : Array Bool} {x i : Nat} (hs : bF ops b x) (hi : i < ops.size) :
    cX ams x i = (!b.getD i true && ((ops[i]?).map (·.after.all fun e => !Region.binds .any e || b.getD e.on false)).getD false) := by
  unfold cX
  rw [hs.getF hi, t7 ht hi]
  congr 1
  have ho : ops[i]? = some (ops.getD i default) := cL hi
  rw [ho]
  simp only [Option.map_some, Option.getD_some]
  rw [Bool.eq_iff_iff, beq_iff_eq, Array.all_eq_true_iff_forall_mem]
  constructor
  · intro h e he
    by_cases hb : Region.binds .any e = true
    · have h1 := (pG (ops.getD i default) e.on).2 ⟨e, he, hb, rfl⟩
      rw [← h, Nat.testBit_and, Bool.and_eq_true] at h1
      rw [hs.getF (on_lt hl hi he), h1.2]
      simp
    · simp [hb]
  · intro h
    apply Nat.eq_of_testBit_eq
    intro k
    rw [Nat.testBit_and]
    by_cases hk : (hH (ops.getD i default)).testBit k = true
    · obtain ⟨e, he, hb, rfl⟩ := (pG _ _).1 hk
      have h1 := h e he
      rw [hb, hs.getF (on_lt hl hi he)] at h1
      simp at h1
      rw [hk, h1]; rfl
    · have : (hH (ops.getD i default)).testBit k = false := by simpa using hk
      rw [this]; rfl
theorem jN (ht : cS ops ams frs = true) (hl : ∀ o ∈ ops, ∀ e ∈ o.after, e.on < ops.size) {b : Array Bool} {x : Nat} (hs : bF ops b x) : Region.ready .any ops b = fR ams ops.size x := by
  unfold Region.ready fR
  apply List.filter_congr
  intro i hi
  exact (s4 ht hl hs (List.mem_range.1 hi)).symm
theorem cB (ht : cS ops ams frs = true) (hl : ∀ o ∈ ops, ∀ e ∈ o.after, e.on < ops.size) {b : Array Bool} {x i : Nat} (hs : bF ops b x) (hi : i < ops.size) (h : cX ams x i = true) : (Region.ready .any ops b).contains i = true := by
  rw [jN ht hl hs]
  unfold fR
  simp [hi, h]
theorem mask_full {y n k : Nat} (h : y &&& (1 <<< n - 1) = 1 <<< n - 1) (hk : k < n) : y.testBit k = true := by
  have h1 : (1 <<< n - 1).testBit k = true := by rw [Nat.one_shiftLeft, Nat.testBit_two_pow_sub_one]; simpa using hk
  rw [← h, Nat.testBit_and, Bool.and_eq_true] at h1
  exact h1.1
theorem free_of (ht : cS ops ams frs = true) {b : Array Bool} {x i : Nat} (hs : bF ops b x) (hi : i < ops.size) (h : (frs.getD i 0 ||| x) &&& (1 <<< ops.size - 1) = 1 <<< ops.size - 1) : Region.free .any ops b i = true := by
  unfold Region.free
  rw [cL hi]
  simp only [List.all_eq_true, List.mem_range]
  intro j hj
  have h1 := mask_full h hj
  rw [Nat.testBit_or, Bool.or_eq_true, tab_fr ht hi] at h1
  rw [cL hj, hs.getF hj]
  simp only [Bool.or_eq_true, beq_iff_eq]
  rcases h1 with h1 | h1
  · obtain ⟨_, h2 | h2 | h2⟩ := fmask_spec _ _ _ _ h1
    · exact .inl (.inl h2)
    · rw [t7 ht hj] at h2
      obtain ⟨e, he, hb, ho⟩ := (pG _ _).1 h2
      refine .inr (.inl ?_)
      rw [Array.any_eq_true']
      exact ⟨e, he, by simp [hb, ho]⟩
    · exact .inr (.inr h2)
  · exact .inl (.inr h1)
theorem waits_of (ht : cS ops ams frs = true) {k i : Nat} (hk : k < ops.size) (h : (ams.getD k 0).testBit i = true) : mC ops k i = true := by
  rw [t7 ht hk] at h
  obtain ⟨e, he, hb, ho⟩ := (pG _ _).1 h
  unfold mC
  rw [Array.any_eq_true']
  refine ⟨e, he, ?_⟩
  rw [hb, ho]
  simp [lM]
theorem sX (ht : cS ops ams frs = true) (hl : ∀ o ∈ ops, ∀ e ∈ o.after, e.on < ops.size) {m : Nat} : ∀ (ord : List (Nat × Kd)) (b : Array Bool) (x : Nat) (pend : List Nat), bF ops b x → cQ ops ops.size m ams frs ord x pend = true → chk ops m ord b pend = true
  | [], b, x, pend, hs, h => by
    simp only [cQ, Bool.and_eq_true] at h
    simp only [chk, Bool.and_eq_true, jN ht hl hs]
    exact h
  | (i, .q) :: r, b, x, pend, hs, h => by
    simp only [cQ, Bool.and_eq_true, beq_iff_eq, decide_eq_true_eq] at h
    obtain ⟨⟨⟨⟨⟨⟨h1, h2⟩, h3⟩, h4⟩, h5⟩, h6⟩, h7⟩ := h
    simp only [chk, Bool.and_eq_true, decide_eq_true_eq]
    refine ⟨⟨⟨⟨⟨h1, cB ht hl hs h2 h3⟩, free_of ht hs h2 h4⟩, h5⟩, ?_⟩, sX ht hl r _ _ _ (hs.set i) h7⟩
    rw [List.all_eq_true] at h6 ⊢
    intro k hk
    have := h6 k hk
    simp only [Bool.or_eq_true] at this ⊢
    rcases this with (h8 | h8) | h8
    · exact .inl h8
    · exact .inr (waits_of ht (List.mem_range.1 hk) h8)
    · exact .inr h8
  | (i, .a) :: r, b, x, pend, hs, h => by
    simp only [cQ, Bool.and_eq_true] at h
    obtain ⟨⟨h1, h2⟩, h3⟩ := h
    simp only [chk, Bool.and_eq_true, jN ht hl (hs.setAll _)]
    exact ⟨⟨h1, h2⟩, sX ht hl r _ _ _ (hs.set i) h3⟩
  | (i, .c) :: r, b, x, pend, hs, h => by
    simp only [cQ, Bool.and_eq_true] at h
    obtain ⟨⟨⟨h1, h2⟩, h3⟩, h4⟩ := h
    simp only [chk, Bool.and_eq_true, jN ht hl (hs.setAll _)]
    exact ⟨⟨⟨h1, h2⟩, h3⟩, sX ht hl r _ _ _ (hs.set i) h4⟩
  | (i, .b j) :: r, b, x, pend, hs, h => by
    simp only [cQ, Bool.and_eq_true] at h
    obtain ⟨⟨⟨⟨⟨⟨⟨⟨h1, h2⟩, h3⟩, h4⟩, h5⟩, h6⟩, h7⟩, h8⟩, h9⟩ := h
    simp only [chk, Bool.and_eq_true, jN ht hl (hs.setAll _), jN ht hl ((hs.set i).setAll _), jN ht hl ((hs.set j).setAll _)]
    exact ⟨⟨⟨⟨⟨⟨⟨⟨h1, h2⟩, h3⟩, h4⟩, h5⟩, h6⟩, h7⟩, h8⟩, sX ht hl r _ _ _ ((hs.set i).set j) h9⟩
  | (i, .t) :: r, b, x, pend, hs, h => by
    simp only [cQ, Bool.and_eq_true] at h
    obtain ⟨⟨⟨⟨h1, h2⟩, h3⟩, h4⟩, h5⟩ := h
    simp only [chk, Bool.and_eq_true, jN ht hl hs]
    exact ⟨⟨⟨⟨h1, h2⟩, h3⟩, h4⟩, sX ht hl r _ _ _ (hs.set i) h5⟩
  | (i, .p) :: r, b, x, pend, hs, h => by
    simp only [cQ, Bool.and_eq_true, beq_iff_eq, decide_eq_true_eq] at h
    obtain ⟨⟨⟨⟨⟨h1, h2⟩, h3⟩, h4⟩, h5⟩, h7⟩ := h
    simp only [chk, Bool.and_eq_true, decide_eq_true_eq]
    exact ⟨⟨⟨⟨h1, cB ht hl hs h2 h3⟩, free_of ht hs h2 h4⟩, h5⟩, sX ht hl r _ _ _ (hs.set i) h7⟩
  | (i, .d i2 j) :: r, b, x, pend, hs, h => by
    simp only [cQ, Bool.and_eq_true] at h
    obtain ⟨⟨⟨⟨⟨⟨⟨h1, h2⟩, h3⟩, h4⟩, h5⟩, h6⟩, h7⟩, h8⟩ := h
    simp only [chk, Bool.and_eq_true, jN ht hl (hs.setAll _), jN ht hl ((hs.set i).setAll _), jN ht hl ((hs.set j).setAll _), jN ht hl (((hs.set i).set i2).setAll _), jN ht hl (((hs.set i).set j).setAll _)]
    exact ⟨⟨⟨⟨⟨⟨⟨h1, h2⟩, h3⟩, h4⟩, h5⟩, h6⟩, h7⟩, sX ht hl r _ _ _ (((hs.set i).set i2).set j) h8⟩
def chkAll (l : List Oper) (m : Nat) (ams frs : List Nat) (al : Als) (ord : List (Nat × Kd)) : Bool :=
  Region.noSelect l.toArray && sY l.toArray al && (al.all fun x => decide (x.1 < m)) && (l.all fun o => o.after.all fun e => decide (e.on < l.length)) && cS l.toArray ams frs && cQ l.toArray l.length m ams frs ord 0 (al.map (·.1))
theorem gD {l : List Oper} {m : Nat} {al : Als} {ord : List (Nat × Kd)} (ams frs : List Nat) (h : chkAll l m ams frs al ord = true) :
    (Region.noSelect l.toArray && sY l.toArray al && (al.all fun x => decide (x.1 < m)) && chk l.toArray m ord (Array.replicate l.length false) (al.map (·.1))) = true := by
  simp only [chkAll, Bool.and_eq_true] at h
  obtain ⟨⟨⟨⟨⟨h1, h2⟩, h3⟩, h4⟩, h5⟩, h6⟩ := h
  simp only [Bool.and_eq_true]
  refine ⟨⟨⟨h1, h2⟩, h3⟩, ?_⟩
  have hl : ∀ o ∈ l.toArray, ∀ e ∈ o.after, e.on < l.toArray.size := by
    intro o ho e he
    have := List.all_eq_true.1 h4 o (by simpa using ho)
    have := Array.all_eq_true_iff_forall_mem.1 this e he
    simpa using this
  exact sX h5 hl ord _ 0 _ bF.start h6
end
end Bk
namespace Go.Proofs.YtghhjjmjpeehdaaGreat
open Bk Go
theorem ty3 : TyOk Tryz.prog 3 1 false := ⟨Tryz.sizeOf3, Tryz.isAgg3⟩
theorem wA : TyOk Tryz.prog 30 3 true := ⟨Tryz.sizeOf30, Tryz.isAgg30⟩
theorem xG : TyOk Tryz.prog 32 9 true := ⟨Tryz.sizeOf32, Tryz.isAgg32⟩
theorem kE : TyOk Tryz.prog 34 12 true := ⟨Tryz.sizeOf34, Tryz.isAgg34⟩
theorem ty66 : TyOk Tryz.prog 66 3 true := ⟨Tryz.sizeOf66, Tryz.isAgg66⟩
end Go.Proofs.YtghhjjmjpeehdaaGreat
namespace Go.Proofs.YtghhjjmjpeehdaaGreat
open Bk Go
set_option linter.unusedVariables false
set_option linter.unusedSimpArgs false
set_option maxRecDepth 10000
theorem tZ {w0 : World} {h0 : Mem} (hs : MLe h0 (mem w0)) {k l : Nat} {va : Value} {a : Rat} (ra : (rpQ k).Is h0 va a) {vb : Value} {b : Rat} (rb : (rpQ l).Is h0 vb b) (hcd0 : k + l ≤ 10000000000)  :
    Calls Tryz.prog 71 #[va, vb] w0 (Ret w0 h0 (fun h r => (rpQ (k + l + 1)).Is h r (a + b))) := by
  obtain ⟨vna, vda, rfl, hna, hda, hla⟩ := uP ra
  obtain ⟨vnb, vdb, rfl, hnb, hdb, hlb⟩ := uP rb
  exact (rat_add hs hna hda hnb hdb (by omega) (by omega) ).mono (jI fun h r x => bD x (by have := rY a b; omega))
theorem gT {w0 : World} {h0 : Mem} (hs : MLe h0 (mem w0)) {k l : Nat} {va : Value} {a : Rat} (ra : (rpQ k).Is h0 va a) {vb : Value} {b : Rat} (rb : (rpQ l).Is h0 vb b) (hcd0 : k + l ≤ 10000000000)  :
    Calls Tryz.prog 70 #[va, vb] w0 (Ret w0 h0 (fun h r => (rpQ (k + l + 1)).Is h r (a - b))) := by
  obtain ⟨vna, vda, rfl, hna, hda, hla⟩ := uP ra
  obtain ⟨vnb, vdb, rfl, hnb, hdb, hlb⟩ := uP rb
  exact (rat_sub hs hna hda hnb hdb (by omega) (by omega) ).mono (jI fun h r x => bD x (by have := oR a b; omega))
theorem fX {w0 : World} {h0 : Mem} (hs : MLe h0 (mem w0)) {k l : Nat} {va : Value} {a : Rat} (ra : (rpQ k).Is h0 va a) {vb : Value} {b : Rat} (rb : (rpQ l).Is h0 vb b) (hcd0 : k + l ≤ 10000000000)  :
    Calls Tryz.prog 103 #[va, vb] w0 (Ret w0 h0 (fun h r => (rpQ (k + l)).Is h r (a * b))) := by
  obtain ⟨vna, vda, rfl, hna, hda, hla⟩ := uP ra
  obtain ⟨vnb, vdb, rfl, hnb, hdb, hlb⟩ := uP rb
  exact (rat_mul hs hna hda hnb hdb (by omega) (by omega) ).mono (jI fun h r x => bD x (by have := oS a b; omega))
theorem o_rat_min {w0 : World} {h0 : Mem} (hs : MLe h0 (mem w0)) {k : Nat} {va : Value} {a : Rat} (ra : (rpQ k).Is h0 va a) {vb : Value} {b : Rat} (rb : (rpQ k).Is h0 vb b) (hcd0 : k ≤ 10000000000)  :
    Calls Tryz.prog 67 #[va, vb] w0 (Ret w0 h0 (fun h r => (rpQ k).Is h r (kL a b))) := by
  obtain ⟨vna, vda, rfl, hna, hda, hla⟩ := uP ra
  obtain ⟨vnb, vdb, rfl, hnb, hdb, hlb⟩ := uP rb
  exact (rat_min hs hna hda hnb hdb (by omega) (by omega) ).mono (jI fun h r x => bD x (by have := lq_min a b; omega))
theorem o_rat_max {w0 : World} {h0 : Mem} (hs : MLe h0 (mem w0)) {k : Nat} {va : Value} {a : Rat} (ra : (rpQ k).Is h0 va a) {vb : Value} {b : Rat} (rb : (rpQ k).Is h0 vb b) (hcd0 : k ≤ 10000000000)  :
    Calls Tryz.prog 68 #[va, vb] w0 (Ret w0 h0 (fun h r => (rpQ k).Is h r (kI a b))) := by
  obtain ⟨vna, vda, rfl, hna, hda, hla⟩ := uP ra
  obtain ⟨vnb, vdb, rfl, hnb, hdb, hlb⟩ := uP rb
  exact (rat_max hs hna hda hnb hdb (by omega) (by omega) ).mono (jI fun h r x => bD x (by have := lq_max a b; omega))
theorem iM {w0 : World} {h0 : Mem} (hs : MLe h0 (mem w0)) {k l : Nat} {va : Value} {a : Rat} (ra : (rpQ k).Is h0 va a) {vb : Value} {b : Rat} (rb : (rpQ l).Is h0 vb b) (hcd0 : k + l ≤ 10000000000)  :
    Calls Tryz.prog 104 #[va, vb] w0 (Ret w0 h0 (fun _ r => r = vI (kF a b))) := by
  obtain ⟨vna, vda, rfl, hna, hda, hla⟩ := uP ra
  obtain ⟨vnb, vdb, rfl, hnb, hdb, hlb⟩ := uP rb
  exact dD hs hna hda hnb hdb (by omega) (by omega)
theorem bP {w0 : World} {h0 : Mem} (hs : MLe h0 (mem w0)) {k : Nat} {va : Value} {a : Rat} (ra : (rpQ k).Is h0 va a) (hcd0 : k ≤ 10000000000)  :
    Calls Tryz.prog 101 #[va] w0 (Ret w0 h0 (fun _ r => r = vI (uY a))) := by
  obtain ⟨vna, vda, rfl, hna, hda, hla⟩ := uP ra
  exact aE hs hna hda (by omega)
theorem bQ {w0 : World} {h0 : Mem} (hs : MLe h0 (mem w0)) {k l : Nat} {va : Value} {a : Rat} (ra : (rpQ k).Is h0 va a) {vb : Value} {b : Rat} (rb : (rpQ l).Is h0 vb b) (hcd0 : k + l ≤ 10000000000)  :
    Calls Tryz.prog 122 #[va, vb] w0 (Ret w0 h0 (fun _ r => r = vB (a = b))) := by
  obtain ⟨vna, vda, rfl, hna, hda, hla⟩ := uP ra
  obtain ⟨vnb, vdb, rfl, hnb, hdb, hlb⟩ := uP rb
  exact rat_same hs hna hda hnb hdb (by omega) (by omega)
theorem o_rat_quo {w0 : World} {h0 : Mem} (hs : MLe h0 (mem w0)) {k l : Nat} {va : Value} {a : Rat} (ra : (rpQ k).Is h0 va a) {vb : Value} {b : Rat} (rb : (rpQ l).Is h0 vb b) (hcd0 : k + l ≤ 10000000000)  :
    Calls Tryz.prog 110 #[va, vb] w0 (Ret w0 h0 (fun h r => ∃ u0, r = .tuple #[u0, vI (if b = 0 then 3 else 0)] ∧ (rpQ (k + l)).Is h u0 (if b = 0 then 0 else a / b))) := by
  obtain ⟨vna, vda, rfl, hna, hda, hla⟩ := uP ra
  obtain ⟨vnb, vdb, rfl, hnb, hdb, hlb⟩ := uP rb
  exact (rat_quo hs hna hda hnb hdb (by omega) (by omega) ).mono (jI fun h r x => by obtain ⟨u, e, y⟩ := x; exact ⟨u, e, bD y (by have := lq_quo' a b; omega)⟩)
theorem gL {w0 : World} {h0 : Mem} (hs : MLe h0 (mem w0)) {k l : Nat} {va : Value} {a : Rat} (ra : (rpQ k).Is h0 va a) {vb : Value} {b : Rat} (rb : (rpQ l).Is h0 vb b) (hcd0 : k + l ≤ 10000000000)  :
    Calls Tryz.prog 53 #[va, vb] w0 (Ret w0 h0 (fun h r => (rpQ (k + l + 1)).Is h r (a + b))) := by
  obtain ⟨vna, vda, rfl, hna, hda, hla⟩ := uP ra
  obtain ⟨vnb, vdb, rfl, hnb, hdb, hlb⟩ := uP rb
  exact (x8 hs hna hda hnb hdb (by omega) (by omega) ).mono (jI fun h r x => bD x (by have := rY a b; omega))
theorem qZ {w0 : World} {h0 : Mem} (hs : MLe h0 (mem w0)) {k l : Nat} {va : Value} {a : Rat} (ra : (rpQ k).Is h0 va a) {vb : Value} {b : Rat} (rb : (rpQ l).Is h0 vb b) (hcd0 : k + l ≤ 10000000000)  :
    Calls Tryz.prog 56 #[va, vb] w0 (Ret w0 h0 (fun h r => (rpQ (k + l + 1)).Is h r (a - b))) := by
  obtain ⟨vna, vda, rfl, hna, hda, hla⟩ := uP ra
  obtain ⟨vnb, vdb, rfl, hnb, hdb, hlb⟩ := uP rb
  exact (rref_sub hs hna hda hnb hdb (by omega) (by omega) ).mono (jI fun h r x => bD x (by have := oR a b; omega))
theorem jA {w0 : World} {h0 : Mem} (hs : MLe h0 (mem w0)) {k l : Nat} {va : Value} {a : Rat} (ra : (rpQ k).Is h0 va a) {vb : Value} {b : Rat} (rb : (rpQ l).Is h0 vb b) (hcd0 : k + l ≤ 10000000000)  :
    Calls Tryz.prog 54 #[va, vb] w0 (Ret w0 h0 (fun h r => (rpQ (k + l)).Is h r (a * b))) := by
  obtain ⟨vna, vda, rfl, hna, hda, hla⟩ := uP ra
  obtain ⟨vnb, vdb, rfl, hnb, hdb, hlb⟩ := uP rb
  exact (rref_mul hs hna hda hnb hdb (by omega) (by omega) ).mono (jI fun h r x => bD x (by have := oS a b; omega))
theorem oC {w0 : World} {h0 : Mem} (hs : MLe h0 (mem w0)) {k : Nat} {va : Value} {a : Rat} (ra : (rpQ k).Is h0 va a) {vb : Value} {b : Rat} (rb : (rpQ k).Is h0 vb b) (hcd0 : k ≤ 10000000000)  :
    Calls Tryz.prog 74 #[va, vb] w0 (Ret w0 h0 (fun h r => (rpQ k).Is h r (kL a b))) := by
  obtain ⟨vna, vda, rfl, hna, hda, hla⟩ := uP ra
  obtain ⟨vnb, vdb, rfl, hnb, hdb, hlb⟩ := uP rb
  exact (rref_min hs hna hda hnb hdb (by omega) (by omega) ).mono (jI fun h r x => bD x (by have := lq_min a b; omega))
theorem oD {w0 : World} {h0 : Mem} (hs : MLe h0 (mem w0)) {k : Nat} {va : Value} {a : Rat} (ra : (rpQ k).Is h0 va a) {vb : Value} {b : Rat} (rb : (rpQ k).Is h0 vb b) (hcd0 : k ≤ 10000000000)  :
    Calls Tryz.prog 75 #[va, vb] w0 (Ret w0 h0 (fun h r => (rpQ k).Is h r (kI a b))) := by
  obtain ⟨vna, vda, rfl, hna, hda, hla⟩ := uP ra
  obtain ⟨vnb, vdb, rfl, hnb, hdb, hlb⟩ := uP rb
  exact (rref_max hs hna hda hnb hdb (by omega) (by omega) ).mono (jI fun h r x => bD x (by have := lq_max a b; omega))
theorem gK {w0 : World} {h0 : Mem} (hs : MLe h0 (mem w0)) {k : Nat} {va : Value} {a : Rat} (ra : (rpQ k).Is h0 va a) (hcd0 : k ≤ 10000000000)  :
    Calls Tryz.prog 50 #[va] w0 (Ret w0 h0 (fun _ r => r = vI (uY a))) := by
  obtain ⟨vna, vda, rfl, hna, hda, hla⟩ := uP ra
  exact lQ hs hna hda (by omega)
theorem cF {w0 : World} {h0 : Mem} (hs : MLe h0 (mem w0)) {k l : Nat} {va : Value} {a : Rat} (ra : (rpQ k).Is h0 va a) {vb : Value} {b : Rat} (rb : (rpQ l).Is h0 vb b) (hcd0 : k + l ≤ 10000000000)  :
    Calls Tryz.prog 62 #[va, vb] w0 (Ret w0 h0 (fun _ r => r = vB (a = b))) := by
  obtain ⟨vna, vda, rfl, hna, hda, hla⟩ := uP ra
  obtain ⟨vnb, vdb, rfl, hnb, hdb, hlb⟩ := uP rb
  exact rref_same hs hna hda hnb hdb (by omega) (by omega)
theorem oB {w0 : World} {h0 : Mem} (hs : MLe h0 (mem w0)) {k l : Nat} {va : Value} {a : Rat} (ra : (rpQ k).Is h0 va a) {vb : Value} {b : Rat} (rb : (rpQ l).Is h0 vb b) (hcd0 : k + l ≤ 10000000000)  :
    Calls Tryz.prog 88 #[va, vb] w0 (Ret w0 h0 (fun h r => ∃ u0, r = .tuple #[u0, vI (if b = 0 then 3 else 0)] ∧ (rpQ (k + l)).Is h u0 (if b = 0 then 0 else a / b))) := by
  obtain ⟨vna, vda, rfl, hna, hda, hla⟩ := uP ra
  obtain ⟨vnb, vdb, rfl, hnb, hdb, hlb⟩ := uP rb
  exact (rref_quo hs hna hda hnb hdb (by omega) (by omega) ).mono (jI fun h r x => by obtain ⟨u, e, y⟩ := x; exact ⟨u, e, bD y (by have := lq_quo' a b; omega)⟩)
theorem jB {w0 : World} {h0 : Mem} (hs : MLe h0 (mem w0)) {n : Int} (hn1 : -9223372036854775808 ≤ n) (hn2 : n < 9223372036854775808)  :
    Calls Tryz.prog 45 #[vI n] w0 (Ret w0 h0 (fun h r => (rpQ 2).Is h r ((n : Int) : Rat))) := by
  exact (rref_int hs   hn1 hn2).mono (jI fun h r x => bD x (by exact lq_int n hn1 hn2))
theorem kM {w0 : World} {h0 : Mem} (hs : MLe h0 (mem w0)) {n : Int} (hn1 : -9223372036854775808 ≤ n) (hn2 : n < 9223372036854775808) {d : Int} (hd1 : -9223372036854775808 ≤ d) (hd2 : d < 9223372036854775808)  :
    Calls Tryz.prog 46 #[vI n, vI d] w0 (Ret w0 h0 (fun h r => (rpQ 2).Is h r (wU n d))) := by
  exact (rref_frac hs   hn1 hn2 hd1 hd2).mono (jI fun h r x => bD x (by exact dN hn1 hn2 hd1 hd2))
end Go.Proofs.YtghhjjmjpeehdaaGreat
namespace Bk
set_option linter.unusedVariables false
set_option linter.unusedSimpArgs false
open Go Go.RowKit
open Classical
end Bk
namespace Bk
set_option linter.unusedVariables false
set_option linter.unusedSimpArgs false
open Go Go.RowKit
open Classical
theorem aA (q : Rat) : uY q = if q = 0 then 0 else if q < 0 then -1 else 1 := by unfold uY; simp only [cH]
theorem eD (a b : Rat) : kF a b = uY (a - b) := by rw [aA]; unfold kF; grind
theorem lt_tri (a b : Rat) : a < b ∨ a = b ∨ b < a := by grind
theorem cmpQ_mul (a b c : Rat) : kF (a * c) (b * c) = kF a b * uY c := by
  rw [aA]
  by_cases h0 : c = 0
  · subst h0
    have : kF (a * 0) (b * 0) = 0 := cmpQ_zero.2 (by grind)
    rw [this, if_pos rfl, Int.mul_zero]
  · rw [if_neg h0]
    by_cases hc : c < 0
    · rw [if_pos hc]
      rcases lt_tri a b with h | h | h
      · have h1 : b * c < a * c := by
          have := Rat.mul_lt_mul_of_pos_right h (c := -c) (by grind)
          grind
        unfold kF; grind
      · subst h; unfold kF; simp
      · have h1 : a * c < b * c := by
          have := Rat.mul_lt_mul_of_pos_right h (c := -c) (by grind)
          grind
        unfold kF; grind
    · rw [if_neg hc]
      have hc' : 0 < c := by grind
      rcases lt_tri a b with h | h | h
      · have h1 := Rat.mul_lt_mul_of_pos_right h hc'
        unfold kF; grind
      · subst h; unfold kF; simp
      · have h1 := Rat.mul_lt_mul_of_pos_right h hc'
        unfold kF; grind
theorem qI {x y : Int} (hx : -1 ≤ x ∧ x ≤ 1) (hy : -1 ≤ y ∧ y ≤ 1) : -1 ≤ x * y ∧ x * y ≤ 1 := by
  have : x = -1 ∨ x = 0 ∨ x = 1 := by omega
  rcases this with h | h | h <;> subst h <;> omega
theorem pow_pos (k : Int) : (0 : Rat) < ((2 ^ kN k : Nat) : Rat) := by
  have : (0 : Rat) = ((0 : Nat) : Rat) := rfl
  rw [this, Rat.natCast_lt_natCast]
  exact Nat.pow_pos (by omega)
end Bk
namespace Bk
set_option linter.unusedVariables false
set_option linter.unusedSimpArgs false
open Go Go.RowKit
open Classical
theorem le_tot (a b : Rat) : a ≤ b ∨ b ≤ a := by grind
theorem dL (a b : Rat) : kL a b ≤ a ∧ kL a b ≤ b := by unfold kL; split <;> grind
theorem dM (a b : Rat) : a ≤ kI a b ∧ b ≤ kI a b := by unfold kI; split <;> grind
def aZ (a b r : Rat) : Prop := a ≤ r ∧ r ≤ b
noncomputable def pJ (a b c d : Rat) : Rat := kL (kL (kL (a * c) (a * d)) (b * c)) (b * d)
noncomputable def pK (a b c d : Rat) : Rat := kI (kI (kI (a * c) (a * d)) (b * c)) (b * d)
noncomputable def k6 (a : Rat) : Rat := if a = 0 then 0 else ((1 : Int) : Rat) / a
noncomputable def sqrLo (a b : Rat) : Rat := if aZ a b 0 then 0 else kL (a * a) (b * b)
noncomputable def sqrHi (a b : Rat) : Rat := kI (a * a) (b * b)
theorem aS {a b c : Rat} (h : a ≤ b) (hc : 0 ≤ c) : a * c ≤ b * c := Rat.mul_le_mul_of_nonneg_right h hc
theorem lin_lo {a b x c : Rat} (h1 : a ≤ x) (h2 : x ≤ b) : a * c ≤ x * c ∨ b * c ≤ x * c := by
  rcases le_tot 0 c with hc | hc
  · exact .inl (aS h1 hc)
  · refine .inr ?_
    have := aS (c := -c) h2 (by grind)
    grind
theorem lin_hi {a b x c : Rat} (h1 : a ≤ x) (h2 : x ≤ b) : x * c ≤ a * c ∨ x * c ≤ b * c := by
  rcases le_tot 0 c with hc | hc
  · exact .inr (aS h2 hc)
  · refine .inl ?_
    have := aS (c := -c) h1 (by grind)
    grind
theorem nW {a b c d r s : Rat} (hr : aZ a b r) (hs : aZ c d s) : aZ (pJ a b c d) (pK a b c d) (r * s) := by
  obtain ⟨h1, h2⟩ := hr
  obtain ⟨h3, h4⟩ := hs
  have e : ∀ x y : Rat, x * y = y * x := Rat.mul_comm
  have m1 := dL (kL (kL (a * c) (a * d)) (b * c)) (b * d); have m2 := dL (kL (a * c) (a * d)) (b * c); have m3 := dL (a * c) (a * d)
  have n1 := dM (kI (kI (a * c) (a * d)) (b * c)) (b * d); have n2 := dM (kI (a * c) (a * d)) (b * c); have n3 := dM (a * c) (a * d)
  have l1 := lin_lo (c := s) h1 h2
  have l2 := lin_lo (c := a) h3 h4
  have l3 := lin_lo (c := b) h3 h4
  have u1 := lin_hi (c := s) h1 h2
  have u2 := lin_hi (c := a) h3 h4
  have u3 := lin_hi (c := b) h3 h4
  rw [e c a, e d a, e s a] at l2 u2
  rw [e c b, e d b, e s b] at l3 u3
  unfold aZ pJ pK
  constructor <;> grind
theorem oO (a b : Rat) : kL a b = a ∨ kL a b = b := by unfold kL; split <;> simp
theorem oP (a b : Rat) : kI a b = a ∨ kI a b = b := by unfold kI; split <;> simp
theorem hasP_lo {a b : Rat} (h : a ≤ b) : aZ a b a := ⟨Rat.le_refl, h⟩
theorem hasP_hi {a b : Rat} (h : a ≤ b) : aZ a b b := ⟨h, Rat.le_refl⟩
theorem mulLo_mem (a b c d : Rat) : pJ a b c d = a * c ∨ pJ a b c d = a * d ∨ pJ a b c d = b * c ∨ pJ a b c d = b * d := by
  unfold pJ
  have h1 := oO (kL (kL (a * c) (a * d)) (b * c)) (b * d); have h2 := oO (kL (a * c) (a * d)) (b * c); have h3 := oO (a * c) (a * d)
  grind
theorem mulHi_mem (a b c d : Rat) : pK a b c d = a * c ∨ pK a b c d = a * d ∨ pK a b c d = b * c ∨ pK a b c d = b * d := by
  unfold pK
  have h1 := oP (kI (kI (a * c) (a * d)) (b * c)) (b * d); have h2 := oP (kI (a * c) (a * d)) (b * c); have h3 := oP (a * c) (a * d)
  grind
theorem mul_sub {a b c d x y : Rat} (hcd : c ≤ d) (hx : aZ a b x) (hy : aZ a b y) : aZ (pJ a b c d) (pK a b c d) (pJ x y c d) ∧ aZ (pJ a b c d) (pK a b c d) (pK x y c d) := by
  have h1 := nW hx (hasP_lo hcd); have h2 := nW hx (hasP_hi hcd); have h3 := nW hy (hasP_lo hcd); have h4 := nW hy (hasP_hi hcd)
  constructor
  · rcases mulLo_mem x y c d with h | h | h | h <;> rw [h] <;> assumption
  · rcases mulHi_mem x y c d with h | h | h | h <;> rw [h] <;> assumption
noncomputable def quoLo (a b c d : Rat) : Rat := if aZ c d 0 then 0 else pJ a b (kL (k6 c) (k6 d)) (kI (k6 c) (k6 d))
noncomputable def quoHi (a b c d : Rat) : Rat := if aZ c d 0 then 0 else pK a b (kL (k6 c) (k6 d)) (kI (k6 c) (k6 d))
noncomputable def quoE (c d : Rat) : Int := if aZ c d 0 then 3 else 0
end Bk
namespace Go.Proofs.YtghhjjmjpeehdaaGreat
open Bk Go
set_option linter.unusedVariables false
set_option linter.unusedSimpArgs false
set_option maxRecDepth 10000
end Go.Proofs.YtghhjjmjpeehdaaGreat
namespace Go.Proofs.YtghhjjmjpeehdaaGreat
open Bk Go
set_option linter.unusedVariables false
set_option linter.unusedSimpArgs false
set_option maxRecDepth 10000
theorem made_mod {w0 : World} {h0 : Mem}  (hs : MLe h0 (mem w0)) {n m : Int} (hm : 0 < m) (hm2 : m < 4611686018427387904) :
    Calls Tryz.prog 55 #[vI n, vI m] w0 (Ret w0 h0 (fun _ r => r = vI (eV n m))) := by
 have htr := mJ n hm
 refine zP (n := 14) (e := [(0, vI n), (1, vI m)]) (vs := [vI n, vI m]) Tryz.func55 rfl rfl (Nat.le_of_ble_eq_true rfl) hs ⟨rfl, rfl, trivial⟩ (zC (zA (asg (v := vI (0)) rfl rfl (zD (zB (zC (zA (mv rfl rfl (mv rfl rfl (gv (ov_remt_i rfl rfl (by omega)) rfl (asg rfl rfl (zD (zB ?_)))))))))))))
 refine zC (zC (zA (mv rfl rfl (gv (zW (q := 0) rfl rfl) rfl (zD (zB ?_))))))
 refine zO rfl (fun hc9 => ?_) (fun hc9 => ?_)
 ·
  refine zA (mv rfl rfl (mv rfl rfl (gv (zQ rfl rfl (by omega) (by omega)) rfl (asg rfl rfl (zD (zJ (e' := [(0, _)]) ⟨rfl, trivial⟩ (zB (zC (zA (mv rfl rfl (asg rfl rfl (zD (zB ?_)))))))))))))
  refine zR (yJ rfl rfl ?_)
  rw [eV, if_pos hc9]
 refine zL (zB (zC (zA (mv rfl rfl (asg rfl rfl (zD (zB (zR (yJ rfl rfl ?_)))))))))
 rw [eV, if_neg hc9]
theorem made_light {w0 : World} {h0 : Mem}  (hs : MLe h0 (mem w0)) {vl : Value} {xs : List Int} (hl : Is h0 vl xs) :
    Calls Tryz.prog 9 #[vl] w0 (Ret w0 h0 (fun _ r => r = vB ((↑xs.length : Int) ≤ 500))) := by
 refine zP (n := 6) (e := [(0, vl)]) (vs := [vl]) Tryz.func9 rfl rfl (Nat.le_of_ble_eq_true rfl) hs ⟨rfl, trivial⟩ (zC (zA (asg rfl rfl (zD (zB (zC (zA (mv rfl rfl (gv (iL Tryz.underlying22 rfl hl) rfl (gv (sI (q := 500) rfl rfl) rfl (asg rfl rfl (zD (zB ?_)))))))))))))
 refine zR (yJ rfl rfl ?_)
 rfl
theorem made_roll {w0 : World} {h0 : Mem}  (hs : MLe h0 (mem w0)) {vl : Value} {xs : List Int} (hl : Is h0 vl xs) :
    Calls Tryz.prog 11 #[vl] w0 (rD w0 h0 (fun _ r L => ∃ b, r = vP b 0 ∧ L = [.var b 65 [vl, vI ↑0]])) := by
 refine zP (n := 6) (e := [(0, vl)]) (vs := [vl]) Tryz.func11 rfl rfl (Nat.le_of_ble_eq_true rfl) hs ⟨rfl, trivial⟩ (zC (zA (asg rfl rfl (zD (zB (zC (zA (mv rfl rfl (gv (wN (ps' := [(0, _)]) (vs := [vl, vI 0]) Tryz.underlying65 info65 rfl (places65 Tryz.underlying65) ⟨rfl, rfl, trivial⟩ (wX (A := []) (B := [_]) (C := [_]) (cs := [_]) (off := 0) (size := 1) rfl rfl rfl rfl hl.cells qD)) rfl (zK (wW (cs := [_, _]) rfl rfl) rfl rfl rfl ?_))))))))))
 intro v5 r5 hr5
 obtain ⟨b5, rfl, rfl⟩ := hr5
 refine asg rfl rfl (zD (zB (zR (jK rfl rfl ?_))))
 exact ⟨_, rfl, rfl⟩
theorem uQ {w0 w : World} {h0 h : Mem} {b k : Nat} {vl : Value} {xs : List Int} (hl : Is h vl xs) (hk : k ≤ xs.length) {n : Int} (hn : 0 < n) (hn2 : n < 4611686018427387904) {L : List Res} (hs : St w0 h0 (.var b 65 [vl, vI ↑k] :: L) h w) :
    Calls Tryz.prog 22 #[vP b 0, vI n] w (bS w0 h0 h L (fun g r q' => ∃ k' : Nat, ∃ z, q' = .var b 65 [vl, vI ↑k'] ∧ k' ≤ xs.length ∧ (r = vI z ∧ 0 ≤ z ∧ z < n))) := by
 have hlen := hl.lt63
 refine kK (n := 35) (e := [(0, vP b 0), (1, vI n)]) (vs := [vP b 0, vI n]) Tryz.func22 rfl rfl (Nat.le_of_ble_eq_true rfl) hs ⟨rfl, rfl, trivial⟩ (zC (zA (asg (v := vI (0)) rfl rfl (zD (zB (zC (zC ?_)))))))
 refine yI 10 _ [] [(0, .q), (1, .q), (2, .q), (3, .q), (4, .q), (5, .q), (6, .q), (7, .q), (8, .q), (9, .q)] xI (fun x hx => by cases hx) (by kernel_rfl) (fun x hx => by cases hx) (fun r hr => hr) (w_q rfl (fun h' L' hh hR => zG rfl) rfl (w_q rfl (fun h' L' hh hR => fW rfl) rfl (w_q rfl (fun h' L' hh hR => zI Tryz.underlying65 rfl Tryz.sizeOf3 rfl) rfl (w_q rfl (fun h' L' hh hR => zU (hR _ (.head _)) Tryz.isAgg3 rfl rfl) rfl (w_q rfl (fun h' L' hh hR => zG rfl) rfl (w_q rfl (fun h' L' hh hR => fW rfl) rfl (w_q rfl (fun h' L' hh hR => zI Tryz.underlying65 rfl Tryz.sizeOf22 rfl) rfl (w_q rfl (fun h' L' hh hR => zU (hR _ (.head _)) Tryz.isAgg22 rfl rfl) rfl (w_q rfl (fun h' L' hh hR => iL Tryz.underlying22 rfl (hl.mono hh)) rfl (w_q rfl (fun h' L' hh hR => qL rfl rfl) rfl (xB (zJ (e' := [(0, _), (1, _), (14, _)]) ⟨rfl, rfl, rfl, trivial⟩ (zB ?_)))))))))))))
 refine zO rfl (fun hc14 => ?_) (fun hc14 => ?_)
 ·
  refine zC (zA (asg (v := vI (0)) rfl rfl (zD (zB (zR (zX (jK rfl rfl ?_)))))))
  exact ⟨_, (List.Sublist.refl _), (MLe.refl _), k, 0, rfl, hk, rfl, by omega, hn⟩
 refine zL (zB (zC (zA (mv rfl rfl (gv (fW rfl) rfl (gv (zI Tryz.underlying65 rfl Tryz.sizeOf3 rfl) rfl (gv (zU (.head _) Tryz.isAgg3 rfl rfl) rfl (gv (zQ (q := 1) rfl rfl (by omega) (by omega)) rfl (gv (fW rfl) rfl (gv (zI Tryz.underlying65 rfl Tryz.sizeOf3 rfl) rfl (wT (A := []) (r' := .var b 65 [vl, vI ((↑k : Int) + (1 : Int))]) (yC (k := 1) (cs := [_, _]) (vs := [_]) rfl rfl rfl rfl size3 (Nat.le_of_ble_eq_true rfl)) rfl rfl rfl (zD (zB ?_)))))))))))))
 refine zC ?_
 refine yI 14 _ [] [(0, .q), (1, .q), (2, .q), (3, .q), (4, .q), (5, .q), (6, .q), (7, .q), (8, .q), (9, .q), (10, .q), (11, .q), (12, .c), (13, .q)] xI (fun x hx => by cases hx) (by kernel_rfl) (fun x hx => by cases hx) (fun r hr => hr) (w_q rfl (fun h' L' hh hR => zG rfl) rfl (w_q rfl (fun h' L' hh hR => fW rfl) rfl (w_q rfl (fun h' L' hh hR => zI Tryz.underlying65 rfl Tryz.sizeOf22 rfl) rfl (w_q rfl (fun h' L' hh hR => zU (hR _ (.head _)) Tryz.isAgg22 rfl rfl) rfl (w_q rfl (fun h' L' hh hR => zG rfl) rfl (w_q rfl (fun h' L' hh hR => fW rfl) rfl (w_q rfl (fun h' L' hh hR => zI Tryz.underlying65 rfl Tryz.sizeOf3 rfl) rfl (w_q rfl (fun h' L' hh hR => zU (hR _ (.head _)) Tryz.isAgg3 rfl rfl) rfl (w_q rfl (fun h' L' hh hR => xT (q := 1) rfl rfl (by omega) (by omega)) rfl (w_q rfl (fun h' L' hh hR => w8 (k) Tryz.underlying22 Tryz.sizeOf3 rfl rfl (hl.mono hh) (by omega) (by omega)) rfl (w_q rfl (fun h' L' hh hR => s8 Tryz.isAgg3 rfl (hl.mono hh) (by omega)) rfl (w_q rfl (fun h' L' hh hR => zG rfl) rfl ?_))))))))))))
 refine w_c rfl ?_
 refine yD (vs := [_, _]) Tryz.call55 ⟨rfl, rfl, trivial⟩ (fun w hs => made_mod hs (by omega) (by omega)) rfl ?_
 intro v34 h1 hh1 hr34
 have hmz34 := modZ_range ((xs).getD (k) 0) (q := n) (by omega)
 subst hr34
 refine w_q rfl (fun h' L' hh hR => zY rfl) rfl (xB (zJ (e' := [(4, _)]) ⟨rfl, trivial⟩ (zB (zR (jK rfl rfl ?_)))))
 exact ⟨_, (List.Sublist.refl _), hh1, k + 1, _, rfl, by omega, rfl, hmz34.1, hmz34.2⟩
end Go.Proofs.YtghhjjmjpeehdaaGreat
