/- Texts that the proof needs, part 3. -/
import Derived.Test.YtghhjjmjpeehdaaGreatK2
namespace Go.Proofs.YtghhjjmjpeehdaaGreat
open Bk Go Tryz
set_option linter.unusedVariables false
set_option linter.unusedSimpArgs false
set_option maxRecDepth 10000
theorem rat_limbs {w0 w : World} {h0 h : Mem}  {v u : Value} {xs : List Nat} {L : List Res} {lo n : Nat} (hu : u = subSl 1 v lo xs.length) (hlo : lo + 2 ≤ xs.length) (hn0 : n ≠ 0) (hn : n < 18446744073709551616) (hs : St w0 h0 (.us 124 .u32 v xs :: L) h w) :
    Calls Tryz.prog 148 #[u, vU .u64 n] w (RetOwn w0 h0 (fun g r K => g = h ∧ K = .us 124 .u32 v (xs.take lo ++ zF n ++ xs.drop (lo + (zF n).length)) :: L ∧ r = vI ↑(zF n).length)) := by
 refine kW (n := 17) (e := [(0, u), (1, vU .u64 n)]) (vs := [u, vU .u64 n]) func148 rfl rfl (bL rfl) hs e2z (zC (zA (asg (v := vI (0)) rfl rfl (zD (zB (zC (zA (mv rfl rfl (mv rfl rfl (gv (vH (k := .u64) (k' := .u32) (W := 4294967296) underlying122 underlying124 rfl rfl rfl) rfl (gv (ov_index_osub (q := 0) mh0 hu (0) underlying28 sizeOf124 rfl rfl rfl (by omega)) rfl (vN sizeOf124 rfl rfl (by omega) (zD ?_)))))))))))))
 refine zB (zC (zC (zA (mv rfl rfl (gv (qD (k := .u64) (s := 32) (yk := .u64) rfl rfl rfl (by simp only [ub]; omega)) rfl (gv (ov_eql_u (k := .u64) (q := 0) rfl rfl) rfl (zD (zB ?_))))))))
 refine zN rfl (fun hc11 => ?_) (fun hc11 => ?_)
 ·
  refine wJ (e' := []) trivial (zC (zA (asg (v := vI (1)) rfl rfl (zD (zB (zQ (zV (jN rfl rfl ?_))))))))
  have hn1 : n < 4294967296 := by omega
  refine ⟨rfl, ?_, by rw [jY hn0 hn1]; rfl⟩
  rw [Nat.mod_eq_of_lt hn1, Nat.add_zero, putL (by omega) hn0 hn1]
 refine zK (zB (zC (zA (mv rfl rfl (mv rfl rfl (gv (qD (k := .u64) (s := 32) (yk := .u64) rfl rfl rfl (by simp only [ub]; omega)) rfl (gv (vH (k := .u64) (k' := .u32) (W := 4294967296) underlying122 underlying124 rfl rfl rfl) rfl (gv (ov_index_osub (q := 1) mh0 (by rw [lS]; exact hu) (1) underlying28 sizeOf124 rfl rfl rfl (by rw [lS]; omega)) rfl (vN sizeOf124 rfl rfl (by simp; omega) (zD (zJ (e' := []) trivial (zB (zC ?_)))))))))))))
 refine zA (asg (v := vI (2)) rfl rfl (zD (zB (zQ (jN rfl rfl ?_)))))
 have hn1 : 4294967296 ≤ n := by omega
 have e1 : n / 2 ^ 32 % 4294967296 = n / 4294967296 := by omega
 refine ⟨rfl, ?_, ?_⟩
 · rw [e1, Nat.add_zero, putL2 hlo hn hn1]
 · rw [jS (by omega), jY (t := n / 4294967296) (by omega) (by omega)]; rfl
theorem rat_short {w0 : World} {h0 : Mem}  (hs : MLe h0 (mem w0)) {s : Prop} {n d : Nat} (hn : n < 18446744073709551616) (hd : d < 18446744073709551616) (hd0 : d ≠ 0) :
    Calls Tryz.prog 125 #[vB s, vU .u64 n, vU .u64 d] w0 (Ret w0 h0 (fun h r => vX h r (mkRat (sg s n) d))) := by
 refine zM (n := 50) (e := [(0, vB s), (1, vU .u64 n), (2, vU .u64 d)]) (vs := [vB s, vU .u64 n, vU .u64 d]) func125 rfl rfl (bL rfl) hs e3z (zC (zA (zI (vV (cs := [vB ((0 : Rat).num < 0), .slice none 0 0, .slice none 0 0]) wT rfl (by simp only [zb]; rfl)) rfl rfl rfl ?_)))
 intro v6 r6 hr6
 obtain ⟨b6, rfl, rfl⟩ := hr6
 refine zD (zB (zC (zC (zA (mv rfl rfl (gv (ov_eql_u (k := .u64) (q := 0) rfl rfl) rfl (zD (zB ?_))))))))
 refine zN rfl (fun hc13 => ?_) (fun hc13 => ?_)
 ·
  refine zC (zA (gv (wK (ps' := []) (vs := [vB ((0 : Rat).num < 0), .slice none 0 0, .slice none 0 0]) underlying30 wT rfl (qK underlying30) trivial (by simp only [zb]; exact qI)) rfl (wY (A := []) (r' := .var b6 30 [vB ((0 : Rat).num < 0), .slice none 0 0, .slice none 0 0]) (yA (k := 0) (cs := [_, _, _]) (vs := [_, _, _]) rfl rfl rfl rfl zX (bL rfl)) rfl rfl rfl (zD (zB (zQ (zV (xQ (fun E S => yS rfl (wX (cs := [_, _, _]) mh0 underlying30 rfl zX rfl) E S) ?_))))))))
  rw [hc13, mk_zero]
  exact vX.zero _
 have hn0 : n ≠ 0 := by omega
 refine zK (zB (zC (zA (mv rfl rfl (mv rfl rfl ?_)))))
 refine zO (vs := [_, _]) rfl rfl rfl rfl call147 e2z (fun w hs => rat_divisor hs (by omega) (by omega)) ?_
 intro v17 h1 hh1 hr17
 subst hr17
 refine asg rfl rfl ?_
 have hg0 : 0 < Nat.gcd n d := Nat.gcd_pos_of_pos_left d (by omega)
 have hn1 : n / Nat.gcd n d ≠ 0 := Nat.ne_of_gt (Nat.div_pos (Nat.le_of_dvd (by omega) (Nat.gcd_dvd_left n d)) hg0)
 have hd1 : d / Nat.gcd n d ≠ 0 := Nat.ne_of_gt (Nat.div_pos (Nat.le_of_dvd (by omega) (Nat.gcd_dvd_right n d)) hg0)
 have hn2 := Nat.div_le_self n (Nat.gcd n d)
 have hd2 := Nat.div_le_self d (Nat.gcd n d)
 refine zD (zB (zC ?_))
 refine yF 8 _ [] [(0, .q), (1, .q), (2, .q), (3, .q), (4, .q), (5, .q), (6, .q), (7, .q)] xH nX (by kernel_rfl) nX (fun r hr => hr) (yH rfl rfl rfl (yH rfl rfl rfl (yK rfl (fun _ _ => ov_quo_u (k := .u64) (W := 18446744073709551616) rfl rfl rfl rfl (by omega) (by omega)) rfl (yH rfl rfl rfl (yH rfl rfl rfl (yK rfl (fun _ _ => ov_quo_u (k := .u64) (W := 18446744073709551616) rfl rfl rfl rfl (by omega) (by omega)) rfl (uG rfl rfl rfl (uG rfl rfl rfl ?_))))))))
 generalize hA : n / Nat.gcd n d = A at *
 generalize hB : d / Nat.gcd n d = B at *
 have hlA := jU (n := A) (by omega)
 have hlB := jU (n := B) (by omega)
 refine xB (zJ (e' := [(0, _), (6, _), (1, _), (2, _)]) e4z (zB (zC (zA (qM (kd := .u32) (by' := 4) (q := 4) (q' := 4) 4 underlying28 uJ rfl rfl rfl rfl rfl rfl rfl (by omega) (by omega) rfl ?_)))))
 intro v24
 refine asg rfl rfl (zD (zB (zC (zA (mv rfl rfl (mv rfl rfl ?_))))))
 refine gl_call_mut (vs := [_, _]) rfl rfl rfl rfl call148 e2z (fun w hs => rat_limbs (hs.own_self (.head _)) (by decide) hn1 (by omega) hs) ?_
 intro v27 g27 L27 hr27
 obtain ⟨e1, e2, hr27⟩ := hr27
 rw [e1, e2]
 clear e1 e2 g27 L27
 subst hr27
 rw [show List.take 0 (List.replicate 4 0) ++ zF A ++ List.drop (0 + (zF A).length) (List.replicate 4 0) = zF A ++ List.replicate (4 - (zF A).length) 0 from by rw [List.take_zero, List.nil_append, Nat.zero_add, List.drop_replicate]]
 have hlen4 : (zF A ++ List.replicate (4 - (zF A).length) 0).length = 4 := by simp; omega
 refine asg rfl rfl (zD (zB (zC (zA (mv rfl rfl (mv rfl rfl (mv rfl rfl (mv rfl rfl ?_))))))))
 refine gl_shape (.head _) (fun ad cap hsh hcap => ?_)
 have eq1 : jW 1 v24 0 (zF A).length (zF A).length = .slice (if (zF A).length = 0 then ad else ad.map (·.add (0 * 1))) ((zF A).length - 0) ((zF A).length - 0) := by rw [hsh]; rfl
 refine gv (ov_slice_own30 mh0 _ _ underlying28 sizeOf124 rfl rfl rfl rfl rfl (by omega) (by omega)) rfl (gv (wK (ps' := [(0, _), (1, _)]) (vs := [vB s, jW 1 v24 0 _ _, .slice none 0 0]) underlying30 wT rfl (qK underlying30) e4z (vD (A := []) (B := [_]) (C := [_, _]) (cs := [_]) (off := 0) (size := 1) rfl rfl rfl rfl rfl (vD (A := [_]) (B := [_]) (C := [_]) (cs := [_]) (off := 1) (size := 1) rfl rfl rfl rfl (by rw [eq1]; rfl) qI))) rfl (zI (vV (cs := [vB ((0 : Rat).num < 0), .slice none 0 0, .slice none 0 0]) wT rfl (by simp only [zb]; rfl)) rfl rfl rfl ?_))
 intro v10 r10 hr10
 obtain ⟨b10, rfl, rfl⟩ := hr10
 refine wY (A := []) (r' := .var b10 30 [vB s, jW 1 v24 0 _ _, .slice none 0 0]) (yA (k := 0) (cs := [_, _, _]) (vs := [vB s, jW 1 v24 0 _ _, .slice none 0 0]) rfl rfl rfl (by rw [eq1]; rfl) zX (bL rfl)) rfl rfl rfl (zD (zJ (e' := [(6, _), (2, _), (8, _), (9, _), (10, _)]) e5z (zB (zC (zC (zA (mv rfl rfl (gv (ov_gtr_u (k := .u64) (q := 1) rfl rfl) rfl (zD (zB ?_))))))))))
 refine zN rfl (fun hc35 => ?_) (fun hc35 => ?_)
 ·
  refine zC (zA (mv rfl rfl (mv rfl rfl (mv rfl rfl (gv (ov_slice_own_l mh1 _ underlying28 sizeOf124 rfl rfl rfl (by omega)) rfl (mv rfl rfl (gl_front (A := [_]) ?_)))))))
  refine gl_call_mut (vs := [_, _]) rfl rfl rfl rfl call148 e2z (fun w hs => rat_limbs (lo := (zF A).length) (by rfl) (by omega) hd1 (by omega) hs) ?_
  intro v41 g41 L41 hr41
  obtain ⟨e1, e2, hr41⟩ := hr41
  rw [e1, e2]
  clear e1 e2 g41 L41
  subst hr41
  rw [show List.take (zF A).length (zF A ++ List.replicate (4 - (zF A).length) 0) ++ zF B ++ List.drop ((zF A).length + (zF B).length) (zF A ++ List.replicate (4 - (zF A).length) 0) = zF A ++ zF B ++ List.replicate (4 - (zF A).length - (zF B).length) 0 from by simp]
  have hlen5 : (zF A ++ zF B ++ List.replicate (4 - (zF A).length - (zF B).length) 0).length = 4 := by simp; omega
  refine gv (zS rfl rfl (by omega) (by omega)) rfl (asg rfl rfl (zD (zJ (e' := [(6, _), (8, _), (9, _), (10, _), (11, _)]) e5z (zB (zA (mv rfl rfl (mv rfl rfl (mv rfl rfl (mv rfl rfl ?_)))))))))
  have eq2 : jW 1 v24 (zF A).length ((zF A).length + (zF B).length) ((zF A).length + (zF B).length) = .slice (if (zF A).length + (zF B).length = (zF A).length then ad else ad.map (·.add ((zF A).length * 1))) ((zF A).length + (zF B).length - (zF A).length) ((zF A).length + (zF B).length - (zF A).length) := by rw [hsh]; rfl
  refine gv (ov_slice_own3 mh0 ((zF A).length) ((zF A).length + (zF B).length) ((zF A).length + (zF B).length) underlying28 sizeOf124 rfl rfl rfl rfl (by omega) (by omega) (by omega) (by omega) (by omega) (by omega)) rfl (gv (zG underlying30 rfl sizeOf28 rfl) rfl (wY (A := [_]) (r' := .var b10 30 [vB s, jW 1 v24 0 _ _, jW 1 v24 ((zF A).length) ((zF A).length + (zF B).length) ((zF A).length + (zF B).length)]) (yA (k := 2) (cs := [_, _, _]) (vs := [jW 1 v24 ((zF A).length) ((zF A).length + (zF B).length) ((zF A).length + (zF B).length)]) rfl rfl (by rw [eq2]; rfl) (by rw [eq2]; rfl) size28 (bL rfl)) rfl rfl rfl (zD (zB (zC (zA (xT (by first | exact uF (uF (vG A) (vG B)) (qZ _) | exact uF (vG A) (qZ _)) ?_)))))))
  intro h2 hh2 hz
  refine gv (yE (vs := [_, _, _]) mh0 underlying30 rfl zX rfl rfl) rfl (wY (A := [_]) (r' := .var b6 30 [vB s, jW 1 v24 0 _ _, jW 1 v24 ((zF A).length) ((zF A).length + (zF B).length) ((zF A).length + (zF B).length)]) (yA (k := 0) (cs := [_, _, _]) (vs := [vB s, jW 1 v24 0 _ _, jW 1 v24 ((zF A).length) ((zF A).length + (zF B).length) ((zF A).length + (zF B).length)]) rfl rfl rfl (by rw [eq1, eq2]; rfl) zX (bL rfl)) rfl rfl rfl (zD (zJ (e' := [(6, _)]) ⟨rfl, trivial⟩ (zB (zQ (xQ (fun E S => yS rfl (wX (cs := [_, _, _]) mh1 underlying30 rfl zX rfl) E S) ?_))))))
  have z1 := hz.sub3 (lo := 0) (hi := (zF A).length) (mx := (zF A).length) (by omega) (by omega) (by omega)
  have z2 := hz.sub3 (lo := (zF A).length) (hi := (zF A).length + (zF B).length) (mx := (zF A).length + (zF B).length) (by omega) (by omega) (by omega)
  refine vX.make hn0 hd0 ?_ ?_
  · rw [hA]; simpa using z1
  · rw [hB]; rw [denN_ne (by omega)]; simpa using z2
 refine zK (zB (zC (zA (gl_freeze_us1 (by first | exact uF (uF (vG A) (vG B)) (qZ _) | exact uF (vG A) (qZ _)) ?_))))
 intro h2 hh2 hz
 refine gv (yE (vs := [_, _, _]) mh0 underlying30 rfl zX rfl rfl) rfl (wY (A := [_]) (r' := .var b6 30 [vB s, jW 1 v24 0 _ _, .slice none 0 0]) (yA (k := 0) (cs := [_, _, _]) (vs := [vB s, jW 1 v24 0 _ _, .slice none 0 0]) rfl rfl rfl (by rw [eq1]; rfl) zX (bL rfl)) rfl rfl rfl (zD (zB (zQ (xQ (fun E S => yS rfl (wX (cs := [_, _, _]) mh1 underlying30 rfl zX rfl) E S) ?_)))))
 have z1 := hz.sub3 (lo := 0) (hi := (zF A).length) (mx := (zF A).length) (by omega) (by omega) (by omega)
 refine vX.make hn0 hd0 ?_ ?_
 · rw [hA]; simpa using z1
 · rw [hB]; rw [show B = 1 by omega, denN_one, wD]; exact Us.nil _ _
theorem rat_parts {w0 : World} {h0 : Mem}  (hs : MLe h0 (mem w0)) {qa : Rat} {vna vda : Value} (hna : Us .u32 h0 vna (zF qa.num.natAbs)) (hda : Us .u32 h0 vda (zF (vO qa.den))) :
    Calls Tryz.prog 124 #[.agg #[vB (qa.num < 0), vna, vda]] w0 (Ret w0 h0 (fun _ r => r = .tuple #[vU .u64 (pN qa), vU .u64 (pD qa), vB (kZ qa)])) := by
 refine zM (n := 30) (e := [(0, .agg #[vB (qa.num < 0), vna, vda])]) (vs := [.agg #[vB (qa.num < 0), vna, vda]]) func124 rfl rfl (bL rfl) hs ⟨rfl, trivial⟩ (zC (zA (zI (wZ (cs := [_, _, _]) rfl rfl) rfl rfl rfl ?_)))
 intro v1 r1 hr1
 obtain ⟨b1, rfl, rfl⟩ := hr1
 refine asg (v := vU .u64 0) rfl rfl (asg (v := vU .u64 0) rfl rfl (asg rfl rfl (zD (zB (zC (zC (zA (gv (zG underlying30 rfl sizeOf28 rfl) rfl (gv (zR mh0 isAgg28 rfl rfl) rfl (gv (zZ underlying28 rfl hna) rfl (gv (uH (q := 1) rfl rfl) rfl ?_)))))))))))
 refine vY (ι := Unit) 6 (fun _ => True) (fun _ => [(14, vB (((1 : Int) < (↑(zF qa.num.natAbs).length : Int)) ∨ ((1 : Int) < (↑(zF (vO qa.den)).length : Int)))), (1, vP b1 0)]) (fun _ => [.var b1 30 [vB (qa.num < 0), vna, vda]]) (fun _ => h0) ?_ ?_
 ·
  refine wL ((1 : Int) < (↑(zF qa.num.natAbs).length : Int)) (fun hg => ?_) (fun hg => ?_)
  ·
   refine xE (yO (v := .bool true) (congrArg some (xL hg))) rfl rfl rfl (yI rfl rfl rfl rfl rfl rfl (yI rfl rfl rfl rfl rfl rfl (yI rfl rfl rfl rfl rfl rfl (yI rfl rfl rfl rfl rfl rfl (gv (xM rfl rfl) rfl (zD ?_))))))
   refine yM () trivial ⟨?_, rfl, trivial⟩ rfl rfl
   exact congrArg some (jZ hg)
  refine xE (yO (v := .bool false) (congrArg some (yX hg))) rfl rfl rfl (yY rfl rfl rfl (gv (zG underlying30 rfl sizeOf28 rfl) rfl (yY rfl rfl rfl (gv (zR mh0 isAgg28 rfl rfl) rfl (yY rfl rfl rfl (gv (zZ underlying28 rfl hda) rfl (yY rfl rfl rfl (gv (uH (q := 1) rfl rfl) rfl (gv (xW rfl rfl) rfl (zD ?_))))))))))
  refine yM () trivial ⟨?_, rfl, trivial⟩ rfl rfl
  exact congrArg some (kA hg)
 intro _ _
 show GL _ _ _ _ _ _ _ [(14, vB (((1 : Int) < (↑(zF qa.num.natAbs).length : Int)) ∨ ((1 : Int) < (↑(zF (vO qa.den)).length : Int)))), (1, vP b1 0)] [.var b1 30 [vB (qa.num < 0), vna, vda]] h0
 refine zD (zB ?_)
 refine zN rfl (fun hc14 => ?_) (fun hc14 => ?_)
 ·
  have hns : ¬ kZ qa := smallQ_not hc14
  refine zC (zA (asg (v := vU .u64 0) rfl rfl (asg (v := vU .u64 0) rfl rfl (asg rfl rfl (zD (zB (zQ (zV (qL rfl rfl rfl rfl ?_)))))))))
  rw [pN_f hns, pD_f hns, yX hns]
 have hsm : kZ qa := smallQ_of hc14
 have hsn := kX hsm
 have hsd := kY hsm
 refine zK (zB (zC (zA (asg (v := vU .u64 1) rfl rfl (zD (zB (zC (zC (zA (gv (zG underlying30 rfl sizeOf28 rfl) rfl (gv (zR mh0 isAgg28 rfl rfl) rfl (gv (zZ underlying28 rfl hda) rfl (gv (xU (q := 1) rfl rfl) rfl ?_)))))))))))))
 refine zD (zB ?_)
 refine zN rfl (fun hc18 => ?_) (fun hc18 => ?_)
 ·
  have hd1 : (zF (vO qa.den)).getD 0 0 = qa.den := denL_one hc18
  refine zA (gv (zG underlying30 rfl sizeOf28 rfl) rfl (gv (zR mh0 isAgg28 rfl rfl) rfl (gv (yN (q := 0) (0) underlying28 sizeOf124 rfl rfl hda rfl (by omega)) rfl (gv (yQ isAgg124 rfl hda (by omega)) rfl ?_))))
  rw [hd1]
  refine gv (xA (k := .u32) (k' := .u64) (W := 18446744073709551616) underlying124 underlying122 rfl rfl rfl (by omega)) rfl (asg rfl rfl (zD (zJ (e' := [(1, _), (3, _)]) e2z (zB (zC (zA (gv (zG underlying30 rfl sizeOf28 rfl) rfl (gv (zR mh0 isAgg28 rfl rfl) rfl ?_))))))))
  refine zO (vs := [_]) rfl rfl rfl rfl call131 ⟨rfl, trivial⟩ (fun w hs => rat_word hs hna (by omega)) ?_
  intro v26 h1 hh1 hr26
  try simp only [zU] at hr26
  subst hr26
  refine mv rfl rfl (mv rfl rfl (gv (OpV.tr (by have := qa.den_nz; omega) (ov_neq_u (k := .u64) (q := 0) rfl rfl)) rfl (asg rfl rfl (asg rfl rfl (asg rfl rfl (zD (zB (zQ (qL rfl rfl rfl rfl ?_)))))))))
  rw [pN_t hsm, pD_t hsm, xL hsm]
 have hd1 : qa.den = 1 := denL_nil hc18 hsm
 refine zK (zB (zC (zA (gv (zG underlying30 rfl sizeOf28 rfl) rfl (gv (zR mh0 isAgg28 rfl rfl) rfl ?_)))))
 refine zO (vs := [_]) rfl rfl rfl rfl call131 ⟨rfl, trivial⟩ (fun w hs => rat_word hs hna (by omega)) ?_
 intro v26 h1 hh1 hr26
 try simp only [zU] at hr26
 subst hr26
 refine mv rfl rfl (mv rfl rfl (gv (OpV.tr (by have := qa.den_nz; omega) (ov_neq_u (k := .u64) (q := 0) rfl rfl)) rfl (asg rfl rfl (asg rfl rfl (asg rfl rfl (zD (zJ (e' := [(2, _), (3, _), (4, _)]) e3z (zB (zQ (qL rfl rfl rfl rfl ?_))))))))))
 rw [pN_t hsm, pD_t hsm, xL hsm, hd1]
theorem kI {w0 : World} {h0 : Mem}  (hs : MLe h0 (mem w0)) {s : Prop} {vn vd : Value} {xs ys : List Nat} (hn : Us .u32 h0 vn xs) (hd : Us .u32 h0 vd ys) (hl : xs.length ≤ 1000000000000) (hl' : ys.length ≤ 1000000000000) :
    Calls Tryz.prog 106 #[vB s, vn, vd] w0 (Ret w0 h0 (fun h r => vX h r (mkRat (sg s (val xs)) (val ys)))) := by
 have hbx := bitsN_eq_zero (n := val xs)
 have hby := bitsN_eq_zero (n := val ys)
 have hlx := uN hn.lt
 have hly := uN hd.lt
 refine zM (n := 68) (e := [(0, vB s), (1, vn), (2, vd)]) (vs := [vB s, vn, vd]) func106 rfl rfl (bL rfl) hs e3z (zC (zA (zI (vV (cs := [vB ((0 : Rat).num < 0), .slice none 0 0, .slice none 0 0]) wT rfl (by simp only [zb]; rfl)) rfl rfl rfl ?_)))
 intro v6 r6 hr6
 obtain ⟨b6, rfl, rfl⟩ := hr6
 refine zD (zB (zC (zC (zA (mv rfl rfl ?_)))))
 refine zO (vs := [_]) rfl rfl rfl rfl call123 ⟨rfl, trivial⟩ (fun w hs => nat_bits hs hn (by omega)) ?_
 intro v9 h1 hh1 hr9
 try simp only [zU] at hr9
 subst hr9
 refine gv (xU (q := 0) rfl rfl) rfl ?_
 refine vY (ι := Mem) 5 (fun m_ => MLe h1 m_) (fun _ => [(15, vB (((↑(vZ (val (xs))) : Int) = (0 : Int)) ∨ ((↑(vZ (val (ys))) : Int) = (0 : Int)))), (0, vB s), (1, vn), (2, vd), (6, vP b6 0)]) (fun _ => [.var b6 30 [vB ((0 : Rat).num < 0), .slice none 0 0, .slice none 0 0]]) (fun m_ => m_) ?_ ?_
 ·
  refine wL ((↑(vZ (val (xs))) : Int) = (0 : Int)) (fun hg => ?_) (fun hg => ?_)
  ·
   refine xE (yO (v := .bool true) (congrArg some (xL hg))) rfl rfl rfl (yI rfl rfl rfl rfl rfl rfl (yI rfl rfl rfl rfl rfl rfl (yI rfl rfl rfl rfl rfl rfl (gv (xM rfl rfl) rfl (zD ?_)))))
   refine yM h1 (MLe.refl _) ⟨?_, rfl, rfl, rfl, rfl, trivial⟩ rfl rfl
   exact congrArg some (jZ hg)
  refine xE (yO (v := .bool false) (congrArg some (yX hg))) rfl rfl rfl (yY rfl rfl rfl (mv rfl rfl (yY rfl rfl rfl ?_)))
  replace hd := hd.mono hh1
  refine zO (vs := [_]) rfl rfl rfl rfl call123 ⟨rfl, trivial⟩ (fun w hs => nat_bits hs hd (by omega)) ?_
  intro v13 h2 hh2 hr13
  try simp only [zU] at hr13
  subst hr13
  refine yY rfl rfl rfl (gv (xU (q := 0) rfl rfl) rfl (gv (xW rfl rfl) rfl (zD ?_)))
  refine yM h2 hh2 ⟨?_, rfl, rfl, rfl, rfl, trivial⟩ rfl rfl
  exact congrArg some (kA hg)
 intro mg1_3 hmmg1_3
 show GL _ _ _ _ _ _ _ [(15, vB (((↑(vZ (val (xs))) : Int) = (0 : Int)) ∨ ((↑(vZ (val (ys))) : Int) = (0 : Int)))), (0, vB s), (1, vn), (2, vd), (6, vP b6 0)] [.var b6 30 [vB ((0 : Rat).num < 0), .slice none 0 0, .slice none 0 0]] mg1_3
 refine zD (zB ?_)
 refine zN rfl (fun hc15 => ?_) (fun hc15 => ?_)
 ·
  refine zC (zA (gv (wK (ps' := []) (vs := [vB ((0 : Rat).num < 0), .slice none 0 0, .slice none 0 0]) underlying30 wT rfl (qK underlying30) trivial (by simp only [zb]; exact qI)) rfl (wY (A := []) (r' := .var b6 30 [vB ((0 : Rat).num < 0), .slice none 0 0, .slice none 0 0]) (yA (k := 0) (cs := [_, _, _]) (vs := [_, _, _]) rfl rfl rfl rfl zX (bL rfl)) rfl rfl rfl (zD (zB (zQ (zV (xQ (fun E S => yS rfl (wX (cs := [_, _, _]) mh0 underlying30 rfl zX rfl) E S) ?_))))))))
  rcases hc15 with h | h
  · rw [show val xs = 0 by omega, mk_zero]; exact vX.zero _
  · rw [show val ys = 0 by omega, mk_zero']; exact vX.zero _
 have hn0 : val xs ≠ 0 := fun h => hc15 (.inl (by omega))
 have hd0 : val ys ≠ 0 := fun h => hc15 (.inr (by omega))
 refine zK (zB (zC (zC (zA (mv rfl rfl ?_)))))
 replace hn := hn.mono (hh1.trans hmmg1_3)
 refine gv (zZ underlying28 rfl hn) rfl (gv (ov_leq_i (q := 2) rfl rfl) rfl ?_)
 refine vY (ι := Unit) 5 (fun _ => True) (fun _ => [(24, vB (((↑(xs).length : Int) ≤ (2 : Int)) ∧ ((↑(ys).length : Int) ≤ (2 : Int)))), (0, vB s), (1, vn), (2, vd), (6, vP b6 0)]) (fun _ => [.var b6 30 [vB ((0 : Rat).num < 0), .slice none 0 0, .slice none 0 0]]) (fun _ => mg1_3) ?_ ?_
 ·
  refine wL ((↑(xs).length : Int) ≤ (2 : Int)) (fun hg => ?_) (fun hg => ?_)
  ·
   refine xE (yO (v := .bool true) (congrArg some (xL hg))) rfl rfl rfl (yY rfl rfl rfl (mv rfl rfl (yY rfl rfl rfl ?_)))
   replace hd := hd.mono (hh1.trans hmmg1_3)
   refine gv (zZ underlying28 rfl hd) rfl (yY rfl rfl rfl (gv (ov_leq_i (q := 2) rfl rfl) rfl (gv (xM rfl rfl) rfl (zD ?_))))
   refine yM () trivial ⟨?_, rfl, rfl, rfl, rfl, trivial⟩ rfl rfl
   exact congrArg some (uC hg)
  refine xE (yO (v := .bool false) (congrArg some (yX hg))) rfl rfl rfl (yI rfl rfl rfl rfl rfl rfl (yI rfl rfl rfl rfl rfl rfl (yI rfl rfl rfl rfl rfl rfl (gv (xW rfl rfl) rfl (zD ?_)))))
  refine yM () trivial ⟨?_, rfl, rfl, rfl, rfl, trivial⟩ rfl rfl
  exact congrArg some (uD hg)
 intro _ _
 show GL _ _ _ _ _ _ _ [(24, vB (((↑(xs).length : Int) ≤ (2 : Int)) ∧ ((↑(ys).length : Int) ≤ (2 : Int)))), (0, vB s), (1, vn), (2, vd), (6, vP b6 0)] [.var b6 30 [vB ((0 : Rat).num < 0), .slice none 0 0, .slice none 0 0]] mg1_3
 refine zD (zB ?_)
 refine zN rfl (fun hc24 => ?_) (fun hc24 => ?_)
 ·
  have hnw := lt_word (n := val xs) (by omega)
  have hdw := lt_word (n := val ys) (by omega)
  refine zC (zA (mv rfl rfl (mv rfl rfl ?_)))
  refine zO (vs := [_]) rfl rfl rfl rfl call131 ⟨rfl, trivial⟩ (fun w hs => rat_word hs hn (by omega)) ?_
  intro v27 h2 hh2 hr27
  try simp only [zU] at hr27
  subst hr27
  refine mv rfl rfl ?_
  replace hd := hd.mono ((hh1.trans hmmg1_3).trans hh2)
  refine zO (vs := [_]) rfl rfl rfl rfl call131 ⟨rfl, trivial⟩ (fun w hs => rat_word hs hd (by omega)) ?_
  intro v29 h3 hh3 hr29
  try simp only [zU] at hr29
  subst hr29
  refine zO (vs := [_, _, _]) rfl rfl rfl rfl call125 e3z (fun w hs => rat_short hs (by omega) (by omega) (by omega)) ?_
  intro v30 h4 hh4 hr30
  obtain ⟨vn30, vd30, rfl, hn30, hd30⟩ := hr30
  refine wY (A := []) (r' := .var b6 30 [vB ((mkRat (sg (s) (val (xs))) (val (ys))).num < 0), vn30, vd30]) (yA (k := 0) (cs := [_, _, _]) (vs := [_, _, _]) rfl rfl rfl (ocr rfl (ocu hn30 (ocu hd30 oc0))) zX (bL rfl)) rfl rfl rfl (zD (zJ (e' := [(6, _)]) ⟨rfl, trivial⟩ (zB (zQ (zV (xQ (fun E S => yS rfl (wX (cs := [_, _, _]) mh0 underlying30 rfl zX rfl) E S) ?_))))))
  exact ⟨_, _, rfl, hn30, hd30⟩
 refine zK (zB (zC (zC (zA (mv rfl rfl (mv rfl rfl ?_))))))
 replace hd := hd.mono (hh1.trans hmmg1_3)
 refine zO (vs := [_, _]) rfl rfl rfl rfl call132 e2z (fun w hs => nat_gcd hs hn hd (by omega) (by omega)) ?_
 intro v33 h2 hh2 hr33
 try simp only [zU] at hr33
 have hlm33 := limbs_len_gcd (val (xs)) (val (ys))
 have hg0 : Nat.gcd (val xs) (val ys) ≠ 0 := Nat.ne_of_gt (Nat.gcd_pos_of_pos_left _ (by omega))
 have hgl := xD (Nat.le_of_dvd (by omega) (Nat.gcd_dvd_left (val xs) (val ys)))
 refine asg rfl rfl (zD (zB (zC (zA (mv rfl rfl ?_)))))
 refine zO (vs := [_]) rfl rfl rfl rfl call123 ⟨rfl, trivial⟩ (fun w hs => nat_bits hs hr33 (by omega)) ?_
 intro v35 h3 hh3 hr35
 try simp only [zU] at hr35
 subst hr35
 refine gv (uH (q := 1) rfl rfl) rfl (zD (zB ?_))
 refine zN rfl (fun hc36 => ?_) (fun hc36 => ?_)
 ·
  refine zC (zA (mv rfl rfl (mv rfl rfl ?_)))
  replace hn := hn.mono (hh2.trans hh3)
  replace hr33 := hr33.mono hh3
  refine zO (vs := [_, _]) rfl rfl rfl rfl call133 e2z (fun w hs => nat_div hs hn hr33 (by omega) (by omega)) ?_
  intro v40 h4 hh4 hr40
  obtain ⟨q40, r40, rfl, hq40, hr40⟩ := hr40
  try simp only [zU] at hq40 hr40 ⊢
  have hlm40 := xD (Nat.div_le_self (val (xs)) (((Nat.gcd (val (xs)) (val (ys))))))
  have hl7 := xD (Nat.div_le_self (val xs) (Nat.gcd (val xs) (val ys)))
  refine mv rfl rfl (gv (zL (vs := [_, _, _]) rfl rfl) rfl (gv (zL (vs := [_, _, _]) rfl rfl) rfl (gv (zL (vs := [_, _, _]) rfl rfl) rfl (asg rfl rfl (zD (zJ (e' := [(0, _), (2, _), (6, _), (7, _), (1, _)]) e5z (zB (zA (mv rfl rfl (mv rfl rfl ?_))))))))))
  replace hd := hd.mono ((hh2.trans hh3).trans hh4)
  replace hr33 := hr33.mono hh4
  refine zO (vs := [_, _]) rfl rfl rfl rfl call133 e2z (fun w hs => nat_div hs hd hr33 (by omega) (by omega)) ?_
  intro v47 h5 hh5 hr47
  obtain ⟨q47, r47, rfl, hq47, hr47⟩ := hr47
  try simp only [zU] at hq47 hr47 ⊢
  have hlm47 := xD (Nat.div_le_self (val (ys)) (((Nat.gcd (val (xs)) (val (ys))))))
  have hl8 := xD (Nat.div_le_self (val ys) (Nat.gcd (val xs) (val ys)))
  refine mv rfl rfl (gv (zL (vs := [_, _, _]) rfl rfl) rfl (gv (zL (vs := [_, _, _]) rfl rfl) rfl (gv (zL (vs := [_, _, _]) rfl rfl) rfl (asg rfl rfl (zD (zB (zC (zA (mv rfl rfl ?_)))))))))
  replace hq40 := hq40.mono hh5
  refine zO (vs := [_, _]) rfl rfl rfl rfl call134 e2z (fun w hs => nat_add hs hq40 (Us.nil _ _) (by first | omega | (simp only [lN]; omega)) (by first | omega | (simp only [lN]; omega))) ?_
  intro v52 h6 hh6 hr52
  try simp only [zU] at hr52
  have hlm52 := jO ((((val (xs)) / (((Nat.gcd (val (xs)) (val (ys)))))))) (val ([]))
  refine mv rfl rfl ?_
  replace hq47 := hq47.mono hh6
  refine zO (vs := [_, _]) rfl rfl rfl rfl call134 e2z (fun w hs => nat_add hs hq47 (Us.nil _ _) (by first | omega | (simp only [lN]; omega)) (by first | omega | (simp only [lN]; omega))) ?_
  intro v54 h7 hh7 hr54
  try simp only [zU] at hr54
  have hlm54 := jO ((((val (ys)) / (((Nat.gcd (val (xs)) (val (ys)))))))) (val ([]))
  refine asg rfl rfl (asg rfl rfl (zD (zJ (e' := [(0, _), (6, _), (1, _), (2, _)]) e4z (zB (zC (zC (zA (mv rfl rfl (gv (zZ underlying28 rfl hr54) rfl (gv (xU (q := 1) rfl rfl) rfl ?_))))))))))
  refine vY (ι := Unit) 6 (fun _ => True) (fun _ => [(63, vB (((↑(zF (((((val (ys)) / (((Nat.gcd (val (xs)) (val (ys)))))))) + (val ([])))).length : Int) = (1 : Int)) ∧ (((zF (((((val (ys)) / (((Nat.gcd (val (xs)) (val (ys)))))))) + (val ([])))).getD (0) 0) = (1 : Nat)))), (0, vB s), (6, vP b6 0), (1, v52), (2, v54)]) (fun _ => [.var b6 30 [vB ((0 : Rat).num < 0), .slice none 0 0, .slice none 0 0]]) (fun _ => h7) ?_ ?_
  ·
   refine wL ((↑(zF (((((val (ys)) / (((Nat.gcd (val (xs)) (val (ys)))))))) + (val ([])))).length : Int) = (1 : Int)) (fun hg => ?_) (fun hg => ?_)
   ·
    refine xE (yO (v := .bool true) (congrArg some (xL hg))) rfl rfl rfl (yY rfl rfl rfl (mv rfl rfl (yY rfl rfl rfl (gv (yN (q := 0) (0) underlying28 sizeOf124 rfl rfl hr54 rfl (by omega)) rfl (yY rfl rfl rfl (gv (yQ isAgg124 rfl hr54 (by omega)) rfl (yY rfl rfl rfl (gv (ov_eql_u (k := .u32) (q := 1) rfl rfl) rfl (gv (xM rfl rfl) rfl (zD ?_))))))))))
    refine yM () trivial ⟨?_, rfl, rfl, rfl, rfl, trivial⟩ rfl rfl
    exact congrArg some (uC hg)
   refine xE (yO (v := .bool false) (congrArg some (yX hg))) rfl rfl rfl (yI rfl rfl rfl rfl rfl rfl (yI rfl rfl rfl rfl rfl rfl (yI rfl rfl rfl rfl rfl rfl (yI rfl rfl rfl rfl rfl rfl (gv (xW rfl rfl) rfl (zD ?_))))))
   refine yM () trivial ⟨?_, rfl, rfl, rfl, rfl, trivial⟩ rfl rfl
   exact congrArg some (uD hg)
  intro _ _
  show GL _ _ _ _ _ _ _ [(63, vB (((↑(zF (((((val (ys)) / (((Nat.gcd (val (xs)) (val (ys)))))))) + (val ([])))).length : Int) = (1 : Int)) ∧ (((zF (((((val (ys)) / (((Nat.gcd (val (xs)) (val (ys)))))))) + (val ([])))).getD (0) 0) = (1 : Nat)))), (0, vB s), (6, vP b6 0), (1, v52), (2, v54)] [.var b6 30 [vB ((0 : Rat).num < 0), .slice none 0 0, .slice none 0 0]] h7
  refine zD (zB ?_)
  refine zN rfl (fun hc63 => ?_) (fun hc63 => ?_)
  ·
   refine zA (asg rfl rfl (zD (zB (zC (zA (mv rfl rfl (mv rfl rfl (mv rfl rfl ?_))))))))
   replace hr52 := hr52.mono hh7
   refine gv (wK (ps' := [(0, _), (1, _), (2, _)]) (vs := [vB s, v52, .slice none 0 0]) underlying30 wT rfl (qK underlying30) e6 (vD (A := []) (B := [_]) (C := [_, _]) (cs := [_]) (off := 0) (size := 1) rfl rfl rfl rfl rfl (vD (A := [_]) (B := [_]) (C := [_]) (cs := [_]) (off := 1) (size := 1) rfl rfl rfl rfl hr52.cells (vD (A := [_, _]) (B := [_]) (C := []) (cs := [_]) (off := 2) (size := 1) rfl rfl rfl rfl rfl qI)))) rfl (wY (A := []) (r' := .var b6 30 [vB s, v52, .slice none 0 0]) (yA (k := 0) (cs := [_, _, _]) (vs := [_, _, _]) rfl rfl rfl (ocr rfl (ocu hr52 (ocr rfl oc0))) zX (bL rfl)) rfl rfl rfl (zD (zB (zQ (xQ (fun E S => yS rfl (wX (cs := [_, _, _]) mh0 underlying30 rfl zX rfl) E S) ?_)))))
   exact vX.fin1 hn0 hd0 hr52 hc63
  refine zK (zB (zC (zA (mv rfl rfl (mv rfl rfl (mv rfl rfl ?_))))))
  replace hr52 := hr52.mono hh7
  refine gv (wK (ps' := [(0, _), (1, _), (2, _)]) (vs := [vB s, v52, v54]) underlying30 wT rfl (qK underlying30) e6 (vD (A := []) (B := [_]) (C := [_, _]) (cs := [_]) (off := 0) (size := 1) rfl rfl rfl rfl rfl (vD (A := [_]) (B := [_]) (C := [_]) (cs := [_]) (off := 1) (size := 1) rfl rfl rfl rfl hr52.cells (vD (A := [_, _]) (B := [_]) (C := []) (cs := [_]) (off := 2) (size := 1) rfl rfl rfl rfl hr54.cells qI)))) rfl (wY (A := []) (r' := .var b6 30 [vB s, v52, v54]) (yA (k := 0) (cs := [_, _, _]) (vs := [_, _, _]) rfl rfl rfl (ocr rfl (ocu hr52 (ocu hr54 oc0))) zX (bL rfl)) rfl rfl rfl (zD (zB (zQ (xQ (fun E S => yS rfl (wX (cs := [_, _, _]) mh0 underlying30 rfl zX rfl) E S) ?_)))))
  exact vX.fin hn0 hd0 hr52 hr54 hc63
 refine zK (zB (zC (zA (mv rfl rfl ?_))))
 replace hn := hn.mono (hh2.trans hh3)
 refine zO (vs := [_, _]) rfl rfl rfl rfl call134 e2z (fun w hs => nat_add hs hn (Us.nil _ _) (by first | omega | (simp only [lN]; omega)) (by first | omega | (simp only [lN]; omega))) ?_
 intro v52 h4 hh4 hr52
 try simp only [zU] at hr52
 have hlm52 := jO (val (xs)) (val ([]))
 refine mv rfl rfl ?_
 replace hd := hd.mono ((hh2.trans hh3).trans hh4)
 refine zO (vs := [_, _]) rfl rfl rfl rfl call134 e2z (fun w hs => nat_add hs hd (Us.nil _ _) (by first | omega | (simp only [lN]; omega)) (by first | omega | (simp only [lN]; omega))) ?_
 intro v54 h5 hh5 hr54
 try simp only [zU] at hr54
 have hlm54 := jO (val (ys)) (val ([]))
 refine asg rfl rfl (asg rfl rfl (zD (zJ (e' := [(0, _), (6, _), (1, _), (2, _)]) e4z (zB (zC (zC (zA (mv rfl rfl (gv (zZ underlying28 rfl hr54) rfl (gv (xU (q := 1) rfl rfl) rfl ?_))))))))))
 refine vY (ι := Unit) 6 (fun _ => True) (fun _ => [(63, vB (((↑(zF ((val (ys)) + (val ([])))).length : Int) = (1 : Int)) ∧ (((zF ((val (ys)) + (val ([])))).getD (0) 0) = (1 : Nat)))), (0, vB s), (6, vP b6 0), (1, v52), (2, v54)]) (fun _ => [.var b6 30 [vB ((0 : Rat).num < 0), .slice none 0 0, .slice none 0 0]]) (fun _ => h5) ?_ ?_
 ·
  refine wL ((↑(zF ((val (ys)) + (val ([])))).length : Int) = (1 : Int)) (fun hg => ?_) (fun hg => ?_)
  ·
   refine xE (yO (v := .bool true) (congrArg some (xL hg))) rfl rfl rfl (yY rfl rfl rfl (mv rfl rfl (yY rfl rfl rfl (gv (yN (q := 0) (0) underlying28 sizeOf124 rfl rfl hr54 rfl (by omega)) rfl (yY rfl rfl rfl (gv (yQ isAgg124 rfl hr54 (by omega)) rfl (yY rfl rfl rfl (gv (ov_eql_u (k := .u32) (q := 1) rfl rfl) rfl (gv (xM rfl rfl) rfl (zD ?_))))))))))
   refine yM () trivial ⟨?_, rfl, rfl, rfl, rfl, trivial⟩ rfl rfl
   exact congrArg some (uC hg)
  refine xE (yO (v := .bool false) (congrArg some (yX hg))) rfl rfl rfl (yI rfl rfl rfl rfl rfl rfl (yI rfl rfl rfl rfl rfl rfl (yI rfl rfl rfl rfl rfl rfl (yI rfl rfl rfl rfl rfl rfl (gv (xW rfl rfl) rfl (zD ?_))))))
  refine yM () trivial ⟨?_, rfl, rfl, rfl, rfl, trivial⟩ rfl rfl
  exact congrArg some (uD hg)
 intro _ _
 show GL _ _ _ _ _ _ _ [(63, vB (((↑(zF ((val (ys)) + (val ([])))).length : Int) = (1 : Int)) ∧ (((zF ((val (ys)) + (val ([])))).getD (0) 0) = (1 : Nat)))), (0, vB s), (6, vP b6 0), (1, v52), (2, v54)] [.var b6 30 [vB ((0 : Rat).num < 0), .slice none 0 0, .slice none 0 0]] h5
 refine zD (zB ?_)
 refine zN rfl (fun hc63 => ?_) (fun hc63 => ?_)
 ·
  refine zA (asg rfl rfl (zD (zB (zC (zA (mv rfl rfl (mv rfl rfl (mv rfl rfl ?_))))))))
  replace hr52 := hr52.mono hh5
  refine gv (wK (ps' := [(0, _), (1, _), (2, _)]) (vs := [vB s, v52, .slice none 0 0]) underlying30 wT rfl (qK underlying30) e6 (vD (A := []) (B := [_]) (C := [_, _]) (cs := [_]) (off := 0) (size := 1) rfl rfl rfl rfl rfl (vD (A := [_]) (B := [_]) (C := [_]) (cs := [_]) (off := 1) (size := 1) rfl rfl rfl rfl hr52.cells (vD (A := [_, _]) (B := [_]) (C := []) (cs := [_]) (off := 2) (size := 1) rfl rfl rfl rfl rfl qI)))) rfl (wY (A := []) (r' := .var b6 30 [vB s, v52, .slice none 0 0]) (yA (k := 0) (cs := [_, _, _]) (vs := [_, _, _]) rfl rfl rfl (ocr rfl (ocu hr52 (ocr rfl oc0))) zX (bL rfl)) rfl rfl rfl (zD (zB (zQ (xQ (fun E S => yS rfl (wX (cs := [_, _, _]) mh0 underlying30 rfl zX rfl) E S) ?_)))))
  have hg1 := bitsN_one hc36 hg0
  exact vX.fin1 hn0 hd0 (by rw [hg1, Nat.div_one]; exact hr52) (by rw [hg1, Nat.div_one]; exact hc63)
 refine zK (zB (zC (zA (mv rfl rfl (mv rfl rfl (mv rfl rfl ?_))))))
 replace hr52 := hr52.mono hh5
 refine gv (wK (ps' := [(0, _), (1, _), (2, _)]) (vs := [vB s, v52, v54]) underlying30 wT rfl (qK underlying30) e6 (vD (A := []) (B := [_]) (C := [_, _]) (cs := [_]) (off := 0) (size := 1) rfl rfl rfl rfl rfl (vD (A := [_]) (B := [_]) (C := [_]) (cs := [_]) (off := 1) (size := 1) rfl rfl rfl rfl hr52.cells (vD (A := [_, _]) (B := [_]) (C := []) (cs := [_]) (off := 2) (size := 1) rfl rfl rfl rfl hr54.cells qI)))) rfl (wY (A := []) (r' := .var b6 30 [vB s, v52, v54]) (yA (k := 0) (cs := [_, _, _]) (vs := [_, _, _]) rfl rfl rfl (ocr rfl (ocu hr52 (ocu hr54 oc0))) zX (bL rfl)) rfl rfl rfl (zD (zB (zQ (xQ (fun E S => yS rfl (wX (cs := [_, _, _]) mh0 underlying30 rfl zX rfl) E S) ?_)))))
 have hg1 := bitsN_one hc36 hg0
 exact vX.fin hn0 hd0 (by rw [hg1, Nat.div_one]; exact hr52) (by rw [hg1, Nat.div_one]; exact hr54) (by rw [hg1, Nat.div_one]; exact hc63)
end Go.Proofs.YtghhjjmjpeehdaaGreat
namespace Go.Proofs.YtghhjjmjpeehdaaGreat
open Bk Go Tryz
set_option linter.unusedVariables false
set_option linter.unusedSimpArgs false
set_option maxRecDepth 10000
theorem sl_equal {w0 : World} {h0 : Mem}  (hs : MLe h0 (mem w0)) {v v' : Value} {xs ys : List Nat} (hv : Us .u32 h0 v xs) (hv' : Us .u32 h0 v' ys) :
    Calls Tryz.prog 128 #[v, v'] w0 (Ret w0 h0 (fun _ r => r = vB (xs = ys))) := by
 have hlen := hv.lt63
 have hlen' := hv'.lt63
 refine zM (n := 26) (e := [(0, v), (1, v')]) (vs := [v, v']) func128 rfl rfl (bL rfl) hs e2z (zC (zA (asg rfl rfl (zD (zB (zC (zC (zA (mv rfl rfl (gv (zZ underlying28 rfl hv) rfl (mv rfl rfl (gv (zZ underlying28 rfl hv') rfl (gv (ov_neq_i rfl rfl) rfl ?_)))))))))))))
 refine zD (zB ?_)
 refine zN rfl (fun hc10 => ?_) (fun hc10 => ?_)
 ·
  refine zC (zA (asg rfl rfl (zD (zB (zQ (zV (yC rfl rfl ?_)))))))
  rw [yX (fun e => hc10 (by rw [e]))]
 have hll : xs.length = ys.length := by omega
 refine zK (zB (zC (zC (zA (mv rfl rfl (gv (zZ underlying28 rfl hv) rfl (mv (v := vI (0)) rfl rfl (zD (zB (zP ?_))))))))))
 refine wE (ι := Nat) (fun (i : (Nat)) => i ≤ xs.length ∧ xs.take i = ys.take i) (fun (i : (Nat)) => [(0, v), (1, v'), (12, vI ↑xs.length), (13, vI ↑i)]) (fun (i : (Nat)) => []) (fun (i : (Nat)) => h0) (fun (i : (Nat)) => xs.length - i) 0 ?_ e4z rfl rfl ?_
 ·
  exact ⟨by omega, by simp⟩
 intro i hx
 obtain ⟨hi, ht⟩ := hx
 show GC _ _ _ _ _ _ [(0, v), (1, v'), (12, vI ↑xs.length), (13, vI ↑i)] [] h0
 refine zC (zA (gv (zW rfl rfl) rfl (zD (zB (zC ?_)))))
 refine zN rfl (fun hc14 => ?_) (fun hc14 => ?_)
 ·
  refine zK (zB (zC (zP (zC (zA (mv rfl rfl (asg rfl rfl (zD (zB (zC ?_))))))))))
  refine yF 9 _ [] [(0, .q), (1, .q), (2, .q), (3, .q), (4, .q), (5, .q), (6, .q), (7, .q), (8, .q)] xH nX (by kernel_rfl) nX (fun r hr => hr) (yH rfl rfl rfl (yH rfl rfl rfl (w_q rfl (fun h' L' hh hR => yN (i) underlying28 sizeOf124 rfl rfl (hv.mono hh) (by omega) (by omega)) rfl (w_q rfl (fun h' L' hh hR => yQ isAgg124 rfl (hv.mono hh) (by omega)) rfl (yH rfl rfl rfl (yH rfl rfl rfl (w_q rfl (fun h' L' hh hR => yN (i) underlying28 sizeOf124 rfl rfl (hv'.mono hh) (by omega) (by omega)) rfl (w_q rfl (fun h' L' hh hR => yQ isAgg124 rfl (hv'.mono hh) (by omega)) rfl (yK rfl (fun _ _ => ov_neq_u (k := .u32) rfl rfl) rfl (xB (zJ (e' := [(0, _), (1, _), (12, _), (13, _), (24, _)]) e5z (zB ?_))))))))))))
  refine zN rfl (fun hc24 => ?_) (fun hc24 => ?_)
  ·
   refine zC (zA (asg rfl rfl (zD (zB (zQ (vC (zV (zV (vC (zV (yC rfl rfl ?_)))))))))))
   rw [yX (fun e => hc24 (by rw [e]))]
  refine zK (xC (zB (zA (gv (zS (q := 1) rfl rfl (by omega) (by omega)) rfl (mv rfl rfl (zD ?_))))))
  refine yV (i + 1) ?_ ?_ ⟨rfl, rfl, rfl, ?_, trivial⟩ rfl rfl
  ·
   refine ⟨by omega, ?_⟩
   rw [take_succ xs i (by omega), take_succ ys i (by omega), ht]
   have e := Classical.not_not.1 hc24
   rw [e]
  ·
   omega
  · exact congrArg some (congrArg vI (by omega))
 refine xG (yB (yB (xF (zB (zC (zA (asg rfl rfl (zD (zB (zQ (yC rfl rfl ?_)))))))))))
 have e1 : xs = ys := by
   have e : i = xs.length := by omega
   rw [e, List.take_length, hll, List.take_length] at ht
   exact ht
 rw [xL e1]
theorem rat_sign {w0 : World} {h0 : Mem}  (hs : MLe h0 (mem w0)) {qa : Rat} {vna vda : Value} (hna : Us .u32 h0 vna (zF qa.num.natAbs)) (hda : Us .u32 h0 vda (zF (vO qa.den))) (hqa : lq qa ≤ 100000000000)  :
    Calls Tryz.prog 101 #[.agg #[vB (qa.num < 0), vna, vda]] w0 (Ret w0 h0 (fun _ r => r = vI (uT qa))) := by
 have hlna := vM qa
 have hlda := vS qa
 have hlDa := vE qa
 refine zM (n := 11) (e := [(0, .agg #[vB (qa.num < 0), vna, vda])]) (vs := [.agg #[vB (qa.num < 0), vna, vda]]) func101 rfl rfl (bL rfl) hs ⟨rfl, trivial⟩ (zC (zA (zI (wZ (cs := [_, _, _]) rfl rfl) rfl rfl rfl ?_)))
 intro v1 r1 hr1
 obtain ⟨b1, rfl, rfl⟩ := hr1
 refine asg (v := vI (0)) rfl rfl (zD (zB (zC (zP (zC (zA (gv (zG underlying30 rfl sizeOf28 rfl) rfl (gv (zR mh0 isAgg28 rfl rfl) rfl ?_))))))))
 refine zO (vs := [_]) rfl rfl rfl rfl call123 ⟨rfl, trivial⟩ (fun w hs => nat_bits hs hna (by omega)) ?_
 intro v6 h1 hh1 hr6
 try simp only [zU] at hr6
 subst hr6
 refine gv (xU (q := 0) rfl rfl) rfl (asg rfl rfl (zD (zB ?_)))
 refine zN rfl (fun hc3 => ?_) (fun hc3 => ?_)
 ·
  refine zC (zA (asg (v := vI (0)) rfl rfl (zD (zB (zQ (vC (zV (yC rfl rfl ?_))))))))
  rw [sgnQ_zero (num_zero_bits hc3)]
 refine zC (zA (gv (zG underlying30 rfl sizeOf4 rfl) rfl (gv (zR mh0 isAgg4 rfl rfl) rfl (asg rfl rfl (zD (zJ (e' := [(8, _)]) ⟨rfl, trivial⟩ (zB ?_)))))))
 refine zN rfl (fun hc8 => ?_) (fun hc8 => ?_)
 ·
  refine zC (zA (asg (v := vI (-1)) rfl rfl (zD (zB (zQ (vC (zV (yC rfl rfl ?_))))))))
  rw [sgnQ_neg hc8]
 refine zK (xC (zB (zC (zA (asg (v := vI (1)) rfl rfl (zD (zB (zQ (yC rfl rfl ?_)))))))))
 rw [sgnQ_pos (fun h => hc3 (bits_zero_num h)) hc8]
theorem rat_same {w0 : World} {h0 : Mem}  (hs : MLe h0 (mem w0)) {qa : Rat} {vna vda : Value} (hna : Us .u32 h0 vna (zF qa.num.natAbs)) (hda : Us .u32 h0 vda (zF (vO qa.den))) {qb : Rat} {vnb vdb : Value} (hnb : Us .u32 h0 vnb (zF qb.num.natAbs)) (hdb : Us .u32 h0 vdb (zF (vO qb.den))) (hqa : lq qa ≤ 100000000000) (hqb : lq qb ≤ 100000000000)  :
    Calls Tryz.prog 122 #[.agg #[vB (qa.num < 0), vna, vda], .agg #[vB (qb.num < 0), vnb, vdb]] w0 (Ret w0 h0 (fun _ r => r = vB (qa = qb))) := by
 have hlna := vM qa
 have hlda := vS qa
 have hlDa := vE qa
 have hlnb := vM qb
 have hldb := vS qb
 have hlDb := vE qb
 refine zM (n := 24) (e := [(0, .agg #[vB (qa.num < 0), vna, vda]), (1, .agg #[vB (qb.num < 0), vnb, vdb])]) (vs := [.agg #[vB (qa.num < 0), vna, vda], .agg #[vB (qb.num < 0), vnb, vdb]]) func122 rfl rfl (bL rfl) hs e2z (zC (zA (zI (wZ (cs := [_, _, _]) rfl rfl) rfl rfl rfl ?_)))
 intro v2 r2 hr2
 obtain ⟨b2, rfl, rfl⟩ := hr2
 refine zI (wZ (cs := [_, _, _]) rfl rfl) rfl rfl rfl ?_
 intro v3 r3 hr3
 obtain ⟨b3, rfl, rfl⟩ := hr3
 refine asg rfl rfl (zD (zB (zC (zA (gv (zG underlying30 rfl sizeOf4 rfl) rfl (gv (zR mh1 isAgg4 rfl rfl) rfl (gv (zG underlying30 rfl sizeOf4 rfl) rfl (gv (zR mh0 isAgg4 rfl rfl) rfl (gv (ov_eql_b underlying4 rfl rfl) rfl ?_)))))))))
 refine vY (ι := Mem) 7 (fun m_ => MLe h0 m_) (fun _ => [(16, vB (((qa.num < 0) ↔ (qb.num < 0)) ∧ ((zF qa.num.natAbs) = (zF qb.num.natAbs)))), (2, vP b2 0), (3, vP b3 0)]) (fun _ => [.var b3 30 [vB (qb.num < 0), vnb, vdb], .var b2 30 [vB (qa.num < 0), vna, vda]]) (fun m_ => m_) ?_ ?_
 ·
  refine wL ((qa.num < 0) ↔ (qb.num < 0)) (fun hg => ?_) (fun hg => ?_)
  ·
   refine xE (yO (v := .bool true) (congrArg some (xL hg))) rfl rfl rfl (yY rfl rfl rfl (gv (zG underlying30 rfl sizeOf28 rfl) rfl (yY rfl rfl rfl (gv (zR mh1 isAgg28 rfl rfl) rfl (yY rfl rfl rfl (gv (zG underlying30 rfl sizeOf28 rfl) rfl (yY rfl rfl rfl (gv (zR mh0 isAgg28 rfl rfl) rfl (yY rfl rfl rfl ?_)))))))))
   refine zO (vs := [_, _]) rfl rfl rfl rfl call128 e2z (fun w hs => sl_equal hs hna hnb) ?_
   intro v15 h1 hh1 hr15
   subst hr15
   refine gv (xM rfl rfl) rfl (zD ?_)
   refine yM h1 hh1 ⟨?_, rfl, rfl, trivial⟩ rfl rfl
   exact congrArg some (uC hg)
  refine xE (yO (v := .bool false) (congrArg some (yX hg))) rfl rfl rfl (yI rfl rfl rfl rfl rfl rfl (yI rfl rfl rfl rfl rfl rfl (yI rfl rfl rfl rfl rfl rfl (yI rfl rfl rfl rfl rfl rfl (yI rfl rfl rfl rfl rfl rfl (gv (xW rfl rfl) rfl (zD ?_)))))))
  refine yM h0 (MLe.refl _) ⟨?_, rfl, rfl, trivial⟩ rfl rfl
  exact congrArg some (uD hg)
 intro mg1_5 hmmg1_5
 show GL _ _ _ _ _ _ _ [(16, vB (((qa.num < 0) ↔ (qb.num < 0)) ∧ ((zF qa.num.natAbs) = (zF qb.num.natAbs)))), (2, vP b2 0), (3, vP b3 0)] [.var b3 30 [vB (qb.num < 0), vnb, vdb], .var b2 30 [vB (qa.num < 0), vna, vda]] mg1_5
 refine vY (ι := Mem) 7 (fun m_ => MLe mg1_5 m_) (fun _ => [(23, vB ((((qa.num < 0) ↔ (qb.num < 0)) ∧ ((zF qa.num.natAbs) = (zF qb.num.natAbs))) ∧ ((zF (vO qa.den)) = (zF (vO qb.den)))))]) (fun _ => [.var b3 30 [vB (qb.num < 0), vnb, vdb], .var b2 30 [vB (qa.num < 0), vna, vda]]) (fun m_ => m_) ?_ ?_
 ·
  refine wL (((qa.num < 0) ↔ (qb.num < 0)) ∧ ((zF qa.num.natAbs) = (zF qb.num.natAbs))) (fun hg => ?_) (fun hg => ?_)
  ·
   refine xE (yO (v := .bool true) (congrArg some (xL hg))) rfl rfl rfl (yY rfl rfl rfl (gv (zG underlying30 rfl sizeOf28 rfl) rfl (yY rfl rfl rfl (gv (zR mh1 isAgg28 rfl rfl) rfl (yY rfl rfl rfl (gv (zG underlying30 rfl sizeOf28 rfl) rfl (yY rfl rfl rfl (gv (zR mh0 isAgg28 rfl rfl) rfl (yY rfl rfl rfl ?_)))))))))
   replace hda := hda.mono hmmg1_5
   replace hdb := hdb.mono hmmg1_5
   refine zO (vs := [_, _]) rfl rfl rfl rfl call128 e2z (fun w hs => sl_equal hs hda hdb) ?_
   intro v22 h1 hh1 hr22
   subst hr22
   refine gv (xM rfl rfl) rfl (zD ?_)
   refine yM h1 hh1 ⟨?_, trivial⟩ rfl rfl
   exact congrArg some (uC hg)
  refine xE (yO (v := .bool false) (congrArg some (yX hg))) rfl rfl rfl (yI rfl rfl rfl rfl rfl rfl (yI rfl rfl rfl rfl rfl rfl (yI rfl rfl rfl rfl rfl rfl (yI rfl rfl rfl rfl rfl rfl (yI rfl rfl rfl rfl rfl rfl (gv (xW rfl rfl) rfl (zD ?_)))))))
  refine yM mg1_5 (MLe.refl _) ⟨?_, trivial⟩ rfl rfl
  exact congrArg some (uD hg)
 intro mg1_12 hmmg1_12
 show GL _ _ _ _ _ _ _ [(23, vB ((((qa.num < 0) ↔ (qb.num < 0)) ∧ ((zF qa.num.natAbs) = (zF qb.num.natAbs))) ∧ ((zF (vO qa.den)) = (zF (vO qb.den)))))] [.var b3 30 [vB (qb.num < 0), vnb, vdb], .var b2 30 [vB (qa.num < 0), vna, vda]] mg1_12
 refine asg rfl rfl (zD (zB (zQ (yC rfl rfl ?_))))
 exact vB_iff same_iff
theorem rat_cmp {w0 : World} {h0 : Mem}  (hs : MLe h0 (mem w0)) {qa : Rat} {vna vda : Value} (hna : Us .u32 h0 vna (zF qa.num.natAbs)) (hda : Us .u32 h0 vda (zF (vO qa.den))) {qb : Rat} {vnb vdb : Value} (hnb : Us .u32 h0 vnb (zF qb.num.natAbs)) (hdb : Us .u32 h0 vdb (zF (vO qb.den))) (hqa : lq qa ≤ 100000000000) (hqb : lq qb ≤ 100000000000)  :
    Calls Tryz.prog 104 #[.agg #[vB (qa.num < 0), vna, vda], .agg #[vB (qb.num < 0), vnb, vdb]] w0 (Ret w0 h0 (fun _ r => r = vI (kO qa qb))) := by
 have hlna := vM qa
 have hlda := vS qa
 have hlDa := vE qa
 have hlnb := vM qb
 have hldb := vS qb
 have hlDb := vE qb
 refine zM (n := 80) (e := [(0, .agg #[vB (qa.num < 0), vna, vda]), (1, .agg #[vB (qb.num < 0), vnb, vdb])]) (vs := [.agg #[vB (qa.num < 0), vna, vda], .agg #[vB (qb.num < 0), vnb, vdb]]) func104 rfl rfl (bL rfl) hs e2z (zC (zA (zI (wZ (cs := [_, _, _]) rfl rfl) rfl rfl rfl ?_)))
 intro v2 r2 hr2
 obtain ⟨b2, rfl, rfl⟩ := hr2
 refine zI (wZ (cs := [_, _, _]) rfl rfl) rfl rfl rfl ?_
 intro v3 r3 hr3
 obtain ⟨b3, rfl, rfl⟩ := hr3
 refine asg (v := vI (0)) rfl rfl (zD (zB (zC (zC ?_))))
 refine yF 6 _ [] [(0, .q), (2, .q), (1, .c), (3, .c), (4, .q), (5, .q)] xH nX (by kernel_rfl) nX (fun r hr => hr) (w_q rfl (fun h' L' hh hR => yE (vs := [_, _, _]) (hR _ mh1) underlying30 rfl zX rfl rfl) rfl (w_q rfl (fun h' L' hh hR => yE (vs := [_, _, _]) (hR _ mh0) underlying30 rfl zX rfl rfl) rfl ?_))
 refine w_c rfl ?_
 refine zY (vs := [_]) call101 ⟨rfl, trivial⟩ (fun w hs => rat_sign hs hna hda (by omega)) rfl ?_
 intro v15 h1 hh1 hr15
 have hsr15 := uE qa
 subst hr15
 refine w_c rfl ?_
 replace hnb := hnb.mono hh1
 replace hdb := hdb.mono hh1
 refine zY (vs := [_]) call101 ⟨rfl, trivial⟩ (fun w hs => rat_sign hs hnb hdb (by omega)) rfl ?_
 intro v17 h2 hh2 hr17
 have hsr17 := uE qb
 subst hr17
 refine uG rfl rfl rfl (uG rfl rfl rfl (xB (zB (zC (zA (mv rfl rfl (mv rfl rfl (gv (ov_neq_i rfl rfl) rfl (zD (zB ?_))))))))))
 refine zN rfl (fun hc20 => ?_) (fun hc20 => ?_)
 ·
  refine wJ (e' := [(5, _), (6, _)]) e2z (zC (zC (zA (mv rfl rfl (mv rfl rfl (gv (zW rfl rfl) rfl (zD (zB ?_))))))))
  refine zN rfl (fun hc23 => ?_) (fun hc23 => ?_)
  ·
   refine zC (zA (asg (v := vI (-1)) rfl rfl (zD (zB (zQ (zV (zV (yC rfl rfl ?_))))))))
   rw [cmpQ_sgn hc20, if_pos hc23]
  refine zK (zB (zC (zA (asg (v := vI (1)) rfl rfl (zD (zB (zQ (zV (yC rfl rfl ?_)))))))))
  rw [cmpQ_sgn hc20, if_neg hc23]
 have hss := sgn_same hc20
 refine wJ (e' := [(2, _), (3, _)]) e2z (zK (zB (zC (zA (asg (v := vI (0)) rfl rfl (zD (zB ?_)))))))
 refine jX (ι := Mem) (fun (mc : (Mem)) => MLe h2 mc ∧ (True)) (fun (mc : (Mem)) => [(2, vP b2 0), (7, vI (cN qa qb))]) (fun (mc : (Mem)) => [.var b3 30 [vB (qb.num < 0), vnb, vdb], .var b2 30 [vB (qa.num < 0), vna, vda]]) (fun (mc : (Mem)) => mc) ?_ ?_
 ·
  refine zC (zA (gv (yE (vs := [_, _, _]) mh1 underlying30 rfl zX rfl rfl) rfl ?_))
  replace hna := hna.mono (hh1.trans hh2)
  replace hda := hda.mono (hh1.trans hh2)
  refine zO (vs := [_]) rfl rfl rfl rfl call124 ⟨rfl, trivial⟩ (fun w hs => rat_parts hs hna hda) ?_
  intro v26 h3 hh3 hr26
  subst hr26
  refine mv rfl rfl (gv (zL (vs := [_, _, _]) rfl rfl) rfl (gv (zL (vs := [_, _, _]) rfl rfl) rfl (gv (zL (vs := [_, _, _]) rfl rfl) rfl (asg rfl rfl (asg rfl rfl (asg rfl rfl (zD (zB (zC (zA (gv (zG underlying30 rfl sizeOf28 rfl) rfl (gv (zR mh1 isAgg28 rfl rfl) rfl (gv (zG underlying30 rfl sizeOf28 rfl) rfl ?_)))))))))))))
  refine gv (zR mh0 isAgg28 rfl rfl) rfl ?_
  replace hda := hda.mono hh3
  replace hdb := hdb.mono (hh2.trans hh3)
  refine zO (vs := [_, _]) rfl rfl rfl rfl call128 e2z (fun w hs => sl_equal hs hda hdb) ?_
  intro v34 h4 hh4 hr34
  subst hr34
  refine zD (zJ (e' := [(2, _), (3, _), (7, _), (8, _), (9, _), (10, _), (34, _)]) e7 (zB ?_))
  refine zN rfl (fun hc34 => ?_) (fun hc34 => ?_)
  ·
   refine zA (gv (zG underlying30 rfl sizeOf28 rfl) rfl (gv (zR mh1 isAgg28 rfl rfl) rfl (gv (zG underlying30 rfl sizeOf28 rfl) rfl (gv (zR mh0 isAgg28 rfl rfl) rfl ?_))))
   replace hna := hna.mono (hh3.trans hh4)
   replace hnb := hnb.mono ((hh2.trans hh3).trans hh4)
   refine zO (vs := [_, _]) rfl rfl rfl rfl call129 e2z (fun w hs => nat_cmp hs hna hnb) ?_
   intro v39 h5 hh5 hr39
   try simp only [zU] at hr39
   subst hr39
   refine asg rfl rfl (zD ?_)
   refine yM (h5) ?_ ⟨rfl, ?_, trivial⟩ rfl rfl
   ·
    refine ⟨((hh3.trans hh4).trans hh5), ?_⟩
    trivial
   · exact congrArg some (congrArg vI ((cN_den hc34).symm))
  refine zC (zA (gv (yE (vs := [_, _, _]) mh0 underlying30 rfl zX rfl rfl) rfl ?_))
  replace hnb := hnb.mono ((hh2.trans hh3).trans hh4)
  replace hdb := hdb.mono hh4
  refine zO (vs := [_]) rfl rfl rfl rfl call124 ⟨rfl, trivial⟩ (fun w hs => rat_parts hs hnb hdb) ?_
  intro v42 h5 hh5 hr42
  subst hr42
  refine mv rfl rfl (gv (zL (vs := [_, _, _]) rfl rfl) rfl (gv (zL (vs := [_, _, _]) rfl rfl) rfl (gv (zL (vs := [_, _, _]) rfl rfl) rfl (asg rfl rfl (asg rfl rfl (asg rfl rfl (zD (zB (zC (zA (mv rfl rfl ?_)))))))))))
  refine vY (ι := Unit) 3 (fun _ => True) (fun _ => [(49, vB ((kZ qa) ∧ (kZ qb))), (2, vP b2 0), (3, vP b3 0), (7, vI (0)), (8, vU .u64 (pN qa)), (9, vU .u64 (pD qa)), (11, vU .u64 (pN qb)), (12, vU .u64 (pD qb))]) (fun _ => [.var b3 30 [vB (qb.num < 0), vnb, vdb], .var b2 30 [vB (qa.num < 0), vna, vda]]) (fun _ => h5) ?_ ?_
  ·
   refine wL (kZ qa) (fun hg => ?_) (fun hg => ?_)
   ·
    refine xE (yO (v := .bool true) (congrArg some (xL hg))) rfl rfl rfl (yY rfl rfl rfl (mv rfl rfl (gv (xM rfl rfl) rfl (zD ?_))))
    refine yM () trivial ⟨?_, rfl, rfl, rfl, rfl, rfl, rfl, rfl, trivial⟩ rfl rfl
    exact congrArg some (uC hg)
   refine xE (yO (v := .bool false) (congrArg some (yX hg))) rfl rfl rfl (yI rfl rfl rfl rfl rfl rfl (gv (xW rfl rfl) rfl (zD ?_)))
   refine yM () trivial ⟨?_, rfl, rfl, rfl, rfl, rfl, rfl, rfl, trivial⟩ rfl rfl
   exact congrArg some (uD hg)
  intro _ _
  show GL _ _ _ _ _ _ _ [(49, vB ((kZ qa) ∧ (kZ qb))), (2, vP b2 0), (3, vP b3 0), (7, vI (0)), (8, vU .u64 (pN qa)), (9, vU .u64 (pD qa)), (11, vU .u64 (pN qb)), (12, vU .u64 (pD qb))] [.var b3 30 [vB (qb.num < 0), vnb, vdb], .var b2 30 [vB (qa.num < 0), vna, vda]] h5
  refine zD (zB ?_)
  refine zN rfl (fun hc49 => ?_) (fun hc49 => ?_)
  ·
   have hsa := hc49.1
   have hsb := hc49.2
   have hpa := kX hsa
   have hra := kY hsa
   have hpb := kX hsb
   have hrb := kY hsb
   have hm1 := qC hpa hrb
   have hm2 := qC hpb hra
   rw [pN_t hsa, pD_t hsa, pN_t hsb, pD_t hsb]
   refine zC (zA (mv rfl rfl (mv rfl rfl (gv (jC (k := .u64) (W := 18446744073709551616) rfl rfl rfl rfl (by omega)) rfl (mv rfl rfl (mv rfl rfl (gv (jC (k := .u64) (W := 18446744073709551616) rfl rfl rfl rfl (by omega)) rfl (gv (ov_lss_u (k := .u64) rfl rfl) rfl (zD (zB ?_))))))))))
   refine zN rfl (fun hc56 => ?_) (fun hc56 => ?_)
   ·
    refine wJ (e' := [(2, _)]) ⟨rfl, trivial⟩ (zA (asg (v := vI (-1)) rfl rfl (zD ?_)))
    refine yM (h5) ?_ ⟨rfl, ?_, trivial⟩ rfl rfl
    ·
     refine ⟨((hh3.trans hh4).trans hh5), ?_⟩
     trivial
    · exact congrArg some (congrArg vI ((cmpN_lt hc56).symm))
   refine zC (zA (mv rfl rfl (mv rfl rfl (gv (jC (k := .u64) (W := 18446744073709551616) rfl rfl rfl rfl (by omega)) rfl (mv rfl rfl (mv rfl rfl (gv (jC (k := .u64) (W := 18446744073709551616) rfl rfl rfl rfl (by omega)) rfl (gv (ov_gtr_u (k := .u64) rfl rfl) rfl (zD (zJ (e' := [(2, _), (7, _), (63, _)]) e3z (zB ?_)))))))))))
   refine zN rfl (fun hc63 => ?_) (fun hc63 => ?_)
   ·
    refine zA (asg (v := vI (1)) rfl rfl (zD ?_))
    refine yM (h5) ?_ ⟨rfl, ?_, trivial⟩ rfl rfl
    ·
     refine ⟨((hh3.trans hh4).trans hh5), ?_⟩
     trivial
    · exact congrArg some (congrArg vI ((cmpN_gt hc63).symm))
   refine zK ?_
   refine yM (h5) ?_ ⟨rfl, ?_, trivial⟩ rfl rfl
   ·
    refine ⟨((hh3.trans hh4).trans hh5), ?_⟩
    trivial
   · exact congrArg some (congrArg vI ((cmpN_zero.2 (by omega)).symm))
  refine yF 12 _ [] [(0, .q), (1, .q), (2, .q), (5, .q), (6, .q), (7, .q), (3, .c), (4, .c), (8, .c), (9, .c), (10, .c), (11, .q)] xH nX (by kernel_rfl) nX (fun r hr => hr) (yK rfl (fun _ _ => zG underlying30 rfl sizeOf28 rfl) rfl (w_q rfl (fun h' L' hh hR => zR (hR _ mh1) isAgg28 rfl rfl) rfl (w_q rfl (fun h' L' hh hR => yE (vs := [_, _, _]) (hR _ mh0) underlying30 rfl zX rfl rfl) rfl (yK rfl (fun _ _ => zG underlying30 rfl sizeOf28 rfl) rfl (w_q rfl (fun h' L' hh hR => zR (hR _ mh0) isAgg28 rfl rfl) rfl (w_q rfl (fun h' L' hh hR => yE (vs := [_, _, _]) (hR _ mh1) underlying30 rfl zX rfl rfl) rfl ?_))))))
  refine w_c rfl ?_
  replace hnb := hnb.mono hh5
  replace hdb := hdb.mono hh5
  refine zY (vs := [_]) call127 ⟨rfl, trivial⟩ (fun w hs => rat_den hs hnb hdb) rfl ?_
  intro v67 h6 hh6 hr67
  rw [uP] at hr67
  refine w_c rfl ?_
  replace hna := hna.mono (((hh3.trans hh4).trans hh5).trans hh6)
  refine zY (vs := [_, _]) call126 e2z (fun w hs => nat_mul hs hna hr67 (by omega) (by omega)) rfl ?_
  intro v68 h7 hh7 hr68
  try simp only [zU] at hr68
  have hlm68 := xI ((qa.num.natAbs)) ((qb.den))
  refine w_c rfl ?_
  replace hna := hna.mono hh7
  replace hda := hda.mono (((hh4.trans hh5).trans hh6).trans hh7)
  refine zY (vs := [_]) call127 ⟨rfl, trivial⟩ (fun w hs => rat_den hs hna hda) rfl ?_
  intro v72 h8 hh8 hr72
  rw [uP] at hr72
  refine w_c rfl ?_
  replace hnb := hnb.mono ((hh6.trans hh7).trans hh8)
  refine zY (vs := [_, _]) call126 e2z (fun w hs => nat_mul hs hnb hr72 (by omega) (by omega)) rfl ?_
  intro v73 h9 hh9 hr73
  try simp only [zU] at hr73
  have hlm73 := xI ((qb.num.natAbs)) ((qa.den))
  refine w_c rfl ?_
  replace hr68 := hr68.mono (hh8.trans hh9)
  refine zY (vs := [_, _]) call129 e2z (fun w hs => nat_cmp hs hr68 hr73) rfl ?_
  intro v74 h10 hh10 hr74
  try simp only [zU] at hr74
  subst hr74
  refine uG rfl rfl rfl (xB ?_)
  refine yM (h10) ?_ e2z rfl rfl
  refine ⟨(((((((hh3.trans hh4).trans hh5).trans hh6).trans hh7).trans hh8).trans hh9).trans hh10), ?_⟩
  trivial
 intro mc hx
 obtain ⟨hmmc, hcut⟩ := hx
 show GC _ _ _ _ _ _ [(2, vP b2 0), (7, vI (cN qa qb))] [.var b3 30 [vB (qb.num < 0), vnb, vdb], .var b2 30 [vB (qa.num < 0), vna, vda]] mc
 have hcr := cN_range qa qb
 refine zC (zC (zA (gv (zG underlying30 rfl sizeOf4 rfl) rfl (gv (zR mh1 isAgg4 rfl rfl) rfl (zD (zB ?_))))))
 refine zN rfl (fun hc76 => ?_) (fun hc76 => ?_)
 ·
  refine zC (zA (mv rfl rfl (gv (ov_neg_i rfl (by omega) (by omega)) rfl (asg rfl rfl (zD (zB (zQ (zV (yC rfl rfl ?_)))))))))
  rw [cmpQ_cN hss hc76]
 refine zK (zB (zC (zA (mv rfl rfl (asg rfl rfl (zD (zB (zQ (yC rfl rfl ?_)))))))))
 rw [cmpQ_cN' hss hc76]
theorem rat_mul {w0 : World} {h0 : Mem}  (hs : MLe h0 (mem w0)) {qa : Rat} {vna vda : Value} (hna : Us .u32 h0 vna (zF qa.num.natAbs)) (hda : Us .u32 h0 vda (zF (vO qa.den))) {qb : Rat} {vnb vdb : Value} (hnb : Us .u32 h0 vnb (zF qb.num.natAbs)) (hdb : Us .u32 h0 vdb (zF (vO qb.den))) (hqa : lq qa ≤ 100000000000) (hqb : lq qb ≤ 100000000000)  :
    Calls Tryz.prog 103 #[.agg #[vB (qa.num < 0), vna, vda], .agg #[vB (qb.num < 0), vnb, vdb]] w0 (Ret w0 h0 (fun h r => vX h r (qa * qb))) := by
 have hlna := vM qa
 have hlda := vS qa
 have hlDa := vE qa
 have hlnb := vM qb
 have hldb := vS qb
 have hlDb := vE qb
 rw [← mul_eq]
 refine zM (n := 64) (e := [(0, .agg #[vB (qa.num < 0), vna, vda]), (1, .agg #[vB (qb.num < 0), vnb, vdb])]) (vs := [.agg #[vB (qa.num < 0), vna, vda], .agg #[vB (qb.num < 0), vnb, vdb]]) func103 rfl rfl (bL rfl) hs e2z (zC (zA (zI (wZ (cs := [_, _, _]) rfl rfl) rfl rfl rfl ?_)))
 intro v2 r2 hr2
 obtain ⟨b2, rfl, rfl⟩ := hr2
 refine zI (wZ (cs := [_, _, _]) rfl rfl) rfl rfl rfl ?_
 intro v3 r3 hr3
 obtain ⟨b3, rfl, rfl⟩ := hr3
 refine zI (vV (cs := [vB ((0 : Rat).num < 0), .slice none 0 0, .slice none 0 0]) wT rfl (by simp only [zb]; rfl)) rfl rfl rfl ?_
 intro v4 r4 hr4
 obtain ⟨b4, rfl, rfl⟩ := hr4
 refine zD (zB (zC (zC (zA (gv (zG underlying30 rfl sizeOf28 rfl) rfl (gv (zR mh2 isAgg28 rfl rfl) rfl (gv (zZ underlying28 rfl hna) rfl (gv (xU (q := 0) rfl rfl) rfl ?_))))))))
 refine vY (ι := Unit) 6 (fun _ => True) (fun _ => [(20, vB (((↑(zF qa.num.natAbs).length : Int) = (0 : Int)) ∨ ((↑(zF qb.num.natAbs).length : Int) = (0 : Int)))), (2, vP b2 0), (3, vP b3 0), (4, vP b4 0)]) (fun _ => [.var b4 30 [vB ((0 : Rat).num < 0), .slice none 0 0, .slice none 0 0], .var b3 30 [vB (qb.num < 0), vnb, vdb], .var b2 30 [vB (qa.num < 0), vna, vda]]) (fun _ => h0) ?_ ?_
 ·
  refine wL ((↑(zF qa.num.natAbs).length : Int) = (0 : Int)) (fun hg => ?_) (fun hg => ?_)
  ·
   refine xE (yO (v := .bool true) (congrArg some (xL hg))) rfl rfl rfl (yI rfl rfl rfl rfl rfl rfl (yI rfl rfl rfl rfl rfl rfl (yI rfl rfl rfl rfl rfl rfl (yI rfl rfl rfl rfl rfl rfl (gv (xM rfl rfl) rfl (zD ?_))))))
   refine yM () trivial ⟨?_, rfl, rfl, rfl, trivial⟩ rfl rfl
   exact congrArg some (jZ hg)
  refine xE (yO (v := .bool false) (congrArg some (yX hg))) rfl rfl rfl (yY rfl rfl rfl (gv (zG underlying30 rfl sizeOf28 rfl) rfl (yY rfl rfl rfl (gv (zR mh1 isAgg28 rfl rfl) rfl (yY rfl rfl rfl (gv (zZ underlying28 rfl hnb) rfl (yY rfl rfl rfl (gv (xU (q := 0) rfl rfl) rfl (gv (xW rfl rfl) rfl (zD ?_))))))))))
  refine yM () trivial ⟨?_, rfl, rfl, rfl, trivial⟩ rfl rfl
  exact congrArg some (kA hg)
 intro _ _
 show GL _ _ _ _ _ _ _ [(20, vB (((↑(zF qa.num.natAbs).length : Int) = (0 : Int)) ∨ ((↑(zF qb.num.natAbs).length : Int) = (0 : Int)))), (2, vP b2 0), (3, vP b3 0), (4, vP b4 0)] [.var b4 30 [vB ((0 : Rat).num < 0), .slice none 0 0, .slice none 0 0], .var b3 30 [vB (qb.num < 0), vnb, vdb], .var b2 30 [vB (qa.num < 0), vna, vda]] h0
 refine zD (zB ?_)
 refine zN rfl (fun hc20 => ?_) (fun hc20 => ?_)
 ·
  refine zC (zA (gv (wK (ps' := []) (vs := [vB ((0 : Rat).num < 0), .slice none 0 0, .slice none 0 0]) underlying30 wT rfl (qK underlying30) trivial (by simp only [zb]; exact qI)) rfl (wY (A := []) (r' := .var b4 30 [vB ((0 : Rat).num < 0), .slice none 0 0, .slice none 0 0]) (yA (k := 0) (cs := [_, _, _]) (vs := [_, _, _]) rfl rfl rfl rfl zX (bL rfl)) rfl rfl rfl (zD (zB (zQ (zV (xQ (fun E S => yS rfl (wX (cs := [_, _, _]) mh0 underlying30 rfl zX rfl) E S) ?_))))))))
  rcases hc20 with h | h
  · rw [num_zero h, show (0 : Rat).num.natAbs = 0 from rfl, Nat.zero_mul, mk_zero]; exact vX.zero _
  · rw [num_zero h, show (0 : Rat).num.natAbs = 0 from rfl, Nat.mul_zero, mk_zero]; exact vX.zero _
 refine zK (zB (zC (zC (zA (gv (yE (vs := [_, _, _]) mh2 underlying30 rfl zX rfl rfl) rfl ?_)))))
 refine zO (vs := [_]) rfl rfl rfl rfl call124 ⟨rfl, trivial⟩ (fun w hs => rat_parts hs hna hda) ?_
 intro v24 h1 hh1 hr24
 subst hr24
 refine mv rfl rfl (gv (zL (vs := [_, _, _]) rfl rfl) rfl (gv (zL (vs := [_, _, _]) rfl rfl) rfl (gv (zL (vs := [_, _, _]) rfl rfl) rfl (asg rfl rfl (asg rfl rfl (asg rfl rfl (zD (zB (zC (zA (mv rfl rfl (zD (zB ?_)))))))))))))
 refine zN rfl (fun hc28 => ?_) (fun hc28 => ?_)
 ·
  have hsa := hc28
  have hpa := kX hsa
  have hra := kY hsa
  refine zC (zA (gv (yE (vs := [_, _, _]) mh1 underlying30 rfl zX rfl rfl) rfl ?_))
  replace hnb := hnb.mono hh1
  replace hdb := hdb.mono hh1
  refine zO (vs := [_]) rfl rfl rfl rfl call124 ⟨rfl, trivial⟩ (fun w hs => rat_parts hs hnb hdb) ?_
  intro v31 h2 hh2 hr31
  subst hr31
  refine mv rfl rfl (gv (zL (vs := [_, _, _]) rfl rfl) rfl (gv (zL (vs := [_, _, _]) rfl rfl) rfl (gv (zL (vs := [_, _, _]) rfl rfl) rfl (asg rfl rfl (asg rfl rfl (asg rfl rfl (zD (zJ (e' := [(2, _), (3, _), (4, _), (5, _), (6, _), (8, _), (9, _), (10, _)]) e8 (zB (zC (zA (mv rfl rfl (zD ?_)))))))))))))
  refine zB ?_
  refine zN rfl (fun hc35 => ?_) (fun hc35 => ?_)
  ·
   have hsb := hc35
   have hpb := kX hsb
   have hrb := kY hsb
   have hm1 := qC hpa hrb
   have hm2 := qC hpb hra
   have hm3 := qC hra hrb
   have hm4 := qC hpa hpb
   have hm5 := qC hra hpb
   have hd0 : qa.den * qb.den ≠ 0 := Nat.mul_ne_zero qa.den_nz qb.den_nz
   simp only [pN_t hsa, pD_t hsa, pN_t hsb, pD_t hsb]
   refine zC (zA (gv (zG underlying30 rfl sizeOf4 rfl) rfl (gv (zR mh2 isAgg4 rfl rfl) rfl (gv (zG underlying30 rfl sizeOf4 rfl) rfl (gv (zR mh1 isAgg4 rfl rfl) rfl (gv (ov_neq_b underlying4 rfl rfl) rfl (mv rfl rfl (mv rfl rfl (gv (jC (k := .u64) (W := 18446744073709551616) rfl rfl rfl rfl (by omega)) rfl (mv rfl rfl (mv rfl rfl (gv (jC (k := .u64) (W := 18446744073709551616) rfl rfl rfl rfl (by omega)) rfl ?_))))))))))))
   refine zO (vs := [_, _, _]) rfl rfl rfl rfl call125 e3z (fun w hs => rat_short hs (by omega) (by omega) (by omega)) ?_
   intro v47 h3 hh3 hr47
   obtain ⟨vn47, vd47, rfl, hn47, hd47⟩ := hr47
   refine wY (A := []) (r' := .var b4 30 [vB ((mkRat (sg (¬ ((qa.num < 0) ↔ (qb.num < 0))) (qa.num.natAbs * qb.num.natAbs)) (qa.den * qb.den)).num < 0), vn47, vd47]) (yA (k := 0) (cs := [_, _, _]) (vs := [_, _, _]) rfl rfl rfl (ocr rfl (ocu hn47 (ocu hd47 oc0))) zX (bL rfl)) rfl rfl rfl (zD (zJ (e' := [(4, _)]) ⟨rfl, trivial⟩ (zB (zQ (zV (xQ (fun E S => yS rfl (wX (cs := [_, _, _]) mh0 underlying30 rfl zX rfl) E S) ?_))))))
   exact ⟨_, _, rfl, hn47, hd47⟩
  refine zK (zB (zC ?_))
  refine yF 16 _ [] [(0, .q), (1, .q), (2, .q), (3, .q), (4, .q), (5, .q), (6, .q), (7, .q), (8, .q), (10, .q), (12, .q), (9, .c), (11, .c), (13, .c), (14, .c), (15, .c), (16, .t)] xH nX (by kernel_rfl) nX (fun r hr => hr) (yK rfl (fun _ _ => zG underlying30 rfl sizeOf4 rfl) rfl (w_q rfl (fun h' L' hh hR => zR (hR _ mh2) isAgg4 rfl rfl) rfl (yK rfl (fun _ _ => zG underlying30 rfl sizeOf4 rfl) rfl (w_q rfl (fun h' L' hh hR => zR (hR _ mh1) isAgg4 rfl rfl) rfl (yK rfl (fun _ _ => ov_neq_b underlying4 rfl rfl) rfl (yK rfl (fun _ _ => zG underlying30 rfl sizeOf28 rfl) rfl (w_q rfl (fun h' L' hh hR => zR (hR _ mh2) isAgg28 rfl rfl) rfl (yK rfl (fun _ _ => zG underlying30 rfl sizeOf28 rfl) rfl (w_q rfl (fun h' L' hh hR => zR (hR _ mh1) isAgg28 rfl rfl) rfl (w_q rfl (fun h' L' hh hR => yE (vs := [_, _, _]) (hR _ mh2) underlying30 rfl zX rfl rfl) rfl (w_q rfl (fun h' L' hh hR => yE (vs := [_, _, _]) (hR _ mh1) underlying30 rfl zX rfl rfl) rfl ?_)))))))))))
  refine w_c rfl ?_
  replace hna := hna.mono (hh1.trans hh2)
  replace hnb := hnb.mono hh2
  refine zY (vs := [_, _]) call126 e2z (fun w hs => nat_mul hs hna hnb (by omega) (by omega)) rfl ?_
  intro v57 h3 hh3 hr57
  try simp only [zU] at hr57
  have hlm57 := xI ((qa.num.natAbs)) ((qb.num.natAbs))
  refine w_c rfl ?_
  replace hna := hna.mono hh3
  replace hda := hda.mono ((hh1.trans hh2).trans hh3)
  refine zY (vs := [_]) call127 ⟨rfl, trivial⟩ (fun w hs => rat_den hs hna hda) rfl ?_
  intro v59 h4 hh4 hr59
  rw [uP] at hr59
  refine w_c rfl ?_
  replace hnb := hnb.mono (hh3.trans hh4)
  replace hdb := hdb.mono ((hh2.trans hh3).trans hh4)
  refine zY (vs := [_]) call127 ⟨rfl, trivial⟩ (fun w hs => rat_den hs hnb hdb) rfl ?_
  intro v61 h5 hh5 hr61
  rw [uP] at hr61
  refine w_c rfl ?_
  replace hr59 := hr59.mono hh5
  refine zY (vs := [_, _]) call126 e2z (fun w hs => nat_mul hs hr59 hr61 (by omega) (by omega)) rfl ?_
  intro v62 h6 hh6 hr62
  try simp only [zU] at hr62
  have hlm62 := xI ((qa.den)) ((qb.den))
  refine w_c rfl ?_
  replace hr57 := hr57.mono ((hh4.trans hh5).trans hh6)
  refine zY (vs := [_, _, _]) call106 e3z (fun w hs => kI hs hr57 hr62 (by omega) (by omega)) rfl ?_
  intro v63 h7 hh7 hr63
  try simp only [zU] at hr63
  obtain ⟨vn63, vd63, rfl, hn63, hd63⟩ := hr63
  refine w_t_upd (A := []) (q' := .var b4 30 [vB ((mkRat (sg (¬ ((qa.num < 0) ↔ (qb.num < 0))) (((((qa.num.natAbs)) * ((qb.num.natAbs)))))) (((((qa.den)) * ((qb.den)))))).num < 0), vn63, vd63]) rfl (yA (k := 0) (cs := [_, _, _]) (vs := [_, _, _]) rfl rfl rfl (ocr rfl (ocu hn63 (ocu hd63 oc0))) zX (bL rfl)) rfl (xB (zJ (e' := [(4, _)]) ⟨rfl, trivial⟩ (zB (zQ (xQ (fun E S => yS rfl (wX (cs := [_, _, _]) mh0 underlying30 rfl zX rfl) E S) ?_)))))
  exact ⟨_, _, rfl, hn63, hd63⟩
 refine wJ (e' := [(2, _), (3, _), (4, _)]) e3z (zK (zB (zC ?_)))
 refine yF 16 _ [] [(0, .q), (1, .q), (2, .q), (3, .q), (4, .q), (5, .q), (6, .q), (7, .q), (8, .q), (10, .q), (12, .q), (9, .c), (11, .c), (13, .c), (14, .c), (15, .c), (16, .t)] xH nX (by kernel_rfl) nX (fun r hr => hr) (yK rfl (fun _ _ => zG underlying30 rfl sizeOf4 rfl) rfl (w_q rfl (fun h' L' hh hR => zR (hR _ mh2) isAgg4 rfl rfl) rfl (yK rfl (fun _ _ => zG underlying30 rfl sizeOf4 rfl) rfl (w_q rfl (fun h' L' hh hR => zR (hR _ mh1) isAgg4 rfl rfl) rfl (yK rfl (fun _ _ => ov_neq_b underlying4 rfl rfl) rfl (yK rfl (fun _ _ => zG underlying30 rfl sizeOf28 rfl) rfl (w_q rfl (fun h' L' hh hR => zR (hR _ mh2) isAgg28 rfl rfl) rfl (yK rfl (fun _ _ => zG underlying30 rfl sizeOf28 rfl) rfl (w_q rfl (fun h' L' hh hR => zR (hR _ mh1) isAgg28 rfl rfl) rfl (w_q rfl (fun h' L' hh hR => yE (vs := [_, _, _]) (hR _ mh2) underlying30 rfl zX rfl rfl) rfl (w_q rfl (fun h' L' hh hR => yE (vs := [_, _, _]) (hR _ mh1) underlying30 rfl zX rfl rfl) rfl ?_)))))))))))
 refine w_c rfl ?_
 replace hna := hna.mono hh1
 replace hnb := hnb.mono hh1
 refine zY (vs := [_, _]) call126 e2z (fun w hs => nat_mul hs hna hnb (by omega) (by omega)) rfl ?_
 intro v57 h2 hh2 hr57
 try simp only [zU] at hr57
 have hlm57 := xI ((qa.num.natAbs)) ((qb.num.natAbs))
 refine w_c rfl ?_
 replace hna := hna.mono hh2
 replace hda := hda.mono (hh1.trans hh2)
 refine zY (vs := [_]) call127 ⟨rfl, trivial⟩ (fun w hs => rat_den hs hna hda) rfl ?_
 intro v59 h3 hh3 hr59
 rw [uP] at hr59
 refine w_c rfl ?_
 replace hnb := hnb.mono (hh2.trans hh3)
 replace hdb := hdb.mono ((hh1.trans hh2).trans hh3)
 refine zY (vs := [_]) call127 ⟨rfl, trivial⟩ (fun w hs => rat_den hs hnb hdb) rfl ?_
 intro v61 h4 hh4 hr61
 rw [uP] at hr61
 refine w_c rfl ?_
 replace hr59 := hr59.mono hh4
 refine zY (vs := [_, _]) call126 e2z (fun w hs => nat_mul hs hr59 hr61 (by omega) (by omega)) rfl ?_
 intro v62 h5 hh5 hr62
 try simp only [zU] at hr62
 have hlm62 := xI ((qa.den)) ((qb.den))
 refine w_c rfl ?_
 replace hr57 := hr57.mono ((hh3.trans hh4).trans hh5)
 refine zY (vs := [_, _, _]) call106 e3z (fun w hs => kI hs hr57 hr62 (by omega) (by omega)) rfl ?_
 intro v63 h6 hh6 hr63
 try simp only [zU] at hr63
 obtain ⟨vn63, vd63, rfl, hn63, hd63⟩ := hr63
 refine w_t_upd (A := []) (q' := .var b4 30 [vB ((mkRat (sg (¬ ((qa.num < 0) ↔ (qb.num < 0))) (((((qa.num.natAbs)) * ((qb.num.natAbs)))))) (((((qa.den)) * ((qb.den)))))).num < 0), vn63, vd63]) rfl (yA (k := 0) (cs := [_, _, _]) (vs := [_, _, _]) rfl rfl rfl (ocr rfl (ocu hn63 (ocu hd63 oc0))) zX (bL rfl)) rfl (xB (zJ (e' := [(4, _)]) ⟨rfl, trivial⟩ (zB (zQ (xQ (fun E S => yS rfl (wX (cs := [_, _, _]) mh0 underlying30 rfl zX rfl) E S) ?_)))))
 exact ⟨_, _, rfl, hn63, hd63⟩
theorem rat_quo {w0 : World} {h0 : Mem}  (hs : MLe h0 (mem w0)) {qa : Rat} {vna vda : Value} (hna : Us .u32 h0 vna (zF qa.num.natAbs)) (hda : Us .u32 h0 vda (zF (vO qa.den))) {qb : Rat} {vnb vdb : Value} (hnb : Us .u32 h0 vnb (zF qb.num.natAbs)) (hdb : Us .u32 h0 vdb (zF (vO qb.den))) (hqa : lq qa ≤ 100000000000) (hqb : lq qb ≤ 100000000000)  :
    Calls Tryz.prog 110 #[.agg #[vB (qa.num < 0), vna, vda], .agg #[vB (qb.num < 0), vnb, vdb]] w0 (Ret w0 h0 (fun h r => ∃ u, r = .tuple #[u, vI (if qb = 0 then 3 else 0)] ∧ vX h u (if qb = 0 then 0 else qa / qb))) := by
 have hlna := vM qa
 have hlda := vS qa
 have hlDa := vE qa
 have hlnb := vM qb
 have hldb := vS qb
 have hlDb := vE qb
 refine zM (n := 58) (e := [(0, .agg #[vB (qa.num < 0), vna, vda]), (1, .agg #[vB (qb.num < 0), vnb, vdb])]) (vs := [.agg #[vB (qa.num < 0), vna, vda], .agg #[vB (qb.num < 0), vnb, vdb]]) func110 rfl rfl (bL rfl) hs e2z (zC (zA (zI (wZ (cs := [_, _, _]) rfl rfl) rfl rfl rfl ?_)))
 intro v2 r2 hr2
 obtain ⟨b2, rfl, rfl⟩ := hr2
 refine zI (wZ (cs := [_, _, _]) rfl rfl) rfl rfl rfl ?_
 intro v3 r3 hr3
 obtain ⟨b3, rfl, rfl⟩ := hr3
 refine zI (vV (cs := [vB ((0 : Rat).num < 0), .slice none 0 0, .slice none 0 0]) wT rfl (by simp only [zb]; rfl)) rfl rfl rfl ?_
 intro v4 r4 hr4
 obtain ⟨b4, rfl, rfl⟩ := hr4
 refine asg (v := vI (0)) rfl rfl (zD (zB (zC (zC (zA (gv (yE (vs := [_, _, _]) mh1 underlying30 rfl zX rfl rfl) rfl ?_))))))
 refine zO (vs := [_]) rfl rfl rfl rfl call101 ⟨rfl, trivial⟩ (fun w hs => rat_sign hs hnb hdb (by omega)) ?_
 intro v13 h1 hh1 hr13
 have hsr13 := uE qb
 subst hr13
 refine gv (xU (q := 0) rfl rfl) rfl (zD (zB ?_))
 refine zN rfl (fun hc14 => ?_) (fun hc14 => ?_)
 ·
  have hb0 := uQ.1 hc14
  rw [if_pos hb0, if_pos hb0]
  refine zC (zA (gv (wK (ps' := []) (vs := [vB ((0 : Rat).num < 0), .slice none 0 0, .slice none 0 0]) underlying30 wT rfl (qK underlying30) trivial (by simp only [zb]; exact qI)) rfl (wY (A := []) (r' := .var b4 30 [vB ((0 : Rat).num < 0), .slice none 0 0, .slice none 0 0]) (yA (k := 0) (cs := [_, _, _]) (vs := [_, _, _]) rfl rfl rfl rfl zX (bL rfl)) rfl rfl rfl (asg (v := vI (3)) rfl rfl (zD (zB (zQ (zV (xQ (fun E S => run_res2 rfl (wX (cs := [_, _, _]) mh0 underlying30 rfl zX rfl) (rv_tmp rfl) E S) ?_)))))))))
  exact ⟨_, rfl, vX.zero _⟩
 have hb0 : qb ≠ 0 := fun h => hc14 (uQ.2 h)
 rw [if_neg hb0, if_neg hb0, ← quo_eq qa hb0]
 have hbn := num_ne.2 hb0
 refine zK (zB (zC (zC (zA (gv (yE (vs := [_, _, _]) mh2 underlying30 rfl zX rfl rfl) rfl ?_)))))
 replace hna := hna.mono hh1
 replace hda := hda.mono hh1
 refine zO (vs := [_]) rfl rfl rfl rfl call124 ⟨rfl, trivial⟩ (fun w hs => rat_parts hs hna hda) ?_
 intro v18 h2 hh2 hr18
 subst hr18
 refine mv rfl rfl (gv (zL (vs := [_, _, _]) rfl rfl) rfl (gv (zL (vs := [_, _, _]) rfl rfl) rfl (gv (zL (vs := [_, _, _]) rfl rfl) rfl (asg rfl rfl (asg rfl rfl (asg rfl rfl (zD (zJ (e' := [(2, _), (3, _), (4, _), (6, _), (7, _), (8, _)]) e6 (zB (zC (zA (mv rfl rfl (zD ?_)))))))))))))
 refine zB ?_
 refine zN rfl (fun hc22 => ?_) (fun hc22 => ?_)
 ·
  have hsa := hc22
  have hpa := kX hsa
  have hra := kY hsa
  refine zC (zA (gv (yE (vs := [_, _, _]) mh1 underlying30 rfl zX rfl rfl) rfl ?_))
  replace hnb := hnb.mono (hh1.trans hh2)
  replace hdb := hdb.mono (hh1.trans hh2)
  refine zO (vs := [_]) rfl rfl rfl rfl call124 ⟨rfl, trivial⟩ (fun w hs => rat_parts hs hnb hdb) ?_
  intro v25 h3 hh3 hr25
  subst hr25
  refine mv rfl rfl (gv (zL (vs := [_, _, _]) rfl rfl) rfl (gv (zL (vs := [_, _, _]) rfl rfl) rfl (gv (zL (vs := [_, _, _]) rfl rfl) rfl (asg rfl rfl (asg rfl rfl (asg rfl rfl (zD (zB (zC (zA (mv rfl rfl (zD (zB ?_)))))))))))))
  refine zN rfl (fun hc29 => ?_) (fun hc29 => ?_)
  ·
   have hsb := hc29
   have hpb := kX hsb
   have hrb := kY hsb
   have hm1 := qC hpa hrb
   have hm2 := qC hpb hra
   have hm3 := qC hra hrb
   have hm4 := qC hpa hpb
   have hm5 := qC hra hpb
   have hd0 : qa.den * qb.num.natAbs ≠ 0 := Nat.mul_ne_zero qa.den_nz hbn
   simp only [pN_t hsa, pD_t hsa, pN_t hsb, pD_t hsb]
   refine wJ (e' := [(2, _), (3, _), (4, _), (6, _), (7, _), (9, _), (10, _)]) e7 (zC (zA (gv (zG underlying30 rfl sizeOf4 rfl) rfl (gv (zR mh2 isAgg4 rfl rfl) rfl (gv (zG underlying30 rfl sizeOf4 rfl) rfl (gv (zR mh1 isAgg4 rfl rfl) rfl (gv (ov_neq_b underlying4 rfl rfl) rfl (mv rfl rfl (mv rfl rfl (gv (jC (k := .u64) (W := 18446744073709551616) rfl rfl rfl rfl (by omega)) rfl (mv rfl rfl (mv rfl rfl (gv (jC (k := .u64) (W := 18446744073709551616) rfl rfl rfl rfl (by omega)) rfl ?_)))))))))))))
   refine zO (vs := [_, _, _]) rfl rfl rfl rfl call125 e3z (fun w hs => rat_short hs (by omega) (by omega) (by omega)) ?_
   intro v41 h4 hh4 hr41
   obtain ⟨vn41, vd41, rfl, hn41, hd41⟩ := hr41
   refine wY (A := []) (r' := .var b4 30 [vB ((mkRat (sg (¬ ((qa.num < 0) ↔ (qb.num < 0))) (qa.num.natAbs * qb.den)) (qa.den * qb.num.natAbs)).num < 0), vn41, vd41]) (yA (k := 0) (cs := [_, _, _]) (vs := [_, _, _]) rfl rfl rfl (ocr rfl (ocu hn41 (ocu hd41 oc0))) zX (bL rfl)) rfl rfl rfl (asg (v := vI (0)) rfl rfl (zD (zJ (e' := [(4, _), (5, _)]) e2z (zB (zQ (zV (xQ (fun E S => run_res2 rfl (wX (cs := [_, _, _]) mh0 underlying30 rfl zX rfl) (rv_tmp rfl) E S) ?_)))))))
   exact ⟨_, rfl, _, _, rfl, hn41, hd41⟩
  refine wJ (e' := [(2, _), (3, _), (4, _)]) e3z (zK (zB (zC ?_)))
  refine yF 16 _ [] [(0, .q), (1, .q), (2, .q), (3, .q), (4, .q), (5, .q), (6, .q), (7, .q), (10, .q), (12, .q), (13, .q), (8, .c), (9, .c), (11, .c), (14, .c), (15, .c), (16, .t), (17, .t)] xH nX (by kernel_rfl) nX (fun r hr => hr) (yK rfl (fun _ _ => zG underlying30 rfl sizeOf4 rfl) rfl (w_q rfl (fun h' L' hh hR => zR (hR _ mh2) isAgg4 rfl rfl) rfl (yK rfl (fun _ _ => zG underlying30 rfl sizeOf4 rfl) rfl (w_q rfl (fun h' L' hh hR => zR (hR _ mh1) isAgg4 rfl rfl) rfl (yK rfl (fun _ _ => ov_neq_b underlying4 rfl rfl) rfl (yK rfl (fun _ _ => zG underlying30 rfl sizeOf28 rfl) rfl (w_q rfl (fun h' L' hh hR => zR (hR _ mh2) isAgg28 rfl rfl) rfl (w_q rfl (fun h' L' hh hR => yE (vs := [_, _, _]) (hR _ mh1) underlying30 rfl zX rfl rfl) rfl (w_q rfl (fun h' L' hh hR => yE (vs := [_, _, _]) (hR _ mh2) underlying30 rfl zX rfl rfl) rfl (yK rfl (fun _ _ => zG underlying30 rfl sizeOf28 rfl) rfl (w_q rfl (fun h' L' hh hR => zR (hR _ mh1) isAgg28 rfl rfl) rfl ?_)))))))))))
  refine w_c rfl ?_
  replace hnb := hnb.mono hh3
  replace hdb := hdb.mono hh3
  refine zY (vs := [_]) call127 ⟨rfl, trivial⟩ (fun w hs => rat_den hs hnb hdb) rfl ?_
  intro v50 h4 hh4 hr50
  rw [uP] at hr50
  refine w_c rfl ?_
  replace hna := hna.mono ((hh2.trans hh3).trans hh4)
  refine zY (vs := [_, _]) call126 e2z (fun w hs => nat_mul hs hna hr50 (by omega) (by omega)) rfl ?_
  intro v51 h5 hh5 hr51
  try simp only [zU] at hr51
  have hlm51 := xI ((qa.num.natAbs)) ((qb.den))
  refine w_c rfl ?_
  replace hna := hna.mono hh5
  replace hda := hda.mono (((hh2.trans hh3).trans hh4).trans hh5)
  refine zY (vs := [_]) call127 ⟨rfl, trivial⟩ (fun w hs => rat_den hs hna hda) rfl ?_
  intro v53 h6 hh6 hr53
  rw [uP] at hr53
  refine w_c rfl ?_
  replace hnb := hnb.mono ((hh4.trans hh5).trans hh6)
  refine zY (vs := [_, _]) call126 e2z (fun w hs => nat_mul hs hr53 hnb (by omega) (by omega)) rfl ?_
  intro v56 h7 hh7 hr56
  try simp only [zU] at hr56
  have hlm56 := xI ((qa.den)) ((qb.num.natAbs))
  refine w_c rfl ?_
  replace hr51 := hr51.mono (hh6.trans hh7)
  refine zY (vs := [_, _, _]) call106 e3z (fun w hs => kI hs hr51 hr56 (by omega) (by omega)) rfl ?_
  intro v57 h8 hh8 hr57
  try simp only [zU] at hr57
  obtain ⟨vn57, vd57, rfl, hn57, hd57⟩ := hr57
  refine w_t_upd (A := []) (q' := .var b4 30 [vB ((mkRat (sg (¬ ((qa.num < 0) ↔ (qb.num < 0))) (((((qa.num.natAbs)) * ((qb.den)))))) (((((qa.den)) * ((qb.num.natAbs)))))).num < 0), vn57, vd57]) rfl (yA (k := 0) (cs := [_, _, _]) (vs := [_, _, _]) rfl rfl rfl (ocr rfl (ocu hn57 (ocu hd57 oc0))) zX (bL rfl)) rfl (w_t_val rfl (ov_assign (v := vI (0)) rfl) rfl (xB (zJ (e' := [(4, _), (5, _)]) e2z (zB (zQ (xQ (fun E S => run_res2 rfl (wX (cs := [_, _, _]) mh0 underlying30 rfl zX rfl) (rv_tmp rfl) E S) ?_))))))
  exact ⟨_, rfl, _, _, rfl, hn57, hd57⟩
 refine zK (zB (zC ?_))
 refine yF 16 _ [] [(0, .q), (1, .q), (2, .q), (3, .q), (4, .q), (5, .q), (6, .q), (7, .q), (10, .q), (12, .q), (13, .q), (8, .c), (9, .c), (11, .c), (14, .c), (15, .c), (16, .t), (17, .t)] xH nX (by kernel_rfl) nX (fun r hr => hr) (yK rfl (fun _ _ => zG underlying30 rfl sizeOf4 rfl) rfl (w_q rfl (fun h' L' hh hR => zR (hR _ mh2) isAgg4 rfl rfl) rfl (yK rfl (fun _ _ => zG underlying30 rfl sizeOf4 rfl) rfl (w_q rfl (fun h' L' hh hR => zR (hR _ mh1) isAgg4 rfl rfl) rfl (yK rfl (fun _ _ => ov_neq_b underlying4 rfl rfl) rfl (yK rfl (fun _ _ => zG underlying30 rfl sizeOf28 rfl) rfl (w_q rfl (fun h' L' hh hR => zR (hR _ mh2) isAgg28 rfl rfl) rfl (w_q rfl (fun h' L' hh hR => yE (vs := [_, _, _]) (hR _ mh1) underlying30 rfl zX rfl rfl) rfl (w_q rfl (fun h' L' hh hR => yE (vs := [_, _, _]) (hR _ mh2) underlying30 rfl zX rfl rfl) rfl (yK rfl (fun _ _ => zG underlying30 rfl sizeOf28 rfl) rfl (w_q rfl (fun h' L' hh hR => zR (hR _ mh1) isAgg28 rfl rfl) rfl ?_)))))))))))
 refine w_c rfl ?_
 replace hnb := hnb.mono (hh1.trans hh2)
 replace hdb := hdb.mono (hh1.trans hh2)
 refine zY (vs := [_]) call127 ⟨rfl, trivial⟩ (fun w hs => rat_den hs hnb hdb) rfl ?_
 intro v50 h3 hh3 hr50
 rw [uP] at hr50
 refine w_c rfl ?_
 replace hna := hna.mono (hh2.trans hh3)
 refine zY (vs := [_, _]) call126 e2z (fun w hs => nat_mul hs hna hr50 (by omega) (by omega)) rfl ?_
 intro v51 h4 hh4 hr51
 try simp only [zU] at hr51
 have hlm51 := xI ((qa.num.natAbs)) ((qb.den))
 refine w_c rfl ?_
 replace hna := hna.mono hh4
 replace hda := hda.mono ((hh2.trans hh3).trans hh4)
 refine zY (vs := [_]) call127 ⟨rfl, trivial⟩ (fun w hs => rat_den hs hna hda) rfl ?_
 intro v53 h5 hh5 hr53
 rw [uP] at hr53
 refine w_c rfl ?_
 replace hnb := hnb.mono ((hh3.trans hh4).trans hh5)
 refine zY (vs := [_, _]) call126 e2z (fun w hs => nat_mul hs hr53 hnb (by omega) (by omega)) rfl ?_
 intro v56 h6 hh6 hr56
 try simp only [zU] at hr56
 have hlm56 := xI ((qa.den)) ((qb.num.natAbs))
 refine w_c rfl ?_
 replace hr51 := hr51.mono (hh5.trans hh6)
 refine zY (vs := [_, _, _]) call106 e3z (fun w hs => kI hs hr51 hr56 (by omega) (by omega)) rfl ?_
 intro v57 h7 hh7 hr57
 try simp only [zU] at hr57
 obtain ⟨vn57, vd57, rfl, hn57, hd57⟩ := hr57
 refine w_t_upd (A := []) (q' := .var b4 30 [vB ((mkRat (sg (¬ ((qa.num < 0) ↔ (qb.num < 0))) (((((qa.num.natAbs)) * ((qb.den)))))) (((((qa.den)) * ((qb.num.natAbs)))))).num < 0), vn57, vd57]) rfl (yA (k := 0) (cs := [_, _, _]) (vs := [_, _, _]) rfl rfl rfl (ocr rfl (ocu hn57 (ocu hd57 oc0))) zX (bL rfl)) rfl (w_t_val rfl (ov_assign (v := vI (0)) rfl) rfl (xB (zJ (e' := [(4, _), (5, _)]) e2z (zB (zQ (xQ (fun E S => run_res2 rfl (wX (cs := [_, _, _]) mh0 underlying30 rfl zX rfl) (rv_tmp rfl) E S) ?_))))))
 exact ⟨_, rfl, _, _, rfl, hn57, hd57⟩
theorem rat_addn {w0 : World} {h0 : Mem}  (hs : MLe h0 (mem w0)) {qa : Rat} {vna vda : Value} (hna : Us .u32 h0 vna (zF qa.num.natAbs)) (hda : Us .u32 h0 vda (zF (vO qa.den))) {qb : Rat} {vnb vdb : Value} (hnb : Us .u32 h0 vnb (zF qb.num.natAbs)) (hdb : Us .u32 h0 vdb (zF (vO qb.den))) (hqa : lq qa ≤ 100000000000) (hqb : lq qb ≤ 100000000000) {s : Prop} :
    Calls Tryz.prog 109 #[.agg #[vB (qa.num < 0), vna, vda], .agg #[vB (qb.num < 0), vnb, vdb], vB s] w0 (Ret w0 h0 (fun h r => vX h r (qa + sgd s qb))) := by
 have hlna := vM qa
 have hlda := vS qa
 have hlDa := vE qa
 have hlnb := vM qb
 have hldb := vS qb
 have hlDb := vE qb
 refine zM (n := 152) (e := [(0, .agg #[vB (qa.num < 0), vna, vda]), (1, .agg #[vB (qb.num < 0), vnb, vdb]), (2, vB s)]) (vs := [.agg #[vB (qa.num < 0), vna, vda], .agg #[vB (qb.num < 0), vnb, vdb], vB s]) func109 rfl rfl (bL rfl) hs e3z (zC (zA (zI (wZ (cs := [_, _, _]) rfl rfl) rfl rfl rfl ?_)))
 intro v3 r3 hr3
 obtain ⟨b3, rfl, rfl⟩ := hr3
 refine zI (wZ (cs := [_, _, _]) rfl rfl) rfl rfl rfl ?_
 intro v4 r4 hr4
 obtain ⟨b4, rfl, rfl⟩ := hr4
 refine zI (vV (cs := [vB ((0 : Rat).num < 0), .slice none 0 0, .slice none 0 0]) wT rfl (by simp only [zb]; rfl)) rfl rfl rfl ?_
 intro v6 r6 hr6
 obtain ⟨b6, rfl, rfl⟩ := hr6
 refine zD (zB ?_)
 refine jX (ι := Mem) (fun (mc : (Mem)) => MLe h0 mc ∧ (True)) (fun (mc : (Mem)) => [(2, vB s), (3, vP b3 0), (4, vP b4 0), (6, vP b6 0)]) (fun (mc : (Mem)) => [.var b6 30 [vB ((0 : Rat).num < 0), .slice none 0 0, .slice none 0 0], .var b4 30 [vB (qb.num < 0), vnb, vdb], .var b3 30 [vB (qa.num < 0), vna, vda]]) (fun (mc : (Mem)) => mc) ?_ ?_
 ·
  refine zC (zA (gv (yE (vs := [_, _, _]) mh2 underlying30 rfl zX rfl rfl) rfl ?_))
  refine zO (vs := [_]) rfl rfl rfl rfl call124 ⟨rfl, trivial⟩ (fun w hs => rat_parts hs hna hda) ?_
  intro v24 h1 hh1 hr24
  subst hr24
  refine mv rfl rfl (gv (zL (vs := [_, _, _]) rfl rfl) rfl (gv (zL (vs := [_, _, _]) rfl rfl) rfl (gv (zL (vs := [_, _, _]) rfl rfl) rfl (asg rfl rfl (asg rfl rfl (asg rfl rfl (zD (zB (zC (zA (mv rfl rfl (zD (zB ?_)))))))))))))
  refine zN rfl (fun hc28 => ?_) (fun hc28 => ?_)
  ·
   have hsa := hc28
   have hpa := kX hsa
   have hra := kY hsa
   refine wJ (e' := [(2, _), (3, _), (4, _), (6, _), (7, _), (8, _)]) e6 (zC (zA (gv (yE (vs := [_, _, _]) mh1 underlying30 rfl zX rfl rfl) rfl ?_)))
   replace hnb := hnb.mono hh1
   replace hdb := hdb.mono hh1
   refine zO (vs := [_]) rfl rfl rfl rfl call124 ⟨rfl, trivial⟩ (fun w hs => rat_parts hs hnb hdb) ?_
   intro v31 h2 hh2 hr31
   subst hr31
   refine mv rfl rfl (gv (zL (vs := [_, _, _]) rfl rfl) rfl (gv (zL (vs := [_, _, _]) rfl rfl) rfl (gv (zL (vs := [_, _, _]) rfl rfl) rfl (asg rfl rfl (asg rfl rfl (asg rfl rfl (zD (zB (zC (zA (mv rfl rfl (zD (zB ?_)))))))))))))
   refine zN rfl (fun hc35 => ?_) (fun hc35 => ?_)
   ·
    have hsb := hc35
    have hpb := kX hsb
    have hrb := kY hsb
    have hm1 := qC hpa hrb
    have hm2 := qC hpb hra
    have hm3 := qC hra hrb
    have hm4 := qC hpa hpb
    have hm5 := qC hra hpb
    have hd0 : qa.den * qb.den ≠ 0 := Nat.mul_ne_zero qa.den_nz qb.den_nz
    simp only [pN_t hsa, pD_t hsa, pN_t hsb, pD_t hsb]
    refine zC (zA (mv rfl rfl (mv rfl rfl (gv (jC (k := .u64) (W := 18446744073709551616) rfl rfl rfl rfl (by omega)) rfl (mv rfl rfl (mv rfl rfl (gv (jC (k := .u64) (W := 18446744073709551616) rfl rfl rfl rfl (by omega)) rfl (asg rfl rfl (asg rfl rfl (zD (zJ (e' := [(2, _), (3, _), (4, _), (6, _), (8, _), (11, _), (7, _), (10, _)]) e8 (zB (zC ?_)))))))))))))
    refine zA (mv rfl rfl (mv rfl rfl (gv (ov_callx (vs := [_, _, vU .u64 0]) (add64 _ _) e3z) rfl (mv rfl rfl (gv (zL (vs := [_, _]) rfl rfl) rfl (gv (zL (vs := [_, _]) rfl rfl) rfl (asg rfl rfl (asg rfl rfl (zD (zB (zP (zC (zA ?_)))))))))))))
    refine gv (zG underlying30 rfl sizeOf4 rfl) rfl (gv (zR mh2 isAgg4 rfl rfl) rfl (mv rfl rfl (gv (ov_eql_b underlying4 rfl rfl) rfl ?_)))
    refine vY (ι := Unit) 4 (fun _ => True) (fun _ => [(56, vB (((qa.num < 0) ↔ (s)) ∧ ((((qa.num.natAbs * qb.den) + (qb.num.natAbs * qa.den)) / 18446744073709551616) = (0 : Nat)))), (2, vB s), (3, vP b3 0), (4, vP b4 0), (6, vP b6 0), (8, vU .u64 qa.den), (11, vU .u64 qb.den), (7, vU .u64 (qa.num.natAbs * qb.den)), (10, vU .u64 (qb.num.natAbs * qa.den)), (13, vU .u64 (((qa.num.natAbs * qb.den) + (qb.num.natAbs * qa.den)) % 18446744073709551616))]) (fun _ => [.var b6 30 [vB ((0 : Rat).num < 0), .slice none 0 0, .slice none 0 0], .var b4 30 [vB (qb.num < 0), vnb, vdb], .var b3 30 [vB (qa.num < 0), vna, vda]]) (fun _ => h2) ?_ ?_
    ·
     refine wL ((qa.num < 0) ↔ (s)) (fun hg => ?_) (fun hg => ?_)
     ·
      refine xE (yO (v := .bool true) (congrArg some (xL hg))) rfl rfl rfl (yY rfl rfl rfl (mv rfl rfl (yY rfl rfl rfl (gv (ov_eql_u (k := .u64) (q := 0) rfl rfl) rfl (gv (xM rfl rfl) rfl (zD ?_))))))
      refine yM () trivial ⟨?_, rfl, rfl, rfl, rfl, rfl, rfl, rfl, rfl, rfl, trivial⟩ rfl rfl
      exact congrArg some (uC hg)
     refine xE (yO (v := .bool false) (congrArg some (yX hg))) rfl rfl rfl (yI rfl rfl rfl rfl rfl rfl (yI rfl rfl rfl rfl rfl rfl (gv (xW rfl rfl) rfl (zD ?_))))
     refine yM () trivial ⟨?_, rfl, rfl, rfl, rfl, rfl, rfl, rfl, rfl, rfl, trivial⟩ rfl rfl
     exact congrArg some (uD hg)
    intro _ _
    show GL _ _ _ _ _ _ _ [(56, vB (((qa.num < 0) ↔ (s)) ∧ ((((qa.num.natAbs * qb.den) + (qb.num.natAbs * qa.den)) / 18446744073709551616) = (0 : Nat)))), (2, vB s), (3, vP b3 0), (4, vP b4 0), (6, vP b6 0), (8, vU .u64 qa.den), (11, vU .u64 qb.den), (7, vU .u64 (qa.num.natAbs * qb.den)), (10, vU .u64 (qb.num.natAbs * qa.den)), (13, vU .u64 (((qa.num.natAbs * qb.den) + (qb.num.natAbs * qa.den)) % 18446744073709551616))] [.var b6 30 [vB ((0 : Rat).num < 0), .slice none 0 0, .slice none 0 0], .var b4 30 [vB (qb.num < 0), vnb, vdb], .var b3 30 [vB (qa.num < 0), vna, vda]] h2
    refine asg rfl rfl (zD (zB ?_))
    refine zN rfl (fun hc48 => ?_) (fun hc48 => ?_)
    ·
     obtain ⟨hss, hcy⟩ := hc48
     refine zC (zA (mv rfl rfl (mv rfl rfl (mv rfl rfl (mv rfl rfl (gv (jC (k := .u64) (W := 18446744073709551616) rfl rfl rfl rfl (by omega)) rfl ?_))))))
     refine zO (vs := [_, _, _]) rfl rfl rfl rfl call125 e3z (fun w hs => rat_short hs (by omega) (by omega) (by omega)) ?_
     intro v62 h3 hh3 hr62
     obtain ⟨vn62, vd62, rfl, hn62, hd62⟩ := hr62
     refine wY (A := []) (r' := .var b6 30 [vB ((mkRat (sg (s) (((qa.num.natAbs * qb.den) + (qb.num.natAbs * qa.den)) % 18446744073709551616)) (qa.den * qb.den)).num < 0), vn62, vd62]) (yA (k := 0) (cs := [_, _, _]) (vs := [_, _, _]) rfl rfl rfl (ocr rfl (ocu hn62 (ocu hd62 oc0))) zX (bL rfl)) rfl rfl rfl (zD (zJ (e' := [(6, _)]) ⟨rfl, trivial⟩ (zB (zQ (vC (zV (xQ (fun E S => yS rfl (wX (cs := [_, _, _]) mh0 underlying30 rfl zX rfl) E S) ?_)))))))
     have e := Nat.mod_eq_of_lt (a := qa.num.natAbs * qb.den + qb.num.natAbs * qa.den) (b := 18446744073709551616) (by omega)
     rw [e] at hn62 hd62 ⊢
     rw [add_sgd hss]
     exact ⟨_, _, rfl, hn62, hd62⟩
    refine zC (zA (gv (zG underlying30 rfl sizeOf4 rfl) rfl (gv (zR mh2 isAgg4 rfl rfl) rfl (mv rfl rfl (gv (ov_neq_b underlying4 rfl rfl) rfl ?_)))))
    refine vY (ι := Unit) 5 (fun _ => True) (fun _ => [(72, vB ((¬ ((qa.num < 0) ↔ (s))) ∧ ((qb.num.natAbs * qa.den) ≤ (qa.num.natAbs * qb.den)))), (2, vB s), (3, vP b3 0), (4, vP b4 0), (6, vP b6 0), (8, vU .u64 qa.den), (11, vU .u64 qb.den), (7, vU .u64 (qa.num.natAbs * qb.den)), (10, vU .u64 (qb.num.natAbs * qa.den))]) (fun _ => [.var b6 30 [vB ((0 : Rat).num < 0), .slice none 0 0, .slice none 0 0], .var b4 30 [vB (qb.num < 0), vnb, vdb], .var b3 30 [vB (qa.num < 0), vna, vda]]) (fun _ => h2) ?_ ?_
    ·
     refine wL (¬ ((qa.num < 0) ↔ (s))) (fun hg => ?_) (fun hg => ?_)
     ·
      refine xE (yO (v := .bool true) (congrArg some (xL hg))) rfl rfl rfl (yY rfl rfl rfl (mv rfl rfl (yY rfl rfl rfl (mv rfl rfl (yY rfl rfl rfl (gv (ov_geq_u (k := .u64) rfl rfl) rfl (gv (xM rfl rfl) rfl (zD ?_))))))))
      refine yM () trivial ⟨?_, rfl, rfl, rfl, rfl, rfl, rfl, rfl, rfl, trivial⟩ rfl rfl
      exact congrArg some (uC hg)
     refine xE (yO (v := .bool false) (congrArg some (yX hg))) rfl rfl rfl (yI rfl rfl rfl rfl rfl rfl (yI rfl rfl rfl rfl rfl rfl (yI rfl rfl rfl rfl rfl rfl (gv (xW rfl rfl) rfl (zD ?_)))))
     refine yM () trivial ⟨?_, rfl, rfl, rfl, rfl, rfl, rfl, rfl, rfl, trivial⟩ rfl rfl
     exact congrArg some (uD hg)
    intro _ _
    show GL _ _ _ _ _ _ _ [(72, vB ((¬ ((qa.num < 0) ↔ (s))) ∧ ((qb.num.natAbs * qa.den) ≤ (qa.num.natAbs * qb.den)))), (2, vB s), (3, vP b3 0), (4, vP b4 0), (6, vP b6 0), (8, vU .u64 qa.den), (11, vU .u64 qb.den), (7, vU .u64 (qa.num.natAbs * qb.den)), (10, vU .u64 (qb.num.natAbs * qa.den))] [.var b6 30 [vB ((0 : Rat).num < 0), .slice none 0 0, .slice none 0 0], .var b4 30 [vB (qb.num < 0), vnb, vdb], .var b3 30 [vB (qa.num < 0), vna, vda]] h2
    refine asg rfl rfl (zD (zB ?_))
    refine zN rfl (fun hc63 => ?_) (fun hc63 => ?_)
    ·
     obtain ⟨hss, hge⟩ := hc63
     refine zC (zA (gv (zG underlying30 rfl sizeOf4 rfl) rfl (gv (zR mh2 isAgg4 rfl rfl) rfl (mv rfl rfl (mv rfl rfl (gv (ov_sub_u (k := .u64) (W := 18446744073709551616) rfl rfl rfl rfl (by omega) (by omega)) rfl (mv rfl rfl (mv rfl rfl (gv (jC (k := .u64) (W := 18446744073709551616) rfl rfl rfl rfl (by omega)) rfl ?_)))))))))
     refine zO (vs := [_, _, _]) rfl rfl rfl rfl call125 e3z (fun w hs => rat_short hs (by omega) (by omega) (by omega)) ?_
     intro v81 h3 hh3 hr81
     obtain ⟨vn81, vd81, rfl, hn81, hd81⟩ := hr81
     refine wY (A := []) (r' := .var b6 30 [vB ((mkRat (sg (qa.num < 0) ((qa.num.natAbs * qb.den) - (qb.num.natAbs * qa.den))) (qa.den * qb.den)).num < 0), vn81, vd81]) (yA (k := 0) (cs := [_, _, _]) (vs := [_, _, _]) rfl rfl rfl (ocr rfl (ocu hn81 (ocu hd81 oc0))) zX (bL rfl)) rfl rfl rfl (zD (zJ (e' := [(6, _)]) ⟨rfl, trivial⟩ (zB (zQ (vC (zV (xQ (fun E S => yS rfl (wX (cs := [_, _, _]) mh0 underlying30 rfl zX rfl) E S) ?_)))))))
     rw [sub_sgd hss hge]
     exact ⟨_, _, rfl, hn81, hd81⟩
    refine zC (zA (gv (zG underlying30 rfl sizeOf4 rfl) rfl (gv (zR mh2 isAgg4 rfl rfl) rfl (mv rfl rfl (gv (ov_neq_b underlying4 rfl rfl) rfl (asg rfl rfl (zD (zB ?_))))))))
    refine zN rfl (fun hc82 => ?_) (fun hc82 => ?_)
    ·
     have hlt : ¬ qb.num.natAbs * qa.den ≤ qa.num.natAbs * qb.den := fun h => hc63 ⟨hc82, h⟩
     refine zC (zA (mv rfl rfl (mv rfl rfl (mv rfl rfl (gv (ov_sub_u (k := .u64) (W := 18446744073709551616) rfl rfl rfl rfl (by omega) (by omega)) rfl (mv rfl rfl (mv rfl rfl (gv (jC (k := .u64) (W := 18446744073709551616) rfl rfl rfl rfl (by omega)) rfl ?_))))))))
     refine zO (vs := [_, _, _]) rfl rfl rfl rfl call125 e3z (fun w hs => rat_short hs (by omega) (by omega) (by omega)) ?_
     intro v94 h3 hh3 hr94
     obtain ⟨vn94, vd94, rfl, hn94, hd94⟩ := hr94
     refine wY (A := []) (r' := .var b6 30 [vB ((mkRat (sg (s) ((qb.num.natAbs * qa.den) - (qa.num.natAbs * qb.den))) (qa.den * qb.den)).num < 0), vn94, vd94]) (yA (k := 0) (cs := [_, _, _]) (vs := [_, _, _]) rfl rfl rfl (ocr rfl (ocu hn94 (ocu hd94 oc0))) zX (bL rfl)) rfl rfl rfl (zD (zJ (e' := [(6, _)]) ⟨rfl, trivial⟩ (zB (zQ (vC (zV (xQ (fun E S => yS rfl (wX (cs := [_, _, _]) mh0 underlying30 rfl zX rfl) E S) ?_)))))))
     rw [sub_sgd' hc82 (by omega)]
     exact ⟨_, _, rfl, hn94, hd94⟩
    refine wJ (e' := [(2, _), (3, _), (4, _), (6, _)]) e4z (zK (xC ?_))
    refine yM (h2) ?_ e4z rfl rfl
    refine ⟨(hh1.trans hh2), ?_⟩
    trivial
   refine wJ (e' := [(2, _), (3, _), (4, _), (6, _)]) e4z (zK ?_)
   refine yM (h2) ?_ e4z rfl rfl
   refine ⟨(hh1.trans hh2), ?_⟩
   trivial
  refine wJ (e' := [(2, _), (3, _), (4, _), (6, _)]) e4z (zK ?_)
  refine yM (h1) ?_ e4z rfl rfl
  refine ⟨hh1, ?_⟩
  trivial
 intro mc hx
 obtain ⟨hmmc, hcut⟩ := hx
 show GC _ _ _ _ _ _ [(2, vB s), (3, vP b3 0), (4, vP b4 0), (6, vP b6 0)] [.var b6 30 [vB ((0 : Rat).num < 0), .slice none 0 0, .slice none 0 0], .var b4 30 [vB (qb.num < 0), vnb, vdb], .var b3 30 [vB (qa.num < 0), vna, vda]] mc
 refine zC ?_
 refine yF 9 _ [] [(0, .q), (1, .q), (2, .q), (3, .q), (4, .q), (5, .c), (6, .q), (7, .q), (8, .q)] xH nX (by kernel_rfl) nX (fun r hr => hr) (yK rfl (fun _ _ => zG underlying30 rfl sizeOf28 rfl) rfl (w_q rfl (fun h' L' hh hR => zR (hR _ mh2) isAgg28 rfl rfl) rfl (yK rfl (fun _ _ => zG underlying30 rfl sizeOf28 rfl) rfl (w_q rfl (fun h' L' hh hR => zR (hR _ mh1) isAgg28 rfl rfl) rfl (w_q rfl (fun h' L' hh hR => yE (vs := [_, _, _]) (hR _ mh2) underlying30 rfl zX rfl rfl) rfl ?_)))))
 refine w_c rfl ?_
 replace hna := hna.mono hmmc
 replace hda := hda.mono hmmc
 refine zY (vs := [_]) call127 ⟨rfl, trivial⟩ (fun w hs => rat_den hs hna hda) rfl ?_
 intro v100 h1 hh1 hr100
 rw [uP] at hr100
 refine uG rfl rfl rfl (uG rfl rfl rfl (uG rfl rfl rfl (xB (zB (zC (zC (zA (gv (zG underlying30 rfl sizeOf28 rfl) rfl (gv (zR mh2 isAgg28 rfl rfl) rfl (gv (zG underlying30 rfl sizeOf28 rfl) rfl (gv (zR mh1 isAgg28 rfl rfl) rfl ?_)))))))))))
 replace hda := hda.mono hh1
 replace hdb := hdb.mono (hmmc.trans hh1)
 refine zO (vs := [_, _]) rfl rfl rfl rfl call128 e2z (fun w hs => sl_equal hs hda hdb) ?_
 intro v105 h2 hh2 hr105
 subst hr105
 refine gv (gB rfl) rfl (zD (zJ (e' := [(2, _), (3, _), (4, _), (6, _), (15, _), (16, _), (17, _), (106, _)]) e8 (zB ?_)))
 refine zN rfl (fun hc106 => ?_) (fun hc106 => ?_)
 ·
  refine yF 15 _ [] [(0, .q), (1, .q), (4, .q), (5, .q), (8, .q), (9, .q), (2, .c), (3, .c), (6, .c), (7, .c), (10, .c), (11, .c), (12, .q), (13, .q), (14, .q)] xH nX (by kernel_rfl) nX (fun r hr => hr) (yH rfl rfl rfl (w_q rfl (fun h' L' hh hR => yE (vs := [_, _, _]) (hR _ mh1) underlying30 rfl zX rfl rfl) rfl (yH rfl rfl rfl (w_q rfl (fun h' L' hh hR => yE (vs := [_, _, _]) (hR _ mh2) underlying30 rfl zX rfl rfl) rfl (yH rfl rfl rfl (w_q rfl (fun h' L' hh hR => yE (vs := [_, _, _]) (hR _ mh1) underlying30 rfl zX rfl rfl) rfl ?_))))))
  refine w_c rfl ?_
  replace hnb := hnb.mono ((hmmc.trans hh1).trans hh2)
  replace hdb := hdb.mono hh2
  refine zY (vs := [_]) call127 ⟨rfl, trivial⟩ (fun w hs => rat_den hs hnb hdb) rfl ?_
  intro v109 h3 hh3 hr109
  rw [uP] at hr109
  refine w_c rfl ?_
  replace hna := hna.mono ((hh1.trans hh2).trans hh3)
  refine zY (vs := [_, _]) call126 e2z (fun w hs => nat_mul hs hna hr109 (by omega) (by omega)) rfl ?_
  intro v110 h4 hh4 hr110
  try simp only [zU] at hr110
  have hlm110 := xI ((qa.num.natAbs)) ((qb.den))
  refine w_c rfl ?_
  replace hna := hna.mono hh4
  replace hda := hda.mono ((hh2.trans hh3).trans hh4)
  refine zY (vs := [_]) call127 ⟨rfl, trivial⟩ (fun w hs => rat_den hs hna hda) rfl ?_
  intro v113 h5 hh5 hr113
  rw [uP] at hr113
  refine w_c rfl ?_
  replace hnb := hnb.mono ((hh3.trans hh4).trans hh5)
  refine zY (vs := [_, _]) call126 e2z (fun w hs => nat_mul hs hnb hr113 (by omega) (by omega)) rfl ?_
  intro v114 h6 hh6 hr114
  try simp only [zU] at hr114
  have hlm114 := xI ((qb.num.natAbs)) ((qa.den))
  refine w_c rfl ?_
  replace hnb := hnb.mono hh6
  replace hdb := hdb.mono (((hh3.trans hh4).trans hh5).trans hh6)
  refine zY (vs := [_]) call127 ⟨rfl, trivial⟩ (fun w hs => rat_den hs hnb hdb) rfl ?_
  intro v117 h7 hh7 hr117
  rw [uP] at hr117
  refine w_c rfl ?_
  replace hr100 := hr100.mono (((((hh2.trans hh3).trans hh4).trans hh5).trans hh6).trans hh7)
  refine zY (vs := [_, _]) call126 e2z (fun w hs => nat_mul hs hr100 hr117 (by omega) (by omega)) rfl ?_
  intro v118 h8 hh8 hr118
  try simp only [zU] at hr118
  have hlm118 := xI ((qa.den)) ((qb.den))
  refine uG rfl rfl rfl (uG rfl rfl rfl (uG rfl rfl rfl (xB (zJ (e' := [(2, _), (3, _), (6, _), (15, _), (16, _), (17, _)]) e6 (zB (zC (zC (zA (gv (zG underlying30 rfl sizeOf4 rfl) rfl (gv (zR mh2 isAgg4 rfl rfl) rfl (mv rfl rfl (gv (ov_eql_b underlying4 rfl rfl) rfl (zD ?_)))))))))))))
  refine zB ?_
  refine zN rfl (fun hc122 => ?_) (fun hc122 => ?_)
  ·
   refine zC (zA (mv rfl rfl (mv rfl rfl (mv rfl rfl ?_))))
   replace hr110 := hr110.mono (((hh5.trans hh6).trans hh7).trans hh8)
   replace hr114 := hr114.mono (hh7.trans hh8)
   refine zO (vs := [_, _]) rfl rfl rfl rfl call134 e2z (fun w hs => nat_add hs hr110 hr114 (by omega) (by omega)) ?_
   intro v126 h9 hh9 hr126
   try simp only [zU] at hr126
   have hlm126 := jO (((((qa.num.natAbs)) * ((qb.den))))) (((((qb.num.natAbs)) * ((qa.den)))))
   refine mv rfl rfl ?_
   replace hr118 := hr118.mono hh9
   refine zO (vs := [_, _, _]) rfl rfl rfl rfl call106 e3z (fun w hs => kI hs hr126 hr118 (by omega) (by omega)) ?_
   intro v128 h10 hh10 hr128
   try simp only [zU] at hr128
   obtain ⟨vn128, vd128, rfl, hn128, hd128⟩ := hr128
   refine wY (A := []) (r' := .var b6 30 [vB ((mkRat (sg (s) ((((((((qa.num.natAbs)) * ((qb.den))))) + (((((qb.num.natAbs)) * ((qa.den))))))))) (((((qa.den)) * ((qb.den)))))).num < 0), vn128, vd128]) (yA (k := 0) (cs := [_, _, _]) (vs := [_, _, _]) rfl rfl rfl (ocr rfl (ocu hn128 (ocu hd128 oc0))) zX (bL rfl)) rfl rfl rfl (zD (zJ (e' := [(6, _)]) ⟨rfl, trivial⟩ (zB (zQ (zV (xQ (fun E S => yS rfl (wX (cs := [_, _, _]) mh0 underlying30 rfl zX rfl) E S) ?_))))))
   rw [add_sgd hc122]
   exact ⟨_, _, rfl, hn128, hd128⟩
  refine zK (zB (zC (zC (zA (mv rfl rfl (mv rfl rfl ?_))))))
  replace hr110 := hr110.mono (((hh5.trans hh6).trans hh7).trans hh8)
  replace hr114 := hr114.mono (hh7.trans hh8)
  refine zO (vs := [_, _]) rfl rfl rfl rfl call137 e2z (fun w hs => nat_sub hs hr110 hr114 (by omega)) ?_
  intro v132 h9 hh9 hr132
  obtain ⟨u132, rfl, hu132⟩ := hr132
  try simp only [zU] at hu132 ⊢
  have hlm132 := xD (Nat.sub_le (((((qa.num.natAbs)) * ((qb.den))))) (((((qb.num.natAbs)) * ((qa.den))))))
  refine mv rfl rfl (gv (zL (vs := [_, _]) rfl rfl) rfl (gv (zL (vs := [_, _]) rfl rfl) rfl (asg rfl rfl (asg rfl rfl (zD (zJ (e' := [(2, _), (3, _), (6, _), (15, _), (16, _), (17, _), (18, _), (19, _)]) e8 (zB (zC (zA (mv rfl rfl (gv (xU (q := 0) rfl rfl) rfl (zD (zB ?_)))))))))))))
  refine zN rfl (fun hc136 => ?_) (fun hc136 => ?_)
  ·
   have hge := sub_ok hc136
   rw [if_neg hge]
   refine zC (zA (gv (zG underlying30 rfl sizeOf4 rfl) rfl (gv (zR mh2 isAgg4 rfl rfl) rfl (mv rfl rfl (mv rfl rfl ?_)))))
   replace hr118 := hr118.mono hh9
   refine zO (vs := [_, _, _]) rfl rfl rfl rfl call106 e3z (fun w hs => kI hs hu132 hr118 (by omega) (by omega)) ?_
   intro v141 h10 hh10 hr141
   try simp only [zU] at hr141
   obtain ⟨vn141, vd141, rfl, hn141, hd141⟩ := hr141
   refine wY (A := []) (r' := .var b6 30 [vB ((mkRat (sg (qa.num < 0) ((((((((qa.num.natAbs)) * ((qb.den))))) - (((((qb.num.natAbs)) * ((qa.den))))))))) (((((qa.den)) * ((qb.den)))))).num < 0), vn141, vd141]) (yA (k := 0) (cs := [_, _, _]) (vs := [_, _, _]) rfl rfl rfl (ocr rfl (ocu hn141 (ocu hd141 oc0))) zX (bL rfl)) rfl rfl rfl (zD (zJ (e' := [(6, _)]) ⟨rfl, trivial⟩ (zB (zQ (zV (xQ (fun E S => yS rfl (wX (cs := [_, _, _]) mh0 underlying30 rfl zX rfl) E S) ?_))))))
   rw [sub_sgd hc122 (by omega)]
   exact ⟨_, _, rfl, hn141, hd141⟩
  have hlt := sub_no hc136
  rw [if_pos hlt]
  refine zK (zB (zC (zA (mv rfl rfl (mv rfl rfl ?_)))))
  replace hr110 := hr110.mono hh9
  replace hr114 := hr114.mono hh9
  refine zO (vs := [_, _]) rfl rfl rfl rfl call137 e2z (fun w hs => nat_sub hs hr114 hr110 (by omega)) ?_
  intro v145 h10 hh10 hr145
  obtain ⟨u145, rfl, hu145⟩ := hr145
  try simp only [zU] at hu145 ⊢
  have hlm145 := xD (Nat.sub_le (((((qb.num.natAbs)) * ((qa.den))))) (((((qa.num.natAbs)) * ((qb.den))))))
  refine mv rfl rfl (gv (zL (vs := [_, _]) rfl rfl) rfl (gv (zL (vs := [_, _]) rfl rfl) rfl (asg rfl rfl (asg rfl rfl (zD (zJ (e' := [(2, _), (6, _), (17, _), (20, _)]) e4z (zB (zC (zA (mv rfl rfl (mv rfl rfl (mv rfl rfl ?_))))))))))))
  replace hr118 := hr118.mono (hh9.trans hh10)
  refine zO (vs := [_, _, _]) rfl rfl rfl rfl call106 e3z (fun w hs => kI hs hu145 hr118 (by omega) (by omega)) ?_
  intro v151 h11 hh11 hr151
  try simp only [zU] at hr151
  obtain ⟨vn151, vd151, rfl, hn151, hd151⟩ := hr151
  refine wY (A := []) (r' := .var b6 30 [vB ((mkRat (sg (s) ((((((((qb.num.natAbs)) * ((qa.den))))) - (((((qa.num.natAbs)) * ((qb.den))))))))) (((((qa.den)) * ((qb.den)))))).num < 0), vn151, vd151]) (yA (k := 0) (cs := [_, _, _]) (vs := [_, _, _]) rfl rfl rfl (ocr rfl (ocu hn151 (ocu hd151 oc0))) zX (bL rfl)) rfl rfl rfl (zD (zB (zQ (xQ (fun E S => yS rfl (wX (cs := [_, _, _]) mh0 underlying30 rfl zX rfl) E S) ?_))))
  rw [sub_sgd' hc122 (by omega)]
  exact ⟨_, _, rfl, hn151, hd151⟩
 have hde := den_eq.1 (Classical.not_not.1 hc106)
 refine zK (zB (zC (zC (zA (gv (zG underlying30 rfl sizeOf4 rfl) rfl (gv (zR mh2 isAgg4 rfl rfl) rfl (mv rfl rfl (gv (ov_eql_b underlying4 rfl rfl) rfl (zD (zB ?_))))))))))
 refine zN rfl (fun hc122 => ?_) (fun hc122 => ?_)
 ·
  refine zC (zA (mv rfl rfl (mv rfl rfl (mv rfl rfl ?_))))
  replace hna := hna.mono (hh1.trans hh2)
  replace hnb := hnb.mono ((hmmc.trans hh1).trans hh2)
  refine zO (vs := [_, _]) rfl rfl rfl rfl call134 e2z (fun w hs => nat_add hs hna hnb (by omega) (by omega)) ?_
  intro v126 h3 hh3 hr126
  try simp only [zU] at hr126
  have hlm126 := jO ((qa.num.natAbs)) ((qb.num.natAbs))
  refine mv rfl rfl ?_
  replace hr100 := hr100.mono (hh2.trans hh3)
  refine zO (vs := [_, _, _]) rfl rfl rfl rfl call106 e3z (fun w hs => kI hs hr126 hr100 (by omega) (by omega)) ?_
  intro v128 h4 hh4 hr128
  try simp only [zU] at hr128
  obtain ⟨vn128, vd128, rfl, hn128, hd128⟩ := hr128
  refine wY (A := []) (r' := .var b6 30 [vB ((mkRat (sg (s) (((((qa.num.natAbs)) + ((qb.num.natAbs)))))) ((qa.den))).num < 0), vn128, vd128]) (yA (k := 0) (cs := [_, _, _]) (vs := [_, _, _]) rfl rfl rfl (ocr rfl (ocu hn128 (ocu hd128 oc0))) zX (bL rfl)) rfl rfl rfl (zD (zJ (e' := [(6, _)]) ⟨rfl, trivial⟩ (zB (zQ (zV (xQ (fun E S => yS rfl (wX (cs := [_, _, _]) mh0 underlying30 rfl zX rfl) E S) ?_))))))
  rw [add_sgd1 hc122 hde]
  exact ⟨_, _, rfl, hn128, hd128⟩
 refine zK (zB (zC (zC (zA (mv rfl rfl (mv rfl rfl ?_))))))
 replace hna := hna.mono (hh1.trans hh2)
 replace hnb := hnb.mono ((hmmc.trans hh1).trans hh2)
 refine zO (vs := [_, _]) rfl rfl rfl rfl call137 e2z (fun w hs => nat_sub hs hna hnb (by omega)) ?_
 intro v132 h3 hh3 hr132
 obtain ⟨u132, rfl, hu132⟩ := hr132
 try simp only [zU] at hu132 ⊢
 have hlm132 := xD (Nat.sub_le ((qa.num.natAbs)) ((qb.num.natAbs)))
 refine mv rfl rfl (gv (zL (vs := [_, _]) rfl rfl) rfl (gv (zL (vs := [_, _]) rfl rfl) rfl (asg rfl rfl (asg rfl rfl (zD (zJ (e' := [(2, _), (3, _), (6, _), (15, _), (16, _), (17, _), (18, _), (19, _)]) e8 (zB (zC (zA (mv rfl rfl (gv (xU (q := 0) rfl rfl) rfl (zD (zB ?_)))))))))))))
 refine zN rfl (fun hc136 => ?_) (fun hc136 => ?_)
 ·
  have hge := sub_ok hc136
  rw [if_neg hge]
  refine zC (zA (gv (zG underlying30 rfl sizeOf4 rfl) rfl (gv (zR mh2 isAgg4 rfl rfl) rfl (mv rfl rfl (mv rfl rfl ?_)))))
  replace hr100 := hr100.mono (hh2.trans hh3)
  refine zO (vs := [_, _, _]) rfl rfl rfl rfl call106 e3z (fun w hs => kI hs hu132 hr100 (by omega) (by omega)) ?_
  intro v141 h4 hh4 hr141
  try simp only [zU] at hr141
  obtain ⟨vn141, vd141, rfl, hn141, hd141⟩ := hr141
  refine wY (A := []) (r' := .var b6 30 [vB ((mkRat (sg (qa.num < 0) (((((qa.num.natAbs)) - ((qb.num.natAbs)))))) ((qa.den))).num < 0), vn141, vd141]) (yA (k := 0) (cs := [_, _, _]) (vs := [_, _, _]) rfl rfl rfl (ocr rfl (ocu hn141 (ocu hd141 oc0))) zX (bL rfl)) rfl rfl rfl (zD (zJ (e' := [(6, _)]) ⟨rfl, trivial⟩ (zB (zQ (zV (xQ (fun E S => yS rfl (wX (cs := [_, _, _]) mh0 underlying30 rfl zX rfl) E S) ?_))))))
  rw [sub_sgd1 hc122 hde (by omega)]
  exact ⟨_, _, rfl, hn141, hd141⟩
 have hlt := sub_no hc136
 rw [if_pos hlt]
 refine zK (zB (zC (zA (mv rfl rfl (mv rfl rfl ?_)))))
 replace hna := hna.mono hh3
 replace hnb := hnb.mono hh3
 refine zO (vs := [_, _]) rfl rfl rfl rfl call137 e2z (fun w hs => nat_sub hs hnb hna (by omega)) ?_
 intro v145 h4 hh4 hr145
 obtain ⟨u145, rfl, hu145⟩ := hr145
 try simp only [zU] at hu145 ⊢
 have hlm145 := xD (Nat.sub_le ((qb.num.natAbs)) ((qa.num.natAbs)))
 refine mv rfl rfl (gv (zL (vs := [_, _]) rfl rfl) rfl (gv (zL (vs := [_, _]) rfl rfl) rfl (asg rfl rfl (asg rfl rfl (zD (zJ (e' := [(2, _), (6, _), (17, _), (20, _)]) e4z (zB (zC (zA (mv rfl rfl (mv rfl rfl (mv rfl rfl ?_))))))))))))
 replace hr100 := hr100.mono ((hh2.trans hh3).trans hh4)
 refine zO (vs := [_, _, _]) rfl rfl rfl rfl call106 e3z (fun w hs => kI hs hu145 hr100 (by omega) (by omega)) ?_
 intro v151 h5 hh5 hr151
 try simp only [zU] at hr151
 obtain ⟨vn151, vd151, rfl, hn151, hd151⟩ := hr151
 refine wY (A := []) (r' := .var b6 30 [vB ((mkRat (sg (s) (((((qb.num.natAbs)) - ((qa.num.natAbs)))))) ((qa.den))).num < 0), vn151, vd151]) (yA (k := 0) (cs := [_, _, _]) (vs := [_, _, _]) rfl rfl rfl (ocr rfl (ocu hn151 (ocu hd151 oc0))) zX (bL rfl)) rfl rfl rfl (zD (zB (zQ (xQ (fun E S => yS rfl (wX (cs := [_, _, _]) mh0 underlying30 rfl zX rfl) E S) ?_))))
 rw [sub_sgd1' hc122 hde (by omega)]
 exact ⟨_, _, rfl, hn151, hd151⟩
end Go.Proofs.YtghhjjmjpeehdaaGreat
namespace Go.Proofs.YtghhjjmjpeehdaaGreat
open Bk Go Tryz
set_option linter.unusedVariables false
set_option linter.unusedSimpArgs false
set_option maxRecDepth 10000
theorem rat_add {w0 : World} {h0 : Mem}  (hs : MLe h0 (mem w0)) {qa : Rat} {vna vda : Value} (hna : Us .u32 h0 vna (zF qa.num.natAbs)) (hda : Us .u32 h0 vda (zF (vO qa.den))) {qb : Rat} {vnb vdb : Value} (hnb : Us .u32 h0 vnb (zF qb.num.natAbs)) (hdb : Us .u32 h0 vdb (zF (vO qb.den))) (hqa : lq qa ≤ 100000000000) (hqb : lq qb ≤ 100000000000)  :
    Calls Tryz.prog 71 #[.agg #[vB (qa.num < 0), vna, vda], .agg #[vB (qb.num < 0), vnb, vdb]] w0 (Ret w0 h0 (fun h r => vX h r (qa + qb))) := by
 have hlna := vM qa
 have hlda := vS qa
 have hlDa := vE qa
 have hlnb := vM qb
 have hldb := vS qb
 have hlDb := vE qb
 refine zM (n := 10) (e := [(0, .agg #[vB (qa.num < 0), vna, vda]), (1, .agg #[vB (qb.num < 0), vnb, vdb])]) (vs := [.agg #[vB (qa.num < 0), vna, vda], .agg #[vB (qb.num < 0), vnb, vdb]]) func71 rfl rfl (bL rfl) hs e2z (zC (zA (zI (wZ (cs := [_, _, _]) rfl rfl) rfl rfl rfl ?_)))
 intro v2 r2 hr2
 obtain ⟨b2, rfl, rfl⟩ := hr2
 refine zI (wZ (cs := [_, _, _]) rfl rfl) rfl rfl rfl ?_
 intro v3 r3 hr3
 obtain ⟨b3, rfl, rfl⟩ := hr3
 refine zI (vV (cs := [vB ((0 : Rat).num < 0), .slice none 0 0, .slice none 0 0]) wT rfl (by simp only [zb]; rfl)) rfl rfl rfl ?_
 intro v4 r4 hr4
 obtain ⟨b4, rfl, rfl⟩ := hr4
 refine zD (zB (zC (zA (gv (yE (vs := [_, _, _]) mh2 underlying30 rfl zX rfl rfl) rfl (gv (yE (vs := [_, _, _]) mh1 underlying30 rfl zX rfl rfl) rfl (gv (zG underlying30 rfl sizeOf4 rfl) rfl (gv (zR mh1 isAgg4 rfl rfl) rfl ?_)))))))
 refine zO (vs := [_, _, _]) rfl rfl rfl rfl call109 e3z (fun w hs => rat_addn hs hna hda hnb hdb (by omega) (by omega)) ?_
 intro v9 h1 hh1 hr9
 obtain ⟨vn9, vd9, rfl, hn9, hd9⟩ := hr9
 have hlq9 := lq_add qa (sgd (qb.num < 0) qb)
 have hls9 := lq_sgd (qb.num < 0) qb
 refine wY (A := []) (r' := .var b4 30 [vB ((qa + sgd (qb.num < 0) qb).num < 0), vn9, vd9]) (yA (k := 0) (cs := [_, _, _]) (vs := [_, _, _]) rfl rfl rfl (ocr rfl (ocu hn9 (ocu hd9 oc0))) zX (bL rfl)) rfl rfl rfl (zD (zB (zQ (xQ (fun E S => yS rfl (wX (cs := [_, _, _]) mh0 underlying30 rfl zX rfl) E S) ?_))))
 rw [sgd_self] at hn9 hd9 ⊢
 exact ⟨_, _, rfl, hn9, hd9⟩
theorem rat_sub {w0 : World} {h0 : Mem}  (hs : MLe h0 (mem w0)) {qa : Rat} {vna vda : Value} (hna : Us .u32 h0 vna (zF qa.num.natAbs)) (hda : Us .u32 h0 vda (zF (vO qa.den))) {qb : Rat} {vnb vdb : Value} (hnb : Us .u32 h0 vnb (zF qb.num.natAbs)) (hdb : Us .u32 h0 vdb (zF (vO qb.den))) (hqa : lq qa ≤ 100000000000) (hqb : lq qb ≤ 100000000000)  :
    Calls Tryz.prog 70 #[.agg #[vB (qa.num < 0), vna, vda], .agg #[vB (qb.num < 0), vnb, vdb]] w0 (Ret w0 h0 (fun h r => vX h r (qa - qb))) := by
 have hlna := vM qa
 have hlda := vS qa
 have hlDa := vE qa
 have hlnb := vM qb
 have hldb := vS qb
 have hlDb := vE qb
 refine zM (n := 11) (e := [(0, .agg #[vB (qa.num < 0), vna, vda]), (1, .agg #[vB (qb.num < 0), vnb, vdb])]) (vs := [.agg #[vB (qa.num < 0), vna, vda], .agg #[vB (qb.num < 0), vnb, vdb]]) func70 rfl rfl (bL rfl) hs e2z (zC (zA (zI (wZ (cs := [_, _, _]) rfl rfl) rfl rfl rfl ?_)))
 intro v2 r2 hr2
 obtain ⟨b2, rfl, rfl⟩ := hr2
 refine zI (wZ (cs := [_, _, _]) rfl rfl) rfl rfl rfl ?_
 intro v3 r3 hr3
 obtain ⟨b3, rfl, rfl⟩ := hr3
 refine zI (vV (cs := [vB ((0 : Rat).num < 0), .slice none 0 0, .slice none 0 0]) wT rfl (by simp only [zb]; rfl)) rfl rfl rfl ?_
 intro v4 r4 hr4
 obtain ⟨b4, rfl, rfl⟩ := hr4
 refine zD (zB (zC (zA (gv (yE (vs := [_, _, _]) mh2 underlying30 rfl zX rfl rfl) rfl (gv (yE (vs := [_, _, _]) mh1 underlying30 rfl zX rfl rfl) rfl (gv (zG underlying30 rfl sizeOf4 rfl) rfl (gv (zR mh1 isAgg4 rfl rfl) rfl (gv (gB rfl) rfl ?_))))))))
 refine zO (vs := [_, _, _]) rfl rfl rfl rfl call109 e3z (fun w hs => rat_addn hs hna hda hnb hdb (by omega) (by omega)) ?_
 intro v10 h1 hh1 hr10
 obtain ⟨vn10, vd10, rfl, hn10, hd10⟩ := hr10
 have hlq10 := lq_add qa (sgd (¬ (qb.num < 0)) qb)
 have hls10 := lq_sgd (¬ (qb.num < 0)) qb
 refine wY (A := []) (r' := .var b4 30 [vB ((qa + sgd (¬ (qb.num < 0)) qb).num < 0), vn10, vd10]) (yA (k := 0) (cs := [_, _, _]) (vs := [_, _, _]) rfl rfl rfl (ocr rfl (ocu hn10 (ocu hd10 oc0))) zX (bL rfl)) rfl rfl rfl (zD (zJ (e' := [(4, _)]) ⟨rfl, trivial⟩ (zB (zQ (xQ (fun E S => yS rfl (wX (cs := [_, _, _]) mh0 underlying30 rfl zX rfl) E S) ?_)))))
 rw [sgd_neg, ← Rat.sub_eq_add_neg] at hn10 hd10 ⊢
 exact ⟨_, _, rfl, hn10, hd10⟩
theorem rat_min {w0 : World} {h0 : Mem}  (hs : MLe h0 (mem w0)) {qa : Rat} {vna vda : Value} (hna : Us .u32 h0 vna (zF qa.num.natAbs)) (hda : Us .u32 h0 vda (zF (vO qa.den))) {qb : Rat} {vnb vdb : Value} (hnb : Us .u32 h0 vnb (zF qb.num.natAbs)) (hdb : Us .u32 h0 vdb (zF (vO qb.den))) (hqa : lq qa ≤ 100000000000) (hqb : lq qb ≤ 100000000000)  :
    Calls Tryz.prog 67 #[.agg #[vB (qa.num < 0), vna, vda], .agg #[vB (qb.num < 0), vnb, vdb]] w0 (Ret w0 h0 (fun h r => vX h r (kM qa qb))) := by
 have hlna := vM qa
 have hlda := vS qa
 have hlDa := vE qa
 have hlnb := vM qb
 have hldb := vS qb
 have hlDb := vE qb
 refine zM (n := 12) (e := [(0, .agg #[vB (qa.num < 0), vna, vda]), (1, .agg #[vB (qb.num < 0), vnb, vdb])]) (vs := [.agg #[vB (qa.num < 0), vna, vda], .agg #[vB (qb.num < 0), vnb, vdb]]) func67 rfl rfl (bL rfl) hs e2z (zC (zA (zI (wZ (cs := [_, _, _]) rfl rfl) rfl rfl rfl ?_)))
 intro v2 r2 hr2
 obtain ⟨b2, rfl, rfl⟩ := hr2
 refine zI (wZ (cs := [_, _, _]) rfl rfl) rfl rfl rfl ?_
 intro v3 r3 hr3
 obtain ⟨b3, rfl, rfl⟩ := hr3
 refine zI (vV (cs := [vB ((0 : Rat).num < 0), .slice none 0 0, .slice none 0 0]) wT rfl (by simp only [zb]; rfl)) rfl rfl rfl ?_
 intro v4 r4 hr4
 obtain ⟨b4, rfl, rfl⟩ := hr4
 refine zD (zB (zC (zC (zA (gv (yE (vs := [_, _, _]) mh1 underlying30 rfl zX rfl rfl) rfl (gv (yE (vs := [_, _, _]) mh2 underlying30 rfl zX rfl rfl) rfl ?_))))))
 refine zO (vs := [_, _]) rfl rfl rfl rfl call104 e2z (fun w hs => rat_cmp hs hnb hdb hna hda (by omega) (by omega)) ?_
 intro v7 h1 hh1 hr7
 have hcr7 := cmpQ_range qb qa
 subst hr7
 refine gv (zW (q := 0) rfl rfl) rfl (zD (zB ?_))
 refine zN rfl (fun hc8 => ?_) (fun hc8 => ?_)
 ·
  refine zA (gv (yE (vs := [_, _, _]) mh1 underlying30 rfl zX rfl rfl) rfl ?_)
  replace hnb := hnb.mono hh1
  replace hdb := hdb.mono hh1
  refine wY (A := [_, _]) (r' := .var b2 30 [vB (qb.num < 0), vnb, vdb]) (yA (k := 0) (cs := [_, _, _]) (vs := [_, _, _]) rfl rfl rfl (ocr rfl (ocu hnb (ocu hdb oc0))) zX (bL rfl)) rfl rfl rfl (zD (zB (zC (zA (gv (yE (vs := [_, _, _]) mh2 underlying30 rfl zX rfl rfl) rfl ?_)))))
  refine zO (vs := [_]) rfl rfl rfl rfl call105 ⟨rfl, trivial⟩ (fun w hs => rat_copied hs hnb hdb (by first | omega | exact Nat.le_trans (vM _) (by omega)) (by first | omega | exact Nat.le_trans (vE _) (by omega))) ?_
  intro v11 h2 hh2 hr11
  obtain ⟨vn11, vd11, rfl, hn11, hd11⟩ := hr11
  refine wY (A := []) (r' := .var b4 30 [vB ((qb).num < 0), vn11, vd11]) (yA (k := 0) (cs := [_, _, _]) (vs := [_, _, _]) rfl rfl rfl (ocr rfl (ocu hn11 (ocu hd11 oc0))) zX (bL rfl)) rfl rfl rfl (zD (zJ (e' := [(4, _)]) ⟨rfl, trivial⟩ (zB (zQ (xQ (fun E S => yS rfl (wX (cs := [_, _, _]) mh0 underlying30 rfl zX rfl) E S) ?_)))))
  rw [minQ_t hc8]
  exact ⟨_, _, rfl, hn11, hd11⟩
 refine zK (zB (zC (zA (gv (yE (vs := [_, _, _]) mh2 underlying30 rfl zX rfl rfl) rfl ?_))))
 replace hna := hna.mono hh1
 replace hda := hda.mono hh1
 refine zO (vs := [_]) rfl rfl rfl rfl call105 ⟨rfl, trivial⟩ (fun w hs => rat_copied hs hna hda (by first | omega | exact Nat.le_trans (vM _) (by omega)) (by first | omega | exact Nat.le_trans (vE _) (by omega))) ?_
 intro v11 h2 hh2 hr11
 obtain ⟨vn11, vd11, rfl, hn11, hd11⟩ := hr11
 refine wY (A := []) (r' := .var b4 30 [vB ((qa).num < 0), vn11, vd11]) (yA (k := 0) (cs := [_, _, _]) (vs := [_, _, _]) rfl rfl rfl (ocr rfl (ocu hn11 (ocu hd11 oc0))) zX (bL rfl)) rfl rfl rfl (zD (zJ (e' := [(4, _)]) ⟨rfl, trivial⟩ (zB (zQ (xQ (fun E S => yS rfl (wX (cs := [_, _, _]) mh0 underlying30 rfl zX rfl) E S) ?_)))))
 rw [minQ_f hc8]
 exact ⟨_, _, rfl, hn11, hd11⟩
theorem rat_max {w0 : World} {h0 : Mem}  (hs : MLe h0 (mem w0)) {qa : Rat} {vna vda : Value} (hna : Us .u32 h0 vna (zF qa.num.natAbs)) (hda : Us .u32 h0 vda (zF (vO qa.den))) {qb : Rat} {vnb vdb : Value} (hnb : Us .u32 h0 vnb (zF qb.num.natAbs)) (hdb : Us .u32 h0 vdb (zF (vO qb.den))) (hqa : lq qa ≤ 100000000000) (hqb : lq qb ≤ 100000000000)  :
    Calls Tryz.prog 68 #[.agg #[vB (qa.num < 0), vna, vda], .agg #[vB (qb.num < 0), vnb, vdb]] w0 (Ret w0 h0 (fun h r => vX h r (kL qa qb))) := by
 have hlna := vM qa
 have hlda := vS qa
 have hlDa := vE qa
 have hlnb := vM qb
 have hldb := vS qb
 have hlDb := vE qb
 refine zM (n := 12) (e := [(0, .agg #[vB (qa.num < 0), vna, vda]), (1, .agg #[vB (qb.num < 0), vnb, vdb])]) (vs := [.agg #[vB (qa.num < 0), vna, vda], .agg #[vB (qb.num < 0), vnb, vdb]]) func68 rfl rfl (bL rfl) hs e2z (zC (zA (zI (wZ (cs := [_, _, _]) rfl rfl) rfl rfl rfl ?_)))
 intro v2 r2 hr2
 obtain ⟨b2, rfl, rfl⟩ := hr2
 refine zI (wZ (cs := [_, _, _]) rfl rfl) rfl rfl rfl ?_
 intro v3 r3 hr3
 obtain ⟨b3, rfl, rfl⟩ := hr3
 refine zI (vV (cs := [vB ((0 : Rat).num < 0), .slice none 0 0, .slice none 0 0]) wT rfl (by simp only [zb]; rfl)) rfl rfl rfl ?_
 intro v4 r4 hr4
 obtain ⟨b4, rfl, rfl⟩ := hr4
 refine zD (zB (zC (zC (zA (gv (yE (vs := [_, _, _]) mh1 underlying30 rfl zX rfl rfl) rfl (gv (yE (vs := [_, _, _]) mh2 underlying30 rfl zX rfl rfl) rfl ?_))))))
 refine zO (vs := [_, _]) rfl rfl rfl rfl call104 e2z (fun w hs => rat_cmp hs hnb hdb hna hda (by omega) (by omega)) ?_
 intro v7 h1 hh1 hr7
 have hcr7 := cmpQ_range qb qa
 subst hr7
 refine gv (uH (q := 0) rfl rfl) rfl (zD (zB ?_))
 refine zN rfl (fun hc8 => ?_) (fun hc8 => ?_)
 ·
  refine zA (gv (yE (vs := [_, _, _]) mh1 underlying30 rfl zX rfl rfl) rfl ?_)
  replace hnb := hnb.mono hh1
  replace hdb := hdb.mono hh1
  refine wY (A := [_, _]) (r' := .var b2 30 [vB (qb.num < 0), vnb, vdb]) (yA (k := 0) (cs := [_, _, _]) (vs := [_, _, _]) rfl rfl rfl (ocr rfl (ocu hnb (ocu hdb oc0))) zX (bL rfl)) rfl rfl rfl (zD (zB (zC (zA (gv (yE (vs := [_, _, _]) mh2 underlying30 rfl zX rfl rfl) rfl ?_)))))
  refine zO (vs := [_]) rfl rfl rfl rfl call105 ⟨rfl, trivial⟩ (fun w hs => rat_copied hs hnb hdb (by first | omega | exact Nat.le_trans (vM _) (by omega)) (by first | omega | exact Nat.le_trans (vE _) (by omega))) ?_
  intro v11 h2 hh2 hr11
  obtain ⟨vn11, vd11, rfl, hn11, hd11⟩ := hr11
  refine wY (A := []) (r' := .var b4 30 [vB ((qb).num < 0), vn11, vd11]) (yA (k := 0) (cs := [_, _, _]) (vs := [_, _, _]) rfl rfl rfl (ocr rfl (ocu hn11 (ocu hd11 oc0))) zX (bL rfl)) rfl rfl rfl (zD (zJ (e' := [(4, _)]) ⟨rfl, trivial⟩ (zB (zQ (xQ (fun E S => yS rfl (wX (cs := [_, _, _]) mh0 underlying30 rfl zX rfl) E S) ?_)))))
  rw [maxQ_t hc8]
  exact ⟨_, _, rfl, hn11, hd11⟩
 refine zK (zB (zC (zA (gv (yE (vs := [_, _, _]) mh2 underlying30 rfl zX rfl rfl) rfl ?_))))
 replace hna := hna.mono hh1
 replace hda := hda.mono hh1
 refine zO (vs := [_]) rfl rfl rfl rfl call105 ⟨rfl, trivial⟩ (fun w hs => rat_copied hs hna hda (by first | omega | exact Nat.le_trans (vM _) (by omega)) (by first | omega | exact Nat.le_trans (vE _) (by omega))) ?_
 intro v11 h2 hh2 hr11
 obtain ⟨vn11, vd11, rfl, hn11, hd11⟩ := hr11
 refine wY (A := []) (r' := .var b4 30 [vB ((qa).num < 0), vn11, vd11]) (yA (k := 0) (cs := [_, _, _]) (vs := [_, _, _]) rfl rfl rfl (ocr rfl (ocu hn11 (ocu hd11 oc0))) zX (bL rfl)) rfl rfl rfl (zD (zJ (e' := [(4, _)]) ⟨rfl, trivial⟩ (zB (zQ (xQ (fun E S => yS rfl (wX (cs := [_, _, _]) mh0 underlying30 rfl zX rfl) E S) ?_)))))
 rw [maxQ_f hc8]
 exact ⟨_, _, rfl, hn11, hd11⟩
end Go.Proofs.YtghhjjmjpeehdaaGreat
namespace Go.Proofs.YtghhjjmjpeehdaaGreat
open Bk Go Tryz
set_option linter.unusedVariables false
set_option linter.unusedSimpArgs false
set_option maxRecDepth 10000
theorem rref_den {w0 : World} {h0 : Mem}  (hs : MLe h0 (mem w0)) {sa : Prop} {ba vna vda : Value} {xa ya : List Nat} (hba : ba = vB sa) (hna : Us .u32 h0 vna xa) (hda : Us .u32 h0 vda ya) :
    Calls Tryz.prog 91 #[.agg #[ba, vna, vda]] w0 (Ret w0 h0 (fun h r => Us .u32 h r (if ya = [] then [1] else ya))) := by
 subst hba
 have hlx1 := uN hna.lt
 have hly1 := uN hda.lt
 refine zM (n := 10) (e := [(0, .agg #[vB sa, vna, vda])]) (vs := [.agg #[vB sa, vna, vda]]) func91 rfl rfl (bL rfl) hs ⟨rfl, trivial⟩ (zC (zA (zI (wZ (cs := [_, _, _]) rfl rfl) rfl rfl rfl ?_)))
 intro v1 r1 hr1
 obtain ⟨b1, rfl, rfl⟩ := hr1
 refine asg rfl rfl (zD (zB (zC (zC (zA (gv (zG underlying30 rfl sizeOf28 rfl) rfl (gv (zR mh0 isAgg28 rfl rfl) rfl (gv (zZ underlying28 rfl hda) rfl (gv (xU (q := 0) rfl rfl) rfl (zD (zB ?_)))))))))))
 refine zN rfl (fun hc6 => ?_) (fun hc6 => ?_)
 ·
  refine zC (zA (zI (new_build1 (kd := .u32) (p := 1) underlying28 uJ rfl rfl rfl) rfl rfl rfl ?_))
  intro v7 r7 hr7
  obtain rfl := hr7
  refine xT (by intro z hz; simp only [List.mem_singleton] at hz; subst hz; decide) ?_
  intro h1 hh1 h9
  refine asg rfl rfl (zD (zB (zQ (zV (yC rfl rfl ?_)))))
  rw [if_pos (len_zero.1 hc6)]
  exact h9
 refine zK (zB (zC (zA (gv (zG underlying30 rfl sizeOf28 rfl) rfl (gv (zR mh0 isAgg28 rfl rfl) rfl (asg rfl rfl (zD (zB (zQ (yC rfl rfl ?_))))))))))
 rw [if_neg (fun h => hc6 (len_zero.2 h))]
 exact hda
end Go.Proofs.YtghhjjmjpeehdaaGreat
namespace Go.Proofs.YtghhjjmjpeehdaaGreat
open Bk Go Tryz
set_option linter.unusedVariables false
set_option linter.unusedSimpArgs false
set_option maxRecDepth 10000
theorem rref_reduce {w0 : World} {h0 : Mem}  (hs : MLe h0 (mem w0)) {s : Prop} {vn vd : Value} {xs ys : List Nat} (hn : Us .u32 h0 vn xs) (hd : Us .u32 h0 vd ys) (hl : xs.length ≤ 500000000000) (hl' : ys.length ≤ 500000000000) (hd0 : val ys ≠ 0) :
    Calls Tryz.prog 89 #[vB s, vn, vd] w0 (Ret w0 h0 (fun h r => vX h r (mkRat (sg s (val xs)) (val ys)))) := by
 have hlx := uN hn.lt
 have hly := uN hd.lt
 refine zM (n := 55) (e := [(0, vB s), (1, vn), (2, vd)]) (vs := [vB s, vn, vd]) func89 rfl rfl (bL rfl) hs e3z (zC (zA (zI (vV (cs := [vB ((0 : Rat).num < 0), .slice none 0 0, .slice none 0 0]) wT rfl (by simp only [zb]; rfl)) rfl rfl rfl ?_)))
 intro v6 r6 hr6
 obtain ⟨b6, rfl, rfl⟩ := hr6
 refine zD (zB (zC (zA (mv rfl rfl ?_))))
 refine zO (vs := [_]) rfl rfl rfl rfl call118 ⟨rfl, trivial⟩ (fun w hs => ref_trim hs hn (by omega)) ?_
 intro v9 h1 hh1 hr9
 refine mv rfl rfl ?_
 replace hd := hd.mono hh1
 refine zO (vs := [_]) rfl rfl rfl rfl call118 ⟨rfl, trivial⟩ (fun w hs => ref_trim hs hd (by omega)) ?_
 intro v11 h2 hh2 hr11
 refine asg rfl rfl (asg rfl rfl (zD (zB (zC (zC (zA (mv rfl rfl ?_)))))))
 replace hr9 := hr9.mono hh2
 refine gv (zZ underlying28 rfl hr9) rfl (gv (xU (q := 0) rfl rfl) rfl (zD (zB ?_)))
 refine zN rfl (fun hc14 => ?_) (fun hc14 => ?_)
 ·
  refine wJ (e' := [(6, _)]) ⟨rfl, trivial⟩ (zC (zA (gv (wK (ps' := []) (vs := [vB ((0 : Rat).num < 0), .slice none 0 0, .slice none 0 0]) underlying30 wT rfl (qK underlying30) trivial (by simp only [zb]; exact qI)) rfl (wY (A := []) (r' := .var b6 30 [vB ((0 : Rat).num < 0), .slice none 0 0, .slice none 0 0]) (yA (k := 0) (cs := [_, _, _]) (vs := [_, _, _]) rfl rfl rfl rfl zX (bL rfl)) rfl rfl rfl (zD (zB (zQ (zV (xQ (fun E S => yS rfl (wX (cs := [_, _, _]) mh0 underlying30 rfl zX rfl) E S) ?_)))))))))
  have e : val xs = 0 := Classical.byContradiction fun e => by have := wF.2 e; omega
  rw [e, mk_zero]; exact vX.zero _
 have hn0 : val xs ≠ 0 := wF.1 (by omega)
 have hg0 : Nat.gcd (val xs) (val ys) ≠ 0 := Nat.ne_of_gt (Nat.gcd_pos_of_pos_left _ (by omega))
 refine zK (zB (zC (zA (mv rfl rfl (mv rfl rfl ?_)))))
 refine zO (vs := [_, _]) rfl rfl rfl rfl call119 e2z (fun w hs => ref_gcd hs hr9 hr11 (by omega) (by omega)) ?_
 intro v18 h3 hh3 hr18
 have hlm18 := limbs_len_gcd ((val (xs))) ((val (ys)))
 refine asg rfl rfl (zD (zJ (e' := [(0, _), (6, _), (1, _), (2, _), (7, _)]) e5z (zB (zC (zC (zA (mv rfl rfl (gv (zZ underlying28 rfl hr18) rfl (gv (ov_neq_i (q := 1) rfl rfl) rfl ?_)))))))))
 refine vY (ι := Unit) 6 (fun _ => True) (fun _ => [(27, vB (((↑(zF (Nat.gcd ((val (xs))) ((val (ys))))).length : Int) ≠ (1 : Int)) ∨ (((zF (Nat.gcd ((val (xs))) ((val (ys))))).getD (0) 0) ≠ (1 : Nat)))), (0, vB s), (6, vP b6 0), (1, v9), (2, v11), (7, v18)]) (fun _ => [.var b6 30 [vB ((0 : Rat).num < 0), .slice none 0 0, .slice none 0 0]]) (fun _ => h3) ?_ ?_
 ·
  refine wL ((↑(zF (Nat.gcd ((val (xs))) ((val (ys))))).length : Int) ≠ (1 : Int)) (fun hg => ?_) (fun hg => ?_)
  ·
   refine xE (yO (v := .bool true) (congrArg some (xL hg))) rfl rfl rfl (yI rfl rfl rfl rfl rfl rfl (yI rfl rfl rfl rfl rfl rfl (yI rfl rfl rfl rfl rfl rfl (yI rfl rfl rfl rfl rfl rfl (gv (xM rfl rfl) rfl (zD ?_))))))
   refine yM () trivial ⟨?_, rfl, rfl, rfl, rfl, rfl, trivial⟩ rfl rfl
   exact congrArg some (jZ hg)
  refine xE (yO (v := .bool false) (congrArg some (yX hg))) rfl rfl rfl (yY rfl rfl rfl (mv rfl rfl (yY rfl rfl rfl (gv (yN (q := 0) (0) underlying28 sizeOf124 rfl rfl hr18 rfl (by omega)) rfl (yY rfl rfl rfl (gv (yQ isAgg124 rfl hr18 (by omega)) rfl (yY rfl rfl rfl (gv (ov_neq_u (k := .u32) (q := 1) rfl rfl) rfl (gv (xW rfl rfl) rfl (zD ?_))))))))))
  refine yM () trivial ⟨?_, rfl, rfl, rfl, rfl, rfl, trivial⟩ rfl rfl
  exact congrArg some (kA hg)
 intro _ _
 show GL _ _ _ _ _ _ _ [(27, vB (((↑(zF (Nat.gcd ((val (xs))) ((val (ys))))).length : Int) ≠ (1 : Int)) ∨ (((zF (Nat.gcd ((val (xs))) ((val (ys))))).getD (0) 0) ≠ (1 : Nat)))), (0, vB s), (6, vP b6 0), (1, v9), (2, v11), (7, v18)] [.var b6 30 [vB ((0 : Rat).num < 0), .slice none 0 0, .slice none 0 0]] h3
 refine zD (zB ?_)
 refine zN rfl (fun hc27 => ?_) (fun hc27 => ?_)
 ·
  refine zC (zA (mv rfl rfl (mv rfl rfl ?_)))
  replace hr9 := hr9.mono hh3
  refine zO (vs := [_, _]) rfl rfl rfl rfl call120 e2z (fun w hs => ref_div hs hr9 hr18 (by omega) (by omega)) ?_
  intro v31 h4 hh4 hr31
  obtain ⟨q31, r31, rfl, hq31, hr31⟩ := hr31
  have hlm31 := xD (Nat.div_le_self ((val (xs))) ((Nat.gcd ((val (xs))) ((val (ys))))))
  refine mv rfl rfl (gv (zL (vs := [_, _, _]) rfl rfl) rfl (gv (zL (vs := [_, _, _]) rfl rfl) rfl (gv (zL (vs := [_, _, _]) rfl rfl) rfl (asg rfl rfl (zD (zB (zA (mv rfl rfl (mv rfl rfl ?_)))))))))
  replace hr11 := hr11.mono (hh3.trans hh4)
  replace hr18 := hr18.mono hh4
  refine zO (vs := [_, _]) rfl rfl rfl rfl call120 e2z (fun w hs => ref_div hs hr11 hr18 (by omega) (by omega)) ?_
  intro v38 h5 hh5 hr38
  obtain ⟨q38, r38, rfl, hq38, hr38⟩ := hr38
  have hlm38 := xD (Nat.div_le_self ((val (ys))) ((Nat.gcd ((val (xs))) ((val (ys))))))
  refine mv rfl rfl (gv (zL (vs := [_, _, _]) rfl rfl) rfl (gv (zL (vs := [_, _, _]) rfl rfl) rfl (gv (zL (vs := [_, _, _]) rfl rfl) rfl (asg rfl rfl (zD (zJ (e' := [(0, _), (6, _), (1, _), (2, _)]) e4z (zB (zC (zC (zA (mv rfl rfl (gv (zZ underlying28 rfl hq38) rfl (gv (xU (q := 1) rfl rfl) rfl ?_)))))))))))))
  refine vY (ι := Unit) 6 (fun _ => True) (fun _ => [(50, vB (((↑(zF (((val (ys))) / ((Nat.gcd ((val (xs))) ((val (ys))))))).length : Int) = (1 : Int)) ∧ (((zF (((val (ys))) / ((Nat.gcd ((val (xs))) ((val (ys))))))).getD (0) 0) = (1 : Nat)))), (0, vB s), (6, vP b6 0), (1, q31), (2, q38)]) (fun _ => [.var b6 30 [vB ((0 : Rat).num < 0), .slice none 0 0, .slice none 0 0]]) (fun _ => h5) ?_ ?_
  ·
   refine wL ((↑(zF (((val (ys))) / ((Nat.gcd ((val (xs))) ((val (ys))))))).length : Int) = (1 : Int)) (fun hg => ?_) (fun hg => ?_)
   ·
    refine xE (yO (v := .bool true) (congrArg some (xL hg))) rfl rfl rfl (yY rfl rfl rfl (mv rfl rfl (yY rfl rfl rfl (gv (yN (q := 0) (0) underlying28 sizeOf124 rfl rfl hq38 rfl (by omega)) rfl (yY rfl rfl rfl (gv (yQ isAgg124 rfl hq38 (by omega)) rfl (yY rfl rfl rfl (gv (ov_eql_u (k := .u32) (q := 1) rfl rfl) rfl (gv (xM rfl rfl) rfl (zD ?_))))))))))
    refine yM () trivial ⟨?_, rfl, rfl, rfl, rfl, trivial⟩ rfl rfl
    exact congrArg some (uC hg)
   refine xE (yO (v := .bool false) (congrArg some (yX hg))) rfl rfl rfl (yI rfl rfl rfl rfl rfl rfl (yI rfl rfl rfl rfl rfl rfl (yI rfl rfl rfl rfl rfl rfl (yI rfl rfl rfl rfl rfl rfl (gv (xW rfl rfl) rfl (zD ?_))))))
   refine yM () trivial ⟨?_, rfl, rfl, rfl, rfl, trivial⟩ rfl rfl
   exact congrArg some (uD hg)
  intro _ _
  show GL _ _ _ _ _ _ _ [(50, vB (((↑(zF (((val (ys))) / ((Nat.gcd ((val (xs))) ((val (ys))))))).length : Int) = (1 : Int)) ∧ (((zF (((val (ys))) / ((Nat.gcd ((val (xs))) ((val (ys))))))).getD (0) 0) = (1 : Nat)))), (0, vB s), (6, vP b6 0), (1, q31), (2, q38)] [.var b6 30 [vB ((0 : Rat).num < 0), .slice none 0 0, .slice none 0 0]] h5
  refine zD (zB ?_)
  refine zN rfl (fun hc50 => ?_) (fun hc50 => ?_)
  ·
   refine zA (asg rfl rfl (zD (zB (zC (zA (mv rfl rfl (mv rfl rfl (mv rfl rfl ?_))))))))
   replace hq31 := hq31.mono hh5
   refine gv (wK (ps' := [(0, _), (1, _), (2, _)]) (vs := [vB s, q31, .slice none 0 0]) underlying30 wT rfl (qK underlying30) e6 (vD (A := []) (B := [_]) (C := [_, _]) (cs := [_]) (off := 0) (size := 1) rfl rfl rfl rfl rfl (vD (A := [_]) (B := [_]) (C := [_]) (cs := [_]) (off := 1) (size := 1) rfl rfl rfl rfl hq31.cells (vD (A := [_, _]) (B := [_]) (C := []) (cs := [_]) (off := 2) (size := 1) rfl rfl rfl rfl rfl qI)))) rfl (wY (A := []) (r' := .var b6 30 [vB s, q31, .slice none 0 0]) (yA (k := 0) (cs := [_, _, _]) (vs := [_, _, _]) rfl rfl rfl (ocr rfl (ocu hq31 (ocr rfl oc0))) zX (bL rfl)) rfl rfl rfl (zD (zB (zQ (xQ (fun E S => yS rfl (wX (cs := [_, _, _]) mh0 underlying30 rfl zX rfl) E S) ?_)))))
   exact vX.fin1 hn0 hd0 hq31 hc50
  refine zK (zB (zC (zA (mv rfl rfl (mv rfl rfl (mv rfl rfl ?_))))))
  replace hq31 := hq31.mono hh5
  refine gv (wK (ps' := [(0, _), (1, _), (2, _)]) (vs := [vB s, q31, q38]) underlying30 wT rfl (qK underlying30) e6 (vD (A := []) (B := [_]) (C := [_, _]) (cs := [_]) (off := 0) (size := 1) rfl rfl rfl rfl rfl (vD (A := [_]) (B := [_]) (C := [_]) (cs := [_]) (off := 1) (size := 1) rfl rfl rfl rfl hq31.cells (vD (A := [_, _]) (B := [_]) (C := []) (cs := [_]) (off := 2) (size := 1) rfl rfl rfl rfl hq38.cells qI)))) rfl (wY (A := []) (r' := .var b6 30 [vB s, q31, q38]) (yA (k := 0) (cs := [_, _, _]) (vs := [_, _, _]) rfl rfl rfl (ocr rfl (ocu hq31 (ocu hq38 oc0))) zX (bL rfl)) rfl rfl rfl (zD (zB (zQ (xQ (fun E S => yS rfl (wX (cs := [_, _, _]) mh0 underlying30 rfl zX rfl) E S) ?_)))))
  exact vX.fin hn0 hd0 hq31 hq38 hc50
 refine zK (zB (zC (zC (zA (mv rfl rfl ?_)))))
 replace hr11 := hr11.mono hh3
 refine gv (zZ underlying28 rfl hr11) rfl (gv (xU (q := 1) rfl rfl) rfl ?_)
 refine vY (ι := Unit) 6 (fun _ => True) (fun _ => [(50, vB (((↑(zF (val (ys))).length : Int) = (1 : Int)) ∧ (((zF (val (ys))).getD (0) 0) = (1 : Nat)))), (0, vB s), (6, vP b6 0), (1, v9), (2, v11)]) (fun _ => [.var b6 30 [vB ((0 : Rat).num < 0), .slice none 0 0, .slice none 0 0]]) (fun _ => h3) ?_ ?_
 ·
  refine wL ((↑(zF (val (ys))).length : Int) = (1 : Int)) (fun hg => ?_) (fun hg => ?_)
  ·
   refine xE (yO (v := .bool true) (congrArg some (xL hg))) rfl rfl rfl (yY rfl rfl rfl (mv rfl rfl (yY rfl rfl rfl (gv (yN (q := 0) (0) underlying28 sizeOf124 rfl rfl hr11 rfl (by omega)) rfl (yY rfl rfl rfl (gv (yQ isAgg124 rfl hr11 (by omega)) rfl (yY rfl rfl rfl (gv (ov_eql_u (k := .u32) (q := 1) rfl rfl) rfl (gv (xM rfl rfl) rfl (zD ?_))))))))))
   refine yM () trivial ⟨?_, rfl, rfl, rfl, rfl, trivial⟩ rfl rfl
   exact congrArg some (uC hg)
  refine xE (yO (v := .bool false) (congrArg some (yX hg))) rfl rfl rfl (yI rfl rfl rfl rfl rfl rfl (yI rfl rfl rfl rfl rfl rfl (yI rfl rfl rfl rfl rfl rfl (yI rfl rfl rfl rfl rfl rfl (gv (xW rfl rfl) rfl (zD ?_))))))
  refine yM () trivial ⟨?_, rfl, rfl, rfl, rfl, trivial⟩ rfl rfl
  exact congrArg some (uD hg)
 intro _ _
 show GL _ _ _ _ _ _ _ [(50, vB (((↑(zF (val (ys))).length : Int) = (1 : Int)) ∧ (((zF (val (ys))).getD (0) 0) = (1 : Nat)))), (0, vB s), (6, vP b6 0), (1, v9), (2, v11)] [.var b6 30 [vB ((0 : Rat).num < 0), .slice none 0 0, .slice none 0 0]] h3
 refine zD (zB ?_)
 refine zN rfl (fun hc50 => ?_) (fun hc50 => ?_)
 ·
  refine zA (asg rfl rfl (zD (zB (zC (zA (mv rfl rfl (mv rfl rfl (mv rfl rfl ?_))))))))
  replace hr9 := hr9.mono hh3
  refine gv (wK (ps' := [(0, _), (1, _), (2, _)]) (vs := [vB s, v9, .slice none 0 0]) underlying30 wT rfl (qK underlying30) e6 (vD (A := []) (B := [_]) (C := [_, _]) (cs := [_]) (off := 0) (size := 1) rfl rfl rfl rfl rfl (vD (A := [_]) (B := [_]) (C := [_]) (cs := [_]) (off := 1) (size := 1) rfl rfl rfl rfl hr9.cells (vD (A := [_, _]) (B := [_]) (C := []) (cs := [_]) (off := 2) (size := 1) rfl rfl rfl rfl rfl qI)))) rfl (wY (A := []) (r' := .var b6 30 [vB s, v9, .slice none 0 0]) (yA (k := 0) (cs := [_, _, _]) (vs := [_, _, _]) rfl rfl rfl (ocr rfl (ocu hr9 (ocr rfl oc0))) zX (bL rfl)) rfl rfl rfl (zD (zB (zQ (xQ (fun E S => yS rfl (wX (cs := [_, _, _]) mh0 underlying30 rfl zX rfl) E S) ?_)))))
  have hg1 := gcd_one_of hc27
  exact vX.fin1 hn0 hd0 (by rw [hg1, Nat.div_one]; exact hr9) (by rw [hg1, Nat.div_one]; exact hc50)
 refine zK (zB (zC (zA (mv rfl rfl (mv rfl rfl (mv rfl rfl ?_))))))
 replace hr9 := hr9.mono hh3
 refine gv (wK (ps' := [(0, _), (1, _), (2, _)]) (vs := [vB s, v9, v11]) underlying30 wT rfl (qK underlying30) e6 (vD (A := []) (B := [_]) (C := [_, _]) (cs := [_]) (off := 0) (size := 1) rfl rfl rfl rfl rfl (vD (A := [_]) (B := [_]) (C := [_]) (cs := [_]) (off := 1) (size := 1) rfl rfl rfl rfl hr9.cells (vD (A := [_, _]) (B := [_]) (C := []) (cs := [_]) (off := 2) (size := 1) rfl rfl rfl rfl hr11.cells qI)))) rfl (wY (A := []) (r' := .var b6 30 [vB s, v9, v11]) (yA (k := 0) (cs := [_, _, _]) (vs := [_, _, _]) rfl rfl rfl (ocr rfl (ocu hr9 (ocu hr11 oc0))) zX (bL rfl)) rfl rfl rfl (zD (zB (zQ (xQ (fun E S => yS rfl (wX (cs := [_, _, _]) mh0 underlying30 rfl zX rfl) E S) ?_)))))
 have hg1 := gcd_one_of hc27
 exact vX.fin hn0 hd0 (by rw [hg1, Nat.div_one]; exact hr9) (by rw [hg1, Nat.div_one]; exact hr11) (by rw [hg1, Nat.div_one]; exact hc50)
theorem rref_size {w0 : World} {h0 : Mem}  (hs : MLe h0 (mem w0)) {n : Int} (hn1 : -9223372036854775808 ≤ n) (hn2 : n < 9223372036854775808) :
    Calls Tryz.prog 83 #[vI n] w0 (Ret w0 h0 (fun h r => ∃ u, r = .tuple #[u, vB (n < 0)] ∧ Us .u32 h u (zF n.natAbs))) := by
 refine zM (n := 15) (e := [(0, vI n)]) (vs := [vI n]) func83 rfl rfl (bL rfl) hs ⟨rfl, trivial⟩ (zC (zA (asg rfl rfl (asg rfl rfl (zD (zB (zC (zC (zA (mv rfl rfl (gv (zW (q := 0) rfl rfl) rfl (zD (zB ?_)))))))))))))
 refine zN rfl (fun hc5 => ?_) (fun hc5 => ?_)
 ·
  refine zC (zA (mv rfl rfl (gv (zS (q := 1) rfl rfl (by omega) (by omega)) rfl (gv (ov_neg_i rfl (by omega) (by omega)) rfl (gv (ov_conv_iu (p := (-(n + 1)).toNat) (k' := .u64) (W := 18446744073709551616) underlying2 underlying122 rfl rfl (congrArg some (congrArg vI (by omega))) (by omega)) rfl (gv (jD (k := .u64) (q := 1) (W := 18446744073709551616) rfl rfl rfl rfl (by omega)) rfl ?_))))))
  refine zO (vs := [_]) rfl rfl rfl rfl call116 ⟨rfl, trivial⟩ (fun w hs => ref_of hs (by omega)) ?_
  intro v11 h1 hh1 hr11
  refine asg rfl rfl (asg rfl rfl (zD (zB (zQ (zV (vK rfl rfl rfl ?_))))))
  rw [xL hc5, show n.natAbs = (-(n + 1)).toNat + 1 by omega]
  exact ⟨_, rfl, hr11⟩
 refine zK (zB (zC (zA (mv rfl rfl (gv (ov_conv_iu (p := n.toNat) (k' := .u64) (W := 18446744073709551616) underlying2 underlying122 rfl rfl (congrArg some (congrArg vI (by omega))) (by omega)) rfl ?_)))))
 refine zO (vs := [_]) rfl rfl rfl rfl call116 ⟨rfl, trivial⟩ (fun w hs => ref_of hs (by omega)) ?_
 intro v14 h1 hh1 hr14
 refine asg rfl rfl (asg rfl rfl (zD (zB (zQ (vK rfl rfl rfl ?_)))))
 rw [yX hc5, show n.natAbs = n.toNat by omega]
 exact ⟨_, rfl, hr14⟩
theorem rref_make {w0 : World} {h0 : Mem}  (hs : MLe h0 (mem w0)) {n : Int} (hn1 : -9223372036854775808 ≤ n) (hn2 : n < 9223372036854775808) {d : Int} (hd1 : -9223372036854775808 ≤ d) (hd2 : d < 9223372036854775808) :
    Calls Tryz.prog 52 #[vI n, vI d] w0 (Ret w0 h0 (fun h r => ∃ u, r = .tuple #[u, vI (if d = 0 then 3 else 0)] ∧ vX h u (qR n d))) := by
 refine zM (n := 29) (e := [(0, vI n), (1, vI d)]) (vs := [vI n, vI d]) func52 rfl rfl (bL rfl) hs e2z (zC (zA (zI (vV (cs := [vB ((0 : Rat).num < 0), .slice none 0 0, .slice none 0 0]) wT rfl (by simp only [zb]; rfl)) rfl rfl rfl ?_)))
 intro v4 r4 hr4
 obtain ⟨b4, rfl, rfl⟩ := hr4
 refine asg (v := vI (0)) rfl rfl (zD (zB (zC (zC (zA (mv rfl rfl (gv (xU (q := 0) rfl rfl) rfl (zD (zB ?_)))))))))
 refine zN rfl (fun hc11 => ?_) (fun hc11 => ?_)
 ·
  refine zC (zA (gv (wK (ps' := []) (vs := [vB ((0 : Rat).num < 0), .slice none 0 0, .slice none 0 0]) underlying30 wT rfl (qK underlying30) trivial (by simp only [zb]; exact qI)) rfl (wY (A := []) (r' := .var b4 30 [vB ((0 : Rat).num < 0), .slice none 0 0, .slice none 0 0]) (yA (k := 0) (cs := [_, _, _]) (vs := [_, _, _]) rfl rfl rfl rfl zX (bL rfl)) rfl rfl rfl (asg (v := vI (3)) rfl rfl (zD (zB (zQ (zV (xQ (fun E S => run_res2 rfl (wX (cs := [_, _, _]) mh0 underlying30 rfl zX rfl) (rv_tmp rfl) E S) ?_)))))))))
  rw [if_pos hc11, hc11, makeQ_zero]
  exact ⟨_, rfl, vX.zero _⟩
 have hda : d.natAbs ≠ 0 := by omega
 refine zK (zB (zC (zA (mv rfl rfl ?_))))
 refine zO (vs := [_]) rfl rfl rfl rfl call83 ⟨rfl, trivial⟩ (fun w hs => rref_size hs (by omega) (by omega)) ?_
 intro v15 h1 hh1 hr15
 obtain ⟨u15, rfl, hu15⟩ := hr15
 have hlm15 := limbs_len_i64 (n := n) (by omega) (by omega)
 refine mv rfl rfl (gv (zL (vs := [_, _]) rfl rfl) rfl (gv (zL (vs := [_, _]) rfl rfl) rfl (asg rfl rfl (asg rfl rfl (zD (zB (zC (zA (mv rfl rfl ?_)))))))))
 refine zO (vs := [_]) rfl rfl rfl rfl call83 ⟨rfl, trivial⟩ (fun w hs => rref_size hs (by omega) (by omega)) ?_
 intro v20 h2 hh2 hr20
 obtain ⟨u20, rfl, hu20⟩ := hr20
 have hlm20 := limbs_len_i64 (n := d) (by omega) (by omega)
 refine mv rfl rfl (gv (zL (vs := [_, _]) rfl rfl) rfl (gv (zL (vs := [_, _]) rfl rfl) rfl (asg rfl rfl (asg rfl rfl (zD (zJ (e' := [(4, _), (6, _), (7, _), (8, _), (9, _)]) e5z (zB (zC (zA (mv rfl rfl (mv rfl rfl (gv (ov_neq_b underlying4 rfl rfl) rfl (mv rfl rfl ?_)))))))))))))
 refine mv rfl rfl ?_
 replace hu15 := hu15.mono hh2
 refine zO (vs := [_, _, _]) rfl rfl rfl rfl call89 e3z (fun w hs => rref_reduce hs hu15 hu20 (by omega) (by omega) (by first | (simp only [zU]; omega) | (simp only [zU]; first | exact Rat.den_nz _ | exact Nat.mul_ne_zero (Rat.den_nz _) (Rat.den_nz _) | exact Nat.one_ne_zero | assumption) | assumption)) ?_
 intro v28 h3 hh3 hr28
 try simp only [zU] at hr28
 obtain ⟨vn28, vd28, rfl, hn28, hd28⟩ := hr28
 refine wY (A := []) (r' := .var b4 30 [vB ((mkRat (sg (¬ ((n < 0) ↔ (d < 0))) (((n).natAbs))) (((d).natAbs))).num < 0), vn28, vd28]) (yA (k := 0) (cs := [_, _, _]) (vs := [_, _, _]) rfl rfl rfl (ocr rfl (ocu hn28 (ocu hd28 oc0))) zX (bL rfl)) rfl rfl rfl (asg (v := vI (0)) rfl rfl (zD (zJ (e' := [(4, _), (5, _)]) e2z (zB (zQ (xQ (fun E S => run_res2 rfl (wX (cs := [_, _, _]) mh0 underlying30 rfl zX rfl) (rv_tmp rfl) E S) ?_))))))
 rw [if_neg hc11, ← makeQ_eq hc11]
 exact ⟨_, rfl, _, _, rfl, hn28, hd28⟩
theorem rref_int {w0 : World} {h0 : Mem}  (hs : MLe h0 (mem w0)) {n : Int} (hn1 : -9223372036854775808 ≤ n) (hn2 : n < 9223372036854775808) :
    Calls Tryz.prog 45 #[vI n] w0 (Ret w0 h0 (fun h r => vX h r (n : Rat))) := by
 refine zM (n := 13) (e := [(0, vI n)]) (vs := [vI n]) func45 rfl rfl (bL rfl) hs ⟨rfl, trivial⟩ (zC (zA (zI (vV (cs := [vB ((0 : Rat).num < 0), .slice none 0 0, .slice none 0 0]) wT rfl (by simp only [zb]; rfl)) rfl rfl rfl ?_)))
 intro v2 r2 hr2
 obtain ⟨b2, rfl, rfl⟩ := hr2
 refine zD (zB (zC (zA (mv rfl rfl ?_))))
 refine zO (vs := [_]) rfl rfl rfl rfl call83 ⟨rfl, trivial⟩ (fun w hs => rref_size hs (by omega) (by omega)) ?_
 intro v7 h1 hh1 hr7
 obtain ⟨u7, rfl, hu7⟩ := hr7
 have hlm7 := limbs_len_i64 (n := n) (by omega) (by omega)
 refine mv rfl rfl (gv (zL (vs := [_, _]) rfl rfl) rfl (gv (zL (vs := [_, _]) rfl rfl) rfl (asg rfl rfl (asg rfl rfl (zD (zB (zC (zA (mv rfl rfl (mv rfl rfl (gv (wK (ps' := [(0, _), (1, _)]) (vs := [vB (n < 0), u7, .slice none 0 0]) underlying30 wT rfl (qK underlying30) e4z (vD (A := []) (B := [_]) (C := [_, _]) (cs := [_]) (off := 0) (size := 1) rfl rfl rfl rfl rfl (vD (A := [_]) (B := [_]) (C := [_]) (cs := [_]) (off := 1) (size := 1) rfl rfl rfl rfl hu7.cells qI))) rfl (wY (A := []) (r' := .var b2 30 [vB (n < 0), u7, .slice none 0 0]) (yA (k := 0) (cs := [_, _, _]) (vs := [_, _, _]) rfl rfl rfl (ocr rfl (ocu hu7 (ocr rfl oc0))) zX (bL rfl)) rfl rfl rfl (zD ?_)))))))))))))
 refine zJ (e' := [(2, _)]) ⟨rfl, trivial⟩ (zB (zQ (xQ (fun E S => yS rfl (wX (cs := [_, _, _]) mh0 underlying30 rfl zX rfl) E S) ?_)))
 exact vX.int hu7
theorem rref_frac {w0 : World} {h0 : Mem}  (hs : MLe h0 (mem w0)) {n : Int} (hn1 : -9223372036854775808 ≤ n) (hn2 : n < 9223372036854775808) {d : Int} (hd1 : -9223372036854775808 ≤ d) (hd2 : d < 9223372036854775808) :
    Calls Tryz.prog 46 #[vI n, vI d] w0 (Ret w0 h0 (fun h r => vX h r (qR n d))) := by
 refine zM (n := 14) (e := [(0, vI n), (1, vI d)]) (vs := [vI n, vI d]) func46 rfl rfl (bL rfl) hs e2z (zC (zA (zI (vV (cs := [vB ((0 : Rat).num < 0), .slice none 0 0, .slice none 0 0]) wT rfl (by simp only [zb]; rfl)) rfl rfl rfl ?_)))
 intro v4 r4 hr4
 obtain ⟨b4, rfl, rfl⟩ := hr4
 refine zD (zB (zC (zA (mv rfl rfl (mv rfl rfl ?_)))))
 refine zO (vs := [_, _]) rfl rfl rfl rfl call52 e2z (fun w hs => rref_make hs (by omega) (by omega) (by omega) (by omega)) ?_
 intro v10 h1 hh1 hr10
 obtain ⟨_, rfl, vn10, vd10, rfl, hn10, hd10⟩ := hr10
 have hlq10 := lq_make (n := n) (d := d) (by omega) (by omega) (by omega) (by omega)
 refine mv rfl rfl (gv (zL (vs := [_, _]) rfl rfl) rfl (gv (zL (vs := [_, _]) rfl rfl) rfl (zI (vV (cs := [vB ((0 : Rat).num < 0), .slice none 0 0, .slice none 0 0]) wT rfl (by simp only [zb]; rfl)) rfl rfl rfl ?_)))
 intro v5 r5 hr5
 obtain ⟨b5, rfl, rfl⟩ := hr5
 refine wY (A := []) (r' := .var b5 30 [vB ((qR n d).num < 0), vn10, vd10]) (yA (k := 0) (cs := [_, _, _]) (vs := [_, _, _]) rfl rfl rfl (ocr rfl (ocu hn10 (ocu hd10 oc0))) zX (bL rfl)) rfl rfl rfl (asg rfl rfl (zD (zB (zC (zA (gv (yE (vs := [_, _, _]) mh0 underlying30 rfl zX rfl rfl) rfl (wY (A := [_]) (r' := .var b4 30 [vB ((qR n d).num < 0), vn10, vd10]) (yA (k := 0) (cs := [_, _, _]) (vs := [_, _, _]) rfl rfl rfl (ocr rfl (ocu hn10 (ocu hd10 oc0))) zX (bL rfl)) rfl rfl rfl (zD (zJ (e' := [(4, _)]) ⟨rfl, trivial⟩ (zB (zQ (xQ (fun E S => yS rfl (wX (cs := [_, _, _]) mh1 underlying30 rfl zX rfl) E S) ?_))))))))))))
 exact ⟨_, _, rfl, hn10, hd10⟩
theorem rref_same {w0 : World} {h0 : Mem}  (hs : MLe h0 (mem w0)) {qa : Rat} {vna vda : Value} (hna : Us .u32 h0 vna (zF qa.num.natAbs)) (hda : Us .u32 h0 vda (zF (vO qa.den))) {qb : Rat} {vnb vdb : Value} (hnb : Us .u32 h0 vnb (zF qb.num.natAbs)) (hdb : Us .u32 h0 vdb (zF (vO qb.den))) (hqa : lq qa ≤ 100000000000) (hqb : lq qb ≤ 100000000000)  :
    Calls Tryz.prog 62 #[.agg #[vB (qa.num < 0), vna, vda], .agg #[vB (qb.num < 0), vnb, vdb]] w0 (Ret w0 h0 (fun _ r => r = vB (qa = qb))) := by
 have hlna := vM qa
 have hlda := vS qa
 have hlDa := vE qa
 have hlnb := vM qb
 have hldb := vS qb
 have hlDb := vE qb
 refine zM (n := 26) (e := [(0, .agg #[vB (qa.num < 0), vna, vda]), (1, .agg #[vB (qb.num < 0), vnb, vdb])]) (vs := [.agg #[vB (qa.num < 0), vna, vda], .agg #[vB (qb.num < 0), vnb, vdb]]) func62 rfl rfl (bL rfl) hs e2z (zC (zA (zI (wZ (cs := [_, _, _]) rfl rfl) rfl rfl rfl ?_)))
 intro v2 r2 hr2
 obtain ⟨b2, rfl, rfl⟩ := hr2
 refine zI (wZ (cs := [_, _, _]) rfl rfl) rfl rfl rfl ?_
 intro v3 r3 hr3
 obtain ⟨b3, rfl, rfl⟩ := hr3
 refine asg rfl rfl (zD (zB (zC (zA (gv (zG underlying30 rfl sizeOf4 rfl) rfl (gv (zR mh1 isAgg4 rfl rfl) rfl (gv (zG underlying30 rfl sizeOf4 rfl) rfl (gv (zR mh0 isAgg4 rfl rfl) rfl (gv (ov_eql_b underlying4 rfl rfl) rfl ?_)))))))))
 refine vY (ι := Mem) 8 (fun m_ => MLe h0 m_) (fun _ => [(17, vB (((qa.num < 0) ↔ (qb.num < 0)) ∧ ((cmpN (qa.num.natAbs) (qb.num.natAbs)) = (0 : Int)))), (2, vP b2 0), (3, vP b3 0)]) (fun _ => [.var b3 30 [vB (qb.num < 0), vnb, vdb], .var b2 30 [vB (qa.num < 0), vna, vda]]) (fun m_ => m_) ?_ ?_
 ·
  refine wL ((qa.num < 0) ↔ (qb.num < 0)) (fun hg => ?_) (fun hg => ?_)
  ·
   refine xE (yO (v := .bool true) (congrArg some (xL hg))) rfl rfl rfl (yY rfl rfl rfl (gv (zG underlying30 rfl sizeOf28 rfl) rfl (yY rfl rfl rfl (gv (zR mh1 isAgg28 rfl rfl) rfl (yY rfl rfl rfl (gv (zG underlying30 rfl sizeOf28 rfl) rfl (yY rfl rfl rfl (gv (zR mh0 isAgg28 rfl rfl) rfl (yY rfl rfl rfl ?_)))))))))
   refine zO (vs := [_, _]) rfl rfl rfl rfl call93 e2z (fun w hs => ref_cmp hs hna hnb) ?_
   intro v15 h1 hh1 hr15
   subst hr15
   refine yY rfl rfl rfl (gv (xU (q := 0) rfl rfl) rfl (gv (xM rfl rfl) rfl (zD ?_)))
   refine yM h1 hh1 ⟨?_, rfl, rfl, trivial⟩ rfl rfl
   exact congrArg some (uC hg)
  refine xE (yO (v := .bool false) (congrArg some (yX hg))) rfl rfl rfl (yI rfl rfl rfl rfl rfl rfl (yI rfl rfl rfl rfl rfl rfl (yI rfl rfl rfl rfl rfl rfl (yI rfl rfl rfl rfl rfl rfl (yI rfl rfl rfl rfl rfl rfl (yI rfl rfl rfl rfl rfl rfl (gv (xW rfl rfl) rfl (zD ?_))))))))
  refine yM h0 (MLe.refl _) ⟨?_, rfl, rfl, trivial⟩ rfl rfl
  exact congrArg some (uD hg)
 intro mg1_5 hmmg1_5
 show GL _ _ _ _ _ _ _ [(17, vB (((qa.num < 0) ↔ (qb.num < 0)) ∧ ((cmpN (qa.num.natAbs) (qb.num.natAbs)) = (0 : Int)))), (2, vP b2 0), (3, vP b3 0)] [.var b3 30 [vB (qb.num < 0), vnb, vdb], .var b2 30 [vB (qa.num < 0), vna, vda]] mg1_5
 refine vY (ι := Mem) 8 (fun m_ => MLe mg1_5 m_) (fun _ => [(25, vB ((((qa.num < 0) ↔ (qb.num < 0)) ∧ ((cmpN (qa.num.natAbs) (qb.num.natAbs)) = (0 : Int))) ∧ ((cmpN ((vO qa.den)) ((vO qb.den))) = (0 : Int))))]) (fun _ => [.var b3 30 [vB (qb.num < 0), vnb, vdb], .var b2 30 [vB (qa.num < 0), vna, vda]]) (fun m_ => m_) ?_ ?_
 ·
  refine wL (((qa.num < 0) ↔ (qb.num < 0)) ∧ ((cmpN (qa.num.natAbs) (qb.num.natAbs)) = (0 : Int))) (fun hg => ?_) (fun hg => ?_)
  ·
   refine xE (yO (v := .bool true) (congrArg some (xL hg))) rfl rfl rfl (yY rfl rfl rfl (gv (zG underlying30 rfl sizeOf28 rfl) rfl (yY rfl rfl rfl (gv (zR mh1 isAgg28 rfl rfl) rfl (yY rfl rfl rfl (gv (zG underlying30 rfl sizeOf28 rfl) rfl (yY rfl rfl rfl (gv (zR mh0 isAgg28 rfl rfl) rfl (yY rfl rfl rfl ?_)))))))))
   replace hda := hda.mono hmmg1_5
   replace hdb := hdb.mono hmmg1_5
   refine zO (vs := [_, _]) rfl rfl rfl rfl call93 e2z (fun w hs => ref_cmp hs hda hdb) ?_
   intro v23 h1 hh1 hr23
   subst hr23
   refine yY rfl rfl rfl (gv (xU (q := 0) rfl rfl) rfl (gv (xM rfl rfl) rfl (zD ?_)))
   refine yM h1 hh1 ⟨?_, trivial⟩ rfl rfl
   exact congrArg some (uC hg)
  refine xE (yO (v := .bool false) (congrArg some (yX hg))) rfl rfl rfl (yI rfl rfl rfl rfl rfl rfl (yI rfl rfl rfl rfl rfl rfl (yI rfl rfl rfl rfl rfl rfl (yI rfl rfl rfl rfl rfl rfl (yI rfl rfl rfl rfl rfl rfl (yI rfl rfl rfl rfl rfl rfl (gv (xW rfl rfl) rfl (zD ?_))))))))
  refine yM mg1_5 (MLe.refl _) ⟨?_, trivial⟩ rfl rfl
  exact congrArg some (uD hg)
 intro mg1_13 hmmg1_13
 show GL _ _ _ _ _ _ _ [(25, vB ((((qa.num < 0) ↔ (qb.num < 0)) ∧ ((cmpN (qa.num.natAbs) (qb.num.natAbs)) = (0 : Int))) ∧ ((cmpN ((vO qa.den)) ((vO qb.den))) = (0 : Int))))] [.var b3 30 [vB (qb.num < 0), vnb, vdb], .var b2 30 [vB (qa.num < 0), vna, vda]] mg1_13
 refine asg rfl rfl (zD (zB (zQ (yC rfl rfl ?_))))
 exact vB_iff cmp_same
theorem rref_sign {w0 : World} {h0 : Mem}  (hs : MLe h0 (mem w0)) {qa : Rat} {vna vda : Value} (hna : Us .u32 h0 vna (zF qa.num.natAbs)) (hda : Us .u32 h0 vda (zF (vO qa.den))) (hqa : lq qa ≤ 100000000000)  :
    Calls Tryz.prog 50 #[.agg #[vB (qa.num < 0), vna, vda]] w0 (Ret w0 h0 (fun _ r => r = vI (uT qa))) := by
 have hlna := vM qa
 have hlda := vS qa
 have hlDa := vE qa
 refine zM (n := 9) (e := [(0, .agg #[vB (qa.num < 0), vna, vda])]) (vs := [.agg #[vB (qa.num < 0), vna, vda]]) func50 rfl rfl (bL rfl) hs ⟨rfl, trivial⟩ (zC (zA (zI (wZ (cs := [_, _, _]) rfl rfl) rfl rfl rfl ?_)))
 intro v1 r1 hr1
 obtain ⟨b1, rfl, rfl⟩ := hr1
 refine asg (v := vI (0)) rfl rfl (zD (zB (zC (zC (zA (gv (zG underlying30 rfl sizeOf28 rfl) rfl (gv (zR mh0 isAgg28 rfl rfl) rfl (gv (zZ underlying28 rfl hna) rfl (gv (xU (q := 0) rfl rfl) rfl (zD (zB ?_)))))))))))
 refine zN rfl (fun hc6 => ?_) (fun hc6 => ?_)
 ·
  refine zC (zA (asg (v := vI (0)) rfl rfl (zD (zB (zQ (zV (yC rfl rfl ?_)))))))
  rw [sgnQ_zero (num_zero hc6)]
 refine zK (zB (zC (zC (zA (gv (zG underlying30 rfl sizeOf4 rfl) rfl (gv (zR mh0 isAgg4 rfl rfl) rfl (zD (zB ?_))))))))
 refine zN rfl (fun hc8 => ?_) (fun hc8 => ?_)
 ·
  refine zC (zA (asg (v := vI (-1)) rfl rfl (zD (zB (zQ (zV (yC rfl rfl ?_)))))))
  rw [sgnQ_neg hc8]
 refine zK (zB (zC (zA (asg (v := vI (1)) rfl rfl (zD (zB (zQ (yC rfl rfl ?_))))))))
 rw [sgnQ_pos (num_pos_of hc6) hc8]
theorem rref_neg {w0 : World} {h0 : Mem}  (hs : MLe h0 (mem w0)) {qa : Rat} {vna vda : Value} (hna : Us .u32 h0 vna (zF qa.num.natAbs)) (hda : Us .u32 h0 vda (zF (vO qa.den))) (hqa : lq qa ≤ 100000000000)  :
    Calls Tryz.prog 95 #[.agg #[vB (qa.num < 0), vna, vda]] w0 (Ret w0 h0 (fun h r => vX h r (-qa))) := by
 have hlna := vM qa
 have hlda := vS qa
 have hlDa := vE qa
 refine zM (n := 14) (e := [(0, .agg #[vB (qa.num < 0), vna, vda])]) (vs := [.agg #[vB (qa.num < 0), vna, vda]]) func95 rfl rfl (bL rfl) hs ⟨rfl, trivial⟩ (zC (zA (zI (wZ (cs := [_, _, _]) rfl rfl) rfl rfl rfl ?_)))
 intro v1 r1 hr1
 obtain ⟨b1, rfl, rfl⟩ := hr1
 refine zI (vV (cs := [vB ((0 : Rat).num < 0), .slice none 0 0, .slice none 0 0]) wT rfl (by simp only [zb]; rfl)) rfl rfl rfl ?_
 intro v2 r2 hr2
 obtain ⟨b2, rfl, rfl⟩ := hr2
 refine zD (zB (zC (zA (gv (zG underlying30 rfl sizeOf4 rfl) rfl (gv (zR mh1 isAgg4 rfl rfl) rfl (gv (gB rfl) rfl ?_))))))
 refine vY (ι := Unit) 6 (fun _ => True) (fun _ => [(11, vB ((¬ (qa.num < 0)) ∧ ((0 : Int) < (↑(zF qa.num.natAbs).length : Int)))), (1, vP b1 0), (2, vP b2 0)]) (fun _ => [.var b2 30 [vB ((0 : Rat).num < 0), .slice none 0 0, .slice none 0 0], .var b1 30 [vB (qa.num < 0), vna, vda]]) (fun _ => h0) ?_ ?_
 ·
  refine wL (¬ (qa.num < 0)) (fun hg => ?_) (fun hg => ?_)
  ·
   refine xE (yO (v := .bool true) (congrArg some (xL hg))) rfl rfl rfl (yY rfl rfl rfl (gv (zG underlying30 rfl sizeOf28 rfl) rfl (yY rfl rfl rfl (gv (zR mh1 isAgg28 rfl rfl) rfl (yY rfl rfl rfl (gv (zZ underlying28 rfl hna) rfl (yY rfl rfl rfl (gv (uH (q := 0) rfl rfl) rfl (gv (xM rfl rfl) rfl (zD ?_))))))))))
   refine yM () trivial ⟨?_, rfl, rfl, trivial⟩ rfl rfl
   exact congrArg some (uC hg)
  refine xE (yO (v := .bool false) (congrArg some (yX hg))) rfl rfl rfl (yI rfl rfl rfl rfl rfl rfl (yI rfl rfl rfl rfl rfl rfl (yI rfl rfl rfl rfl rfl rfl (yI rfl rfl rfl rfl rfl rfl (gv (xW rfl rfl) rfl (zD ?_))))))
  refine yM () trivial ⟨?_, rfl, rfl, trivial⟩ rfl rfl
  exact congrArg some (uD hg)
 intro _ _
 show GL _ _ _ _ _ _ _ [(11, vB ((¬ (qa.num < 0)) ∧ ((0 : Int) < (↑(zF qa.num.natAbs).length : Int)))), (1, vP b1 0), (2, vP b2 0)] [.var b2 30 [vB ((0 : Rat).num < 0), .slice none 0 0, .slice none 0 0], .var b1 30 [vB (qa.num < 0), vna, vda]] h0
 refine gv (zG underlying30 rfl sizeOf4 rfl) rfl (wY (A := [_]) (r' := .var b1 30 [vB ((¬ (qa.num < 0)) ∧ ((0 : Int) < (↑(zF qa.num.natAbs).length : Int))), vna, vda]) (yA (k := 0) (cs := [_, _, _]) (vs := [_]) rfl rfl rfl rfl size4 (bL rfl)) rfl rfl rfl (zD (zB (zC (zA (gv (yE (vs := [_, _, _]) mh1 underlying30 rfl zX rfl rfl) rfl (wY (A := []) (r' := .var b2 30 [vB ((¬ (qa.num < 0)) ∧ ((0 : Int) < (↑(zF qa.num.natAbs).length : Int))), vna, vda]) (yA (k := 0) (cs := [_, _, _]) (vs := [_, _, _]) rfl rfl rfl (ocr rfl (ocu hna (ocu hda oc0))) zX (bL rfl)) rfl rfl rfl (zD (zB (zQ (xQ (fun E S => yS rfl (wX (cs := [_, _, _]) mh0 underlying30 rfl zX rfl) E S) ?_)))))))))))
 exact vX.negB hna hda
theorem rref_add {w0 : World} {h0 : Mem}  (hs : MLe h0 (mem w0)) {qa : Rat} {vna vda : Value} (hna : Us .u32 h0 vna (zF qa.num.natAbs)) (hda : Us .u32 h0 vda (zF (vO qa.den))) {qb : Rat} {vnb vdb : Value} (hnb : Us .u32 h0 vnb (zF qb.num.natAbs)) (hdb : Us .u32 h0 vdb (zF (vO qb.den))) (hqa : lq qa ≤ 100000000000) (hqb : lq qb ≤ 100000000000)  :
    Calls Tryz.prog 53 #[.agg #[vB (qa.num < 0), vna, vda], .agg #[vB (qb.num < 0), vnb, vdb]] w0 (Ret w0 h0 (fun h r => vX h r (qa + qb))) := by
 have hlna := vM qa
 have hlda := vS qa
 have hlDa := vE qa
 have hlnb := vM qb
 have hldb := vS qb
 have hlDb := vE qb
 refine zM (n := 75) (e := [(0, .agg #[vB (qa.num < 0), vna, vda]), (1, .agg #[vB (qb.num < 0), vnb, vdb])]) (vs := [.agg #[vB (qa.num < 0), vna, vda], .agg #[vB (qb.num < 0), vnb, vdb]]) func53 rfl rfl (bL rfl) hs e2z (zC (zA (zI (wZ (cs := [_, _, _]) rfl rfl) rfl rfl rfl ?_)))
 intro v2 r2 hr2
 obtain ⟨b2, rfl, rfl⟩ := hr2
 refine zI (wZ (cs := [_, _, _]) rfl rfl) rfl rfl rfl ?_
 intro v3 r3 hr3
 obtain ⟨b3, rfl, rfl⟩ := hr3
 refine zI (vV (cs := [vB ((0 : Rat).num < 0), .slice none 0 0, .slice none 0 0]) wT rfl (by simp only [zb]; rfl)) rfl rfl rfl ?_
 intro v4 r4 hr4
 obtain ⟨b4, rfl, rfl⟩ := hr4
 refine zD (zB (zC (zC (zA (gv (zG underlying30 rfl sizeOf28 rfl) rfl (gv (zR mh2 isAgg28 rfl rfl) rfl (gv (zZ underlying28 rfl hna) rfl (gv (xU (q := 0) rfl rfl) rfl (zD (zB ?_))))))))))
 refine zN rfl (fun hc15 => ?_) (fun hc15 => ?_)
 ·
  refine zC (zA (gv (yE (vs := [_, _, _]) mh1 underlying30 rfl zX rfl rfl) rfl (wY (A := []) (r' := .var b4 30 [vB (qb.num < 0), vnb, vdb]) (yA (k := 0) (cs := [_, _, _]) (vs := [_, _, _]) rfl rfl rfl (ocr rfl (ocu hnb (ocu hdb oc0))) zX (bL rfl)) rfl rfl rfl (zD (zB (zQ (zV (xQ (fun E S => yS rfl (wX (cs := [_, _, _]) mh0 underlying30 rfl zX rfl) E S) ?_))))))))
  rw [num_zero hc15, Rat.zero_add]
  exact ⟨_, _, rfl, hnb, hdb⟩
 refine zK (zB (zC (zC (zA (gv (zG underlying30 rfl sizeOf28 rfl) rfl (gv (zR mh1 isAgg28 rfl rfl) rfl (gv (zZ underlying28 rfl hnb) rfl (gv (xU (q := 0) rfl rfl) rfl (zD (zB ?_))))))))))
 refine zN rfl (fun hc20 => ?_) (fun hc20 => ?_)
 ·
  refine wJ (e' := [(2, _), (4, _)]) e2z (zC (zA (gv (yE (vs := [_, _, _]) mh2 underlying30 rfl zX rfl rfl) rfl (wY (A := []) (r' := .var b4 30 [vB (qa.num < 0), vna, vda]) (yA (k := 0) (cs := [_, _, _]) (vs := [_, _, _]) rfl rfl rfl (ocr rfl (ocu hna (ocu hda oc0))) zX (bL rfl)) rfl rfl rfl (zD (zB (zQ (zV (xQ (fun E S => yS rfl (wX (cs := [_, _, _]) mh0 underlying30 rfl zX rfl) E S) ?_)))))))))
  rw [num_zero hc20, Rat.add_zero]
  exact ⟨_, _, rfl, hna, hda⟩
 refine wJ (e' := [(2, _), (3, _), (4, _)]) e3z (zK (zB (zC ?_)))
 refine yF 12 _ [] [(0, .q), (1, .q), (2, .q), (5, .q), (6, .q), (7, .q), (3, .c), (4, .c), (8, .c), (9, .c), (10, .q), (11, .q)] xH nX (by kernel_rfl) nX (fun r hr => hr) (yK rfl (fun _ _ => zG underlying30 rfl sizeOf28 rfl) rfl (w_q rfl (fun h' L' hh hR => zR (hR _ mh2) isAgg28 rfl rfl) rfl (w_q rfl (fun h' L' hh hR => yE (vs := [_, _, _]) (hR _ mh1) underlying30 rfl zX rfl rfl) rfl (yK rfl (fun _ _ => zG underlying30 rfl sizeOf28 rfl) rfl (w_q rfl (fun h' L' hh hR => zR (hR _ mh1) isAgg28 rfl rfl) rfl (w_q rfl (fun h' L' hh hR => yE (vs := [_, _, _]) (hR _ mh2) underlying30 rfl zX rfl rfl) rfl ?_))))))
 refine w_c rfl ?_
 refine zY (vs := [_]) call91 ⟨rfl, trivial⟩ (fun w hs => rref_den hs rfl hnb hdb) rfl ?_
 intro v25 h1 hh1 hr25
 rw [uP] at hr25
 refine w_c rfl ?_
 replace hna := hna.mono hh1
 refine zY (vs := [_, _]) call90 e2z (fun w hs => ref_mul hs hna hr25 (by omega) (by omega)) rfl ?_
 intro v26 h2 hh2 hr26
 try simp only [zU] at hr26
 have hlm26 := xI ((qa.num.natAbs)) ((qb.den))
 refine w_c rfl ?_
 replace hna := hna.mono hh2
 replace hda := hda.mono (hh1.trans hh2)
 refine zY (vs := [_]) call91 ⟨rfl, trivial⟩ (fun w hs => rref_den hs rfl hna hda) rfl ?_
 intro v30 h3 hh3 hr30
 rw [uP] at hr30
 refine w_c rfl ?_
 replace hnb := hnb.mono ((hh1.trans hh2).trans hh3)
 refine zY (vs := [_, _]) call90 e2z (fun w hs => ref_mul hs hnb hr30 (by omega) (by omega)) rfl ?_
 intro v31 h4 hh4 hr31
 try simp only [zU] at hr31
 have hlm31 := xI ((qb.num.natAbs)) ((qa.den))
 refine uG rfl rfl rfl (uG rfl rfl rfl (xB (zJ (e' := [(2, _), (3, _), (4, _), (5, _), (6, _)]) e5z (zB (zC ?_)))))
 refine yF 6 _ [] [(0, .q), (2, .q), (1, .c), (3, .c), (4, .c), (5, .q)] xH nX (by kernel_rfl) nX (fun r hr => hr) (w_q rfl (fun h' L' hh hR => yE (vs := [_, _, _]) (hR _ mh2) underlying30 rfl zX rfl rfl) rfl (w_q rfl (fun h' L' hh hR => yE (vs := [_, _, _]) (hR _ mh1) underlying30 rfl zX rfl rfl) rfl ?_))
 refine w_c rfl ?_
 replace hna := hna.mono (hh3.trans hh4)
 replace hda := hda.mono (hh3.trans hh4)
 refine zY (vs := [_]) call91 ⟨rfl, trivial⟩ (fun w hs => rref_den hs rfl hna hda) rfl ?_
 intro v33 h5 hh5 hr33
 rw [uP] at hr33
 refine w_c rfl ?_
 replace hnb := hnb.mono (hh4.trans hh5)
 replace hdb := hdb.mono ((((hh1.trans hh2).trans hh3).trans hh4).trans hh5)
 refine zY (vs := [_]) call91 ⟨rfl, trivial⟩ (fun w hs => rref_den hs rfl hnb hdb) rfl ?_
 intro v35 h6 hh6 hr35
 rw [uP] at hr35
 refine w_c rfl ?_
 replace hr33 := hr33.mono hh6
 refine zY (vs := [_, _]) call90 e2z (fun w hs => ref_mul hs hr33 hr35 (by omega) (by omega)) rfl ?_
 intro v36 h7 hh7 hr36
 try simp only [zU] at hr36
 have hlm36 := xI ((qa.den)) ((qb.den))
 refine uG rfl rfl rfl (xB (zB (zC (zC (zA (gv (zG underlying30 rfl sizeOf4 rfl) rfl (gv (zR mh2 isAgg4 rfl rfl) rfl (gv (zG underlying30 rfl sizeOf4 rfl) rfl (gv (zR mh1 isAgg4 rfl rfl) rfl (gv (ov_eql_b underlying4 rfl rfl) rfl (zD (zB ?_))))))))))))
 refine zN rfl (fun hc41 => ?_) (fun hc41 => ?_)
 ·
  refine wJ (e' := [(2, _), (4, _), (5, _), (6, _), (7, _)]) e5z (zC ?_)
  refine yF 7 _ [] [(0, .q), (1, .q), (2, .q), (3, .q), (5, .q), (4, .c), (6, .c), (7, .t)] xH nX (by kernel_rfl) nX (fun r hr => hr) (yK rfl (fun _ _ => zG underlying30 rfl sizeOf4 rfl) rfl (w_q rfl (fun h' L' hh hR => zR (hR _ mh2) isAgg4 rfl rfl) rfl (yH rfl rfl rfl (yH rfl rfl rfl (yH rfl rfl rfl ?_)))))
  refine w_c rfl ?_
  replace hr26 := hr26.mono ((((hh3.trans hh4).trans hh5).trans hh6).trans hh7)
  replace hr31 := hr31.mono ((hh5.trans hh6).trans hh7)
  refine zY (vs := [_, _]) call92 e2z (fun w hs => ref_add hs hr26 hr31 (by omega) (by omega)) rfl ?_
  intro v46 h8 hh8 hr46
  have hlm46 := jO ((((qa.num.natAbs)) * ((qb.den)))) ((((qb.num.natAbs)) * ((qa.den))))
  refine w_c rfl ?_
  replace hr36 := hr36.mono hh8
  refine zY (vs := [_, _, _]) call89 e3z (fun w hs => rref_reduce hs hr46 hr36 (by omega) (by omega) (by first | (simp only [zU]; omega) | (simp only [zU]; first | exact Rat.den_nz _ | exact Nat.mul_ne_zero (Rat.den_nz _) (Rat.den_nz _) | exact Nat.one_ne_zero | assumption) | assumption)) rfl ?_
  intro v48 h9 hh9 hr48
  try simp only [zU] at hr48
  obtain ⟨vn48, vd48, rfl, hn48, hd48⟩ := hr48
  refine w_t_upd (A := []) (q' := .var b4 30 [vB ((mkRat (sg (qa.num < 0) (((((((qa.num.natAbs)) * ((qb.den)))) + ((((qb.num.natAbs)) * ((qa.den)))))))) (((((qa.den)) * ((qb.den)))))).num < 0), vn48, vd48]) rfl (yA (k := 0) (cs := [_, _, _]) (vs := [_, _, _]) rfl rfl rfl (ocr rfl (ocu hn48 (ocu hd48 oc0))) zX (bL rfl)) rfl (xB (zJ (e' := [(4, _)]) ⟨rfl, trivial⟩ (zB (zQ (zV (xQ (fun E S => yS rfl (wX (cs := [_, _, _]) mh0 underlying30 rfl zX rfl) E S) ?_))))))
  rw [add_same hc41] at hn48 hd48 ⊢
  exact ⟨_, _, rfl, hn48, hd48⟩
 refine wJ (e' := [(2, _), (3, _), (4, _), (5, _), (6, _), (7, _)]) e6 (zK (zB (zC (zC (zA (mv rfl rfl (mv rfl rfl ?_)))))))
 replace hr26 := hr26.mono ((((hh3.trans hh4).trans hh5).trans hh6).trans hh7)
 replace hr31 := hr31.mono ((hh5.trans hh6).trans hh7)
 refine zO (vs := [_, _]) rfl rfl rfl rfl call93 e2z (fun w hs => ref_cmp hs hr26 hr31) ?_
 intro v51 h8 hh8 hr51
 subst hr51
 refine gv (zW (q := 0) rfl rfl) rfl (zD (zB ?_))
 refine zN rfl (fun hc52 => ?_) (fun hc52 => ?_)
 ·
  refine zC (zA (mv rfl rfl (mv rfl rfl ?_)))
  replace hr26 := hr26.mono hh8
  replace hr31 := hr31.mono hh8
  refine zO (vs := [_, _]) rfl rfl rfl rfl call94 e2z (fun w hs => ref_sub hs hr31 hr26 (by omega)) ?_
  intro v56 h9 hh9 hr56
  obtain ⟨u56, rfl, hu56⟩ := hr56
  have hlm56 := xD (Nat.sub_le ((((qb.num.natAbs)) * ((qa.den)))) ((((qa.num.natAbs)) * ((qb.den)))))
  refine mv rfl rfl (gv (zL (vs := [_, _]) rfl rfl) rfl (gv (zL (vs := [_, _]) rfl rfl) rfl (asg rfl rfl (asg rfl rfl (zD (zJ (e' := [(3, _), (4, _), (7, _), (8, _)]) e4z (zB (zC (zA (gv (zG underlying30 rfl sizeOf4 rfl) rfl (gv (zR mh1 isAgg4 rfl rfl) rfl (mv rfl rfl (mv rfl rfl ?_)))))))))))))
  replace hr36 := hr36.mono (hh8.trans hh9)
  refine zO (vs := [_, _, _]) rfl rfl rfl rfl call89 e3z (fun w hs => rref_reduce hs hu56 hr36 (by omega) (by omega) (by first | (simp only [zU]; omega) | (simp only [zU]; first | exact Rat.den_nz _ | exact Nat.mul_ne_zero (Rat.den_nz _) (Rat.den_nz _) | exact Nat.one_ne_zero | assumption) | assumption)) ?_
  intro v63 h10 hh10 hr63
  try simp only [zU] at hr63
  obtain ⟨vn63, vd63, rfl, hn63, hd63⟩ := hr63
  refine wY (A := []) (r' := .var b4 30 [vB ((mkRat (sg (qb.num < 0) (((((((qb.num.natAbs)) * ((qa.den)))) - ((((qa.num.natAbs)) * ((qb.den)))))))) (((((qa.den)) * ((qb.den)))))).num < 0), vn63, vd63]) (yA (k := 0) (cs := [_, _, _]) (vs := [_, _, _]) rfl rfl rfl (ocr rfl (ocu hn63 (ocu hd63 oc0))) zX (bL rfl)) rfl rfl rfl (zD (zB (zQ (zV (xQ (fun E S => yS rfl (wX (cs := [_, _, _]) mh0 underlying30 rfl zX rfl) E S) ?_)))))
  rw [add_lt hc41 (by have := cmpN_neg.1 hc52; omega)] at hn63 hd63 ⊢
  exact ⟨_, _, rfl, hn63, hd63⟩
 refine zK (zB (zC (zA (mv rfl rfl (mv rfl rfl ?_)))))
 replace hr26 := hr26.mono hh8
 replace hr31 := hr31.mono hh8
 refine zO (vs := [_, _]) rfl rfl rfl rfl call94 e2z (fun w hs => ref_sub hs hr26 hr31 (by omega)) ?_
 intro v67 h9 hh9 hr67
 obtain ⟨u67, rfl, hu67⟩ := hr67
 have hlm67 := xD (Nat.sub_le ((((qa.num.natAbs)) * ((qb.den)))) ((((qb.num.natAbs)) * ((qa.den)))))
 refine mv rfl rfl (gv (zL (vs := [_, _]) rfl rfl) rfl (gv (zL (vs := [_, _]) rfl rfl) rfl (asg rfl rfl (asg rfl rfl (zD (zJ (e' := [(2, _), (4, _), (7, _), (10, _)]) e4z (zB (zC (zA (gv (zG underlying30 rfl sizeOf4 rfl) rfl (gv (zR mh2 isAgg4 rfl rfl) rfl (mv rfl rfl (mv rfl rfl ?_)))))))))))))
 replace hr36 := hr36.mono (hh8.trans hh9)
 refine zO (vs := [_, _, _]) rfl rfl rfl rfl call89 e3z (fun w hs => rref_reduce hs hu67 hr36 (by omega) (by omega) (by first | (simp only [zU]; omega) | (simp only [zU]; first | exact Rat.den_nz _ | exact Nat.mul_ne_zero (Rat.den_nz _) (Rat.den_nz _) | exact Nat.one_ne_zero | assumption) | assumption)) ?_
 intro v74 h10 hh10 hr74
 try simp only [zU] at hr74
 obtain ⟨vn74, vd74, rfl, hn74, hd74⟩ := hr74
 refine wY (A := []) (r' := .var b4 30 [vB ((mkRat (sg (qa.num < 0) (((((((qa.num.natAbs)) * ((qb.den)))) - ((((qb.num.natAbs)) * ((qa.den)))))))) (((((qa.den)) * ((qb.den)))))).num < 0), vn74, vd74]) (yA (k := 0) (cs := [_, _, _]) (vs := [_, _, _]) rfl rfl rfl (ocr rfl (ocu hn74 (ocu hd74 oc0))) zX (bL rfl)) rfl rfl rfl (zD (zB (zQ (xQ (fun E S => yS rfl (wX (cs := [_, _, _]) mh0 underlying30 rfl zX rfl) E S) ?_))))
 rw [add_ge hc41 (Nat.le_of_not_lt (fun h => hc52 (cmpN_neg.2 h)))] at hn74 hd74 ⊢
 exact ⟨_, _, rfl, hn74, hd74⟩
theorem rref_sub {w0 : World} {h0 : Mem}  (hs : MLe h0 (mem w0)) {qa : Rat} {vna vda : Value} (hna : Us .u32 h0 vna (zF qa.num.natAbs)) (hda : Us .u32 h0 vda (zF (vO qa.den))) {qb : Rat} {vnb vdb : Value} (hnb : Us .u32 h0 vnb (zF qb.num.natAbs)) (hdb : Us .u32 h0 vdb (zF (vO qb.den))) (hqa : lq qa ≤ 100000000000) (hqb : lq qb ≤ 100000000000)  :
    Calls Tryz.prog 56 #[.agg #[vB (qa.num < 0), vna, vda], .agg #[vB (qb.num < 0), vnb, vdb]] w0 (Ret w0 h0 (fun h r => vX h r (qa - qb))) := by
 have hlna := vM qa
 have hlda := vS qa
 have hlDa := vE qa
 have hlnb := vM qb
 have hldb := vS qb
 have hlDb := vE qb
 refine zM (n := 9) (e := [(0, .agg #[vB (qa.num < 0), vna, vda]), (1, .agg #[vB (qb.num < 0), vnb, vdb])]) (vs := [.agg #[vB (qa.num < 0), vna, vda], .agg #[vB (qb.num < 0), vnb, vdb]]) func56 rfl rfl (bL rfl) hs e2z (zC (zA (zI (wZ (cs := [_, _, _]) rfl rfl) rfl rfl rfl ?_)))
 intro v2 r2 hr2
 obtain ⟨b2, rfl, rfl⟩ := hr2
 refine zI (wZ (cs := [_, _, _]) rfl rfl) rfl rfl rfl ?_
 intro v3 r3 hr3
 obtain ⟨b3, rfl, rfl⟩ := hr3
 refine zI (vV (cs := [vB ((0 : Rat).num < 0), .slice none 0 0, .slice none 0 0]) wT rfl (by simp only [zb]; rfl)) rfl rfl rfl ?_
 intro v4 r4 hr4
 obtain ⟨b4, rfl, rfl⟩ := hr4
 refine zD (zB (zC ?_))
 refine yF 4 _ [] [(0, .q), (1, .q), (2, .c), (3, .c), (4, .t)] xH nX (by kernel_rfl) nX (fun r hr => hr) (w_q rfl (fun h' L' hh hR => yE (vs := [_, _, _]) (hR _ mh2) underlying30 rfl zX rfl rfl) rfl (w_q rfl (fun h' L' hh hR => yE (vs := [_, _, _]) (hR _ mh1) underlying30 rfl zX rfl rfl) rfl ?_))
 refine w_c rfl ?_
 refine zY (vs := [_]) call95 ⟨rfl, trivial⟩ (fun w hs => rref_neg hs hnb hdb (by omega)) rfl ?_
 intro v7 h1 hh1 hr7
 obtain ⟨vn7, vd7, rfl, hn7, hd7⟩ := hr7
 have hlq7 := lq_neg qb
 refine w_c rfl ?_
 replace hna := hna.mono hh1
 replace hda := hda.mono hh1
 refine zY (vs := [_, _]) call53 e2z (fun w hs => rref_add hs hna hda hn7 hd7 (by omega) (by omega)) rfl ?_
 intro v8 h2 hh2 hr8
 obtain ⟨vn8, vd8, rfl, hn8, hd8⟩ := hr8
 have hlq8 := lq_add qa (-qb)
 refine w_t_upd (A := []) (q' := .var b4 30 [vB ((qa + (-qb)).num < 0), vn8, vd8]) rfl (yA (k := 0) (cs := [_, _, _]) (vs := [_, _, _]) rfl rfl rfl (ocr rfl (ocu hn8 (ocu hd8 oc0))) zX (bL rfl)) rfl (xB (zB (zQ (xQ (fun E S => yS rfl (wX (cs := [_, _, _]) mh0 underlying30 rfl zX rfl) E S) ?_))))
 rw [← Rat.sub_eq_add_neg] at hn8 hd8 ⊢
 exact ⟨_, _, rfl, hn8, hd8⟩
theorem rref_mul {w0 : World} {h0 : Mem}  (hs : MLe h0 (mem w0)) {qa : Rat} {vna vda : Value} (hna : Us .u32 h0 vna (zF qa.num.natAbs)) (hda : Us .u32 h0 vda (zF (vO qa.den))) {qb : Rat} {vnb vdb : Value} (hnb : Us .u32 h0 vnb (zF qb.num.natAbs)) (hdb : Us .u32 h0 vdb (zF (vO qb.den))) (hqa : lq qa ≤ 100000000000) (hqb : lq qb ≤ 100000000000)  :
    Calls Tryz.prog 54 #[.agg #[vB (qa.num < 0), vna, vda], .agg #[vB (qb.num < 0), vnb, vdb]] w0 (Ret w0 h0 (fun h r => vX h r (qa * qb))) := by
 have hlna := vM qa
 have hlda := vS qa
 have hlDa := vE qa
 have hlnb := vM qb
 have hldb := vS qb
 have hlDb := vE qb
 refine zM (n := 21) (e := [(0, .agg #[vB (qa.num < 0), vna, vda]), (1, .agg #[vB (qb.num < 0), vnb, vdb])]) (vs := [.agg #[vB (qa.num < 0), vna, vda], .agg #[vB (qb.num < 0), vnb, vdb]]) func54 rfl rfl (bL rfl) hs e2z (zC (zA (zI (wZ (cs := [_, _, _]) rfl rfl) rfl rfl rfl ?_)))
 intro v2 r2 hr2
 obtain ⟨b2, rfl, rfl⟩ := hr2
 refine zI (wZ (cs := [_, _, _]) rfl rfl) rfl rfl rfl ?_
 intro v3 r3 hr3
 obtain ⟨b3, rfl, rfl⟩ := hr3
 refine zI (vV (cs := [vB ((0 : Rat).num < 0), .slice none 0 0, .slice none 0 0]) wT rfl (by simp only [zb]; rfl)) rfl rfl rfl ?_
 intro v4 r4 hr4
 obtain ⟨b4, rfl, rfl⟩ := hr4
 refine zD (zB (zC ?_))
 refine yF 16 _ [] [(0, .q), (1, .q), (2, .q), (3, .q), (4, .q), (5, .q), (6, .q), (7, .q), (8, .q), (10, .q), (12, .q), (9, .c), (11, .c), (13, .c), (14, .c), (15, .c), (16, .t)] xH nX (by kernel_rfl) nX (fun r hr => hr) (yK rfl (fun _ _ => zG underlying30 rfl sizeOf4 rfl) rfl (w_q rfl (fun h' L' hh hR => zR (hR _ mh2) isAgg4 rfl rfl) rfl (yK rfl (fun _ _ => zG underlying30 rfl sizeOf4 rfl) rfl (w_q rfl (fun h' L' hh hR => zR (hR _ mh1) isAgg4 rfl rfl) rfl (yK rfl (fun _ _ => ov_neq_b underlying4 rfl rfl) rfl (yK rfl (fun _ _ => zG underlying30 rfl sizeOf28 rfl) rfl (w_q rfl (fun h' L' hh hR => zR (hR _ mh2) isAgg28 rfl rfl) rfl (yK rfl (fun _ _ => zG underlying30 rfl sizeOf28 rfl) rfl (w_q rfl (fun h' L' hh hR => zR (hR _ mh1) isAgg28 rfl rfl) rfl (w_q rfl (fun h' L' hh hR => yE (vs := [_, _, _]) (hR _ mh2) underlying30 rfl zX rfl rfl) rfl (w_q rfl (fun h' L' hh hR => yE (vs := [_, _, _]) (hR _ mh1) underlying30 rfl zX rfl rfl) rfl ?_)))))))))))
 refine w_c rfl ?_
 refine zY (vs := [_, _]) call90 e2z (fun w hs => ref_mul hs hna hnb (by omega) (by omega)) rfl ?_
 intro v14 h1 hh1 hr14
 try simp only [zU] at hr14
 have hlm14 := xI ((qa.num.natAbs)) ((qb.num.natAbs))
 refine w_c rfl ?_
 replace hna := hna.mono hh1
 replace hda := hda.mono hh1
 refine zY (vs := [_]) call91 ⟨rfl, trivial⟩ (fun w hs => rref_den hs rfl hna hda) rfl ?_
 intro v16 h2 hh2 hr16
 rw [uP] at hr16
 refine w_c rfl ?_
 replace hnb := hnb.mono (hh1.trans hh2)
 replace hdb := hdb.mono (hh1.trans hh2)
 refine zY (vs := [_]) call91 ⟨rfl, trivial⟩ (fun w hs => rref_den hs rfl hnb hdb) rfl ?_
 intro v18 h3 hh3 hr18
 rw [uP] at hr18
 refine w_c rfl ?_
 replace hr16 := hr16.mono hh3
 refine zY (vs := [_, _]) call90 e2z (fun w hs => ref_mul hs hr16 hr18 (by omega) (by omega)) rfl ?_
 intro v19 h4 hh4 hr19
 try simp only [zU] at hr19
 have hlm19 := xI ((qa.den)) ((qb.den))
 refine w_c rfl ?_
 replace hr14 := hr14.mono ((hh2.trans hh3).trans hh4)
 refine zY (vs := [_, _, _]) call89 e3z (fun w hs => rref_reduce hs hr14 hr19 (by omega) (by omega) (by first | (simp only [zU]; omega) | (simp only [zU]; first | exact Rat.den_nz _ | exact Nat.mul_ne_zero (Rat.den_nz _) (Rat.den_nz _) | exact Nat.one_ne_zero | assumption) | assumption)) rfl ?_
 intro v20 h5 hh5 hr20
 try simp only [zU] at hr20
 obtain ⟨vn20, vd20, rfl, hn20, hd20⟩ := hr20
 refine w_t_upd (A := []) (q' := .var b4 30 [vB ((mkRat (sg (¬ ((qa.num < 0) ↔ (qb.num < 0))) (((((qa.num.natAbs)) * ((qb.num.natAbs)))))) (((((qa.den)) * ((qb.den)))))).num < 0), vn20, vd20]) rfl (yA (k := 0) (cs := [_, _, _]) (vs := [_, _, _]) rfl rfl rfl (ocr rfl (ocu hn20 (ocu hd20 oc0))) zX (bL rfl)) rfl (xB (zJ (e' := [(4, _)]) ⟨rfl, trivial⟩ (zB (zQ (xQ (fun E S => yS rfl (wX (cs := [_, _, _]) mh0 underlying30 rfl zX rfl) E S) ?_)))))
 rw [mul_eq] at hn20 hd20 ⊢
 exact ⟨_, _, rfl, hn20, hd20⟩
theorem rref_quo {w0 : World} {h0 : Mem}  (hs : MLe h0 (mem w0)) {qa : Rat} {vna vda : Value} (hna : Us .u32 h0 vna (zF qa.num.natAbs)) (hda : Us .u32 h0 vda (zF (vO qa.den))) {qb : Rat} {vnb vdb : Value} (hnb : Us .u32 h0 vnb (zF qb.num.natAbs)) (hdb : Us .u32 h0 vdb (zF (vO qb.den))) (hqa : lq qa ≤ 100000000000) (hqb : lq qb ≤ 100000000000)  :
    Calls Tryz.prog 88 #[.agg #[vB (qa.num < 0), vna, vda], .agg #[vB (qb.num < 0), vnb, vdb]] w0 (Ret w0 h0 (fun h r => ∃ u, r = .tuple #[u, vI (if qb = 0 then 3 else 0)] ∧ vX h u (if qb = 0 then 0 else qa / qb))) := by
 have hlna := vM qa
 have hlda := vS qa
 have hlDa := vE qa
 have hlnb := vM qb
 have hldb := vS qb
 have hlDb := vE qb
 refine zM (n := 27) (e := [(0, .agg #[vB (qa.num < 0), vna, vda]), (1, .agg #[vB (qb.num < 0), vnb, vdb])]) (vs := [.agg #[vB (qa.num < 0), vna, vda], .agg #[vB (qb.num < 0), vnb, vdb]]) func88 rfl rfl (bL rfl) hs e2z (zC (zA (zI (wZ (cs := [_, _, _]) rfl rfl) rfl rfl rfl ?_)))
 intro v2 r2 hr2
 obtain ⟨b2, rfl, rfl⟩ := hr2
 refine zI (wZ (cs := [_, _, _]) rfl rfl) rfl rfl rfl ?_
 intro v3 r3 hr3
 obtain ⟨b3, rfl, rfl⟩ := hr3
 refine zI (vV (cs := [vB ((0 : Rat).num < 0), .slice none 0 0, .slice none 0 0]) wT rfl (by simp only [zb]; rfl)) rfl rfl rfl ?_
 intro v4 r4 hr4
 obtain ⟨b4, rfl, rfl⟩ := hr4
 refine asg (v := vI (0)) rfl rfl (zD (zB (zC (zC (zA (gv (zG underlying30 rfl sizeOf28 rfl) rfl (gv (zR mh1 isAgg28 rfl rfl) rfl (gv (zZ underlying28 rfl hnb) rfl (gv (xU (q := 0) rfl rfl) rfl (zD (zB ?_)))))))))))
 refine zN rfl (fun hc9 => ?_) (fun hc9 => ?_)
 ·
  refine zC (zA (gv (wK (ps' := []) (vs := [vB ((0 : Rat).num < 0), .slice none 0 0, .slice none 0 0]) underlying30 wT rfl (qK underlying30) trivial (by simp only [zb]; exact qI)) rfl (wY (A := []) (r' := .var b4 30 [vB ((0 : Rat).num < 0), .slice none 0 0, .slice none 0 0]) (yA (k := 0) (cs := [_, _, _]) (vs := [_, _, _]) rfl rfl rfl rfl zX (bL rfl)) rfl rfl rfl (asg (v := vI (3)) rfl rfl (zD (zB (zQ (zV (xQ (fun E S => run_res2 rfl (wX (cs := [_, _, _]) mh0 underlying30 rfl zX rfl) (rv_tmp rfl) E S) ?_)))))))))
  rw [if_pos (num_zero hc9), if_pos (num_zero hc9)]
  exact ⟨_, rfl, vX.zero _⟩
 have hb0 := num_pos_of hc9
 have hbn := num_ne.2 hb0
 have hd0 : qa.den * qb.num.natAbs ≠ 0 := Nat.mul_ne_zero qa.den_nz hbn
 refine zK (zB (zC ?_))
 refine yF 16 _ [] [(0, .q), (1, .q), (2, .q), (3, .q), (4, .q), (5, .q), (6, .q), (7, .q), (10, .q), (12, .q), (13, .q), (8, .c), (9, .c), (11, .c), (14, .c), (15, .c), (16, .t), (17, .t)] xH nX (by kernel_rfl) nX (fun r hr => hr) (yK rfl (fun _ _ => zG underlying30 rfl sizeOf4 rfl) rfl (w_q rfl (fun h' L' hh hR => zR (hR _ mh2) isAgg4 rfl rfl) rfl (yK rfl (fun _ _ => zG underlying30 rfl sizeOf4 rfl) rfl (w_q rfl (fun h' L' hh hR => zR (hR _ mh1) isAgg4 rfl rfl) rfl (yK rfl (fun _ _ => ov_neq_b underlying4 rfl rfl) rfl (yK rfl (fun _ _ => zG underlying30 rfl sizeOf28 rfl) rfl (w_q rfl (fun h' L' hh hR => zR (hR _ mh2) isAgg28 rfl rfl) rfl (w_q rfl (fun h' L' hh hR => yE (vs := [_, _, _]) (hR _ mh1) underlying30 rfl zX rfl rfl) rfl (w_q rfl (fun h' L' hh hR => yE (vs := [_, _, _]) (hR _ mh2) underlying30 rfl zX rfl rfl) rfl (yK rfl (fun _ _ => zG underlying30 rfl sizeOf28 rfl) rfl (w_q rfl (fun h' L' hh hR => zR (hR _ mh1) isAgg28 rfl rfl) rfl ?_)))))))))))
 refine w_c rfl ?_
 refine zY (vs := [_]) call91 ⟨rfl, trivial⟩ (fun w hs => rref_den hs rfl hnb hdb) rfl ?_
 intro v19 h1 hh1 hr19
 rw [uP] at hr19
 refine w_c rfl ?_
 replace hna := hna.mono hh1
 refine zY (vs := [_, _]) call90 e2z (fun w hs => ref_mul hs hna hr19 (by omega) (by omega)) rfl ?_
 intro v20 h2 hh2 hr20
 try simp only [zU] at hr20
 have hlm20 := xI ((qa.num.natAbs)) ((qb.den))
 refine w_c rfl ?_
 replace hna := hna.mono hh2
 replace hda := hda.mono (hh1.trans hh2)
 refine zY (vs := [_]) call91 ⟨rfl, trivial⟩ (fun w hs => rref_den hs rfl hna hda) rfl ?_
 intro v22 h3 hh3 hr22
 rw [uP] at hr22
 refine w_c rfl ?_
 replace hnb := hnb.mono ((hh1.trans hh2).trans hh3)
 refine zY (vs := [_, _]) call90 e2z (fun w hs => ref_mul hs hr22 hnb (by omega) (by omega)) rfl ?_
 intro v25 h4 hh4 hr25
 try simp only [zU] at hr25
 have hlm25 := xI ((qa.den)) ((qb.num.natAbs))
 refine w_c rfl ?_
 replace hr20 := hr20.mono (hh3.trans hh4)
 refine zY (vs := [_, _, _]) call89 e3z (fun w hs => rref_reduce hs hr20 hr25 (by omega) (by omega) (by first | (simp only [zU]; omega) | (simp only [zU]; first | exact Rat.den_nz _ | exact Nat.mul_ne_zero (Rat.den_nz _) (Rat.den_nz _) | exact Nat.one_ne_zero | assumption) | assumption)) rfl ?_
 intro v26 h5 hh5 hr26
 try simp only [zU] at hr26
 obtain ⟨vn26, vd26, rfl, hn26, hd26⟩ := hr26
 refine w_t_upd (A := []) (q' := .var b4 30 [vB ((mkRat (sg (¬ ((qa.num < 0) ↔ (qb.num < 0))) (((((qa.num.natAbs)) * ((qb.den)))))) (((((qa.den)) * ((qb.num.natAbs)))))).num < 0), vn26, vd26]) rfl (yA (k := 0) (cs := [_, _, _]) (vs := [_, _, _]) rfl rfl rfl (ocr rfl (ocu hn26 (ocu hd26 oc0))) zX (bL rfl)) rfl (w_t_val rfl (ov_assign (v := vI (0)) rfl) rfl (xB (zJ (e' := [(4, _), (5, _)]) e2z (zB (zQ (xQ (fun E S => run_res2 rfl (wX (cs := [_, _, _]) mh0 underlying30 rfl zX rfl) (rv_tmp rfl) E S) ?_))))))
 rw [if_neg hb0, if_neg hb0]
 rw [quo_eq _ hb0] at hn26 hd26 ⊢
 exact ⟨_, rfl, _, _, rfl, hn26, hd26⟩
theorem rref_cmp {w0 : World} {h0 : Mem}  (hs : MLe h0 (mem w0)) {qa : Rat} {vna vda : Value} (hna : Us .u32 h0 vna (zF qa.num.natAbs)) (hda : Us .u32 h0 vda (zF (vO qa.den))) {qb : Rat} {vnb vdb : Value} (hnb : Us .u32 h0 vnb (zF qb.num.natAbs)) (hdb : Us .u32 h0 vdb (zF (vO qb.den))) (hqa : lq qa ≤ 100000000000) (hqb : lq qb ≤ 100000000000)  :
    Calls Tryz.prog 113 #[.agg #[vB (qa.num < 0), vna, vda], .agg #[vB (qb.num < 0), vnb, vdb]] w0 (Ret w0 h0 (fun _ r => r = vI (kO qa qb))) := by
 have hlna := vM qa
 have hlda := vS qa
 have hlDa := vE qa
 have hlnb := vM qb
 have hldb := vS qb
 have hlDb := vE qb
 have hcr : -1 ≤ cmpN (qa.num.natAbs * qb.den) (qb.num.natAbs * qa.den) ∧ cmpN (qa.num.natAbs * qb.den) (qb.num.natAbs * qa.den) ≤ 1 := cN_range qa qb
 refine zM (n := 34) (e := [(0, .agg #[vB (qa.num < 0), vna, vda]), (1, .agg #[vB (qb.num < 0), vnb, vdb])]) (vs := [.agg #[vB (qa.num < 0), vna, vda], .agg #[vB (qb.num < 0), vnb, vdb]]) func113 rfl rfl (bL rfl) hs e2z (zC (zA (zI (wZ (cs := [_, _, _]) rfl rfl) rfl rfl rfl ?_)))
 intro v2 r2 hr2
 obtain ⟨b2, rfl, rfl⟩ := hr2
 refine zI (wZ (cs := [_, _, _]) rfl rfl) rfl rfl rfl ?_
 intro v3 r3 hr3
 obtain ⟨b3, rfl, rfl⟩ := hr3
 refine asg (v := vI (0)) rfl rfl (zD (zB (zC (zC ?_))))
 refine yF 6 _ [] [(0, .q), (2, .q), (1, .c), (3, .c), (4, .q), (5, .q)] xH nX (by kernel_rfl) nX (fun r hr => hr) (w_q rfl (fun h' L' hh hR => yE (vs := [_, _, _]) (hR _ mh1) underlying30 rfl zX rfl rfl) rfl (w_q rfl (fun h' L' hh hR => yE (vs := [_, _, _]) (hR _ mh0) underlying30 rfl zX rfl rfl) rfl ?_))
 refine w_c rfl ?_
 refine zY (vs := [_]) call50 ⟨rfl, trivial⟩ (fun w hs => rref_sign hs hna hda (by omega)) rfl ?_
 intro v9 h1 hh1 hr9
 have hsr9 := uE qa
 subst hr9
 refine w_c rfl ?_
 replace hnb := hnb.mono hh1
 replace hdb := hdb.mono hh1
 refine zY (vs := [_]) call50 ⟨rfl, trivial⟩ (fun w hs => rref_sign hs hnb hdb (by omega)) rfl ?_
 intro v11 h2 hh2 hr11
 have hsr11 := uE qb
 subst hr11
 refine uG rfl rfl rfl (uG rfl rfl rfl (xB (zB (zC (zA (mv rfl rfl (mv rfl rfl (gv (ov_neq_i rfl rfl) rfl (zD (zB ?_))))))))))
 refine zN rfl (fun hc14 => ?_) (fun hc14 => ?_)
 ·
  refine wJ (e' := [(5, _), (6, _)]) e2z (zC (zC (zA (mv rfl rfl (mv rfl rfl (gv (zW rfl rfl) rfl (zD (zB ?_))))))))
  refine zN rfl (fun hc17 => ?_) (fun hc17 => ?_)
  ·
   refine zC (zA (asg (v := vI (-1)) rfl rfl (zD (zB (zQ (zV (zV (yC rfl rfl ?_))))))))
   rw [cmpQ_sgn hc14, if_pos hc17]
  refine zK (zB (zC (zA (asg (v := vI (1)) rfl rfl (zD (zB (zQ (zV (yC rfl rfl ?_)))))))))
  rw [cmpQ_sgn hc14, if_neg hc17]
 have hss := sgn_same hc14
 refine wJ (e' := [(2, _), (3, _)]) e2z (zK (zB (zC ?_)))
 refine yF 12 _ [] [(0, .q), (1, .q), (2, .q), (5, .q), (6, .q), (7, .q), (3, .c), (4, .c), (8, .c), (9, .c), (10, .c), (11, .q)] xH nX (by kernel_rfl) nX (fun r hr => hr) (yK rfl (fun _ _ => zG underlying30 rfl sizeOf28 rfl) rfl (w_q rfl (fun h' L' hh hR => zR (hR _ mh1) isAgg28 rfl rfl) rfl (w_q rfl (fun h' L' hh hR => yE (vs := [_, _, _]) (hR _ mh0) underlying30 rfl zX rfl rfl) rfl (yK rfl (fun _ _ => zG underlying30 rfl sizeOf28 rfl) rfl (w_q rfl (fun h' L' hh hR => zR (hR _ mh0) isAgg28 rfl rfl) rfl (w_q rfl (fun h' L' hh hR => yE (vs := [_, _, _]) (hR _ mh1) underlying30 rfl zX rfl rfl) rfl ?_))))))
 refine w_c rfl ?_
 replace hnb := hnb.mono hh2
 replace hdb := hdb.mono hh2
 refine zY (vs := [_]) call91 ⟨rfl, trivial⟩ (fun w hs => rref_den hs rfl hnb hdb) rfl ?_
 intro v21 h3 hh3 hr21
 rw [uP] at hr21
 refine w_c rfl ?_
 replace hna := hna.mono ((hh1.trans hh2).trans hh3)
 refine zY (vs := [_, _]) call90 e2z (fun w hs => ref_mul hs hna hr21 (by omega) (by omega)) rfl ?_
 intro v22 h4 hh4 hr22
 try simp only [zU] at hr22
 have hlm22 := xI ((qa.num.natAbs)) ((qb.den))
 refine w_c rfl ?_
 replace hna := hna.mono hh4
 replace hda := hda.mono (((hh1.trans hh2).trans hh3).trans hh4)
 refine zY (vs := [_]) call91 ⟨rfl, trivial⟩ (fun w hs => rref_den hs rfl hna hda) rfl ?_
 intro v26 h5 hh5 hr26
 rw [uP] at hr26
 refine w_c rfl ?_
 replace hnb := hnb.mono ((hh3.trans hh4).trans hh5)
 refine zY (vs := [_, _]) call90 e2z (fun w hs => ref_mul hs hnb hr26 (by omega) (by omega)) rfl ?_
 intro v27 h6 hh6 hr27
 try simp only [zU] at hr27
 have hlm27 := xI ((qb.num.natAbs)) ((qa.den))
 refine w_c rfl ?_
 replace hr22 := hr22.mono (hh5.trans hh6)
 refine zY (vs := [_, _]) call93 e2z (fun w hs => ref_cmp hs hr22 hr27) rfl ?_
 intro v28 h7 hh7 hr28
 subst hr28
 refine uG rfl rfl rfl (xB (zJ (e' := [(2, _), (7, _)]) e2z (zB (zC (zC (zA (gv (zG underlying30 rfl sizeOf4 rfl) rfl (gv (zR mh1 isAgg4 rfl rfl) rfl (zD (zB ?_))))))))))
 refine zN rfl (fun hc30 => ?_) (fun hc30 => ?_)
 ·
  refine zC (zA (mv rfl rfl (gv (ov_neg_i rfl (by omega) (by omega)) rfl (asg rfl rfl (zD (zB (zQ (zV (yC rfl rfl ?_)))))))))
  rw [cmpQ_cN hss hc30]; rfl
 refine zK (zB (zC (zA (mv rfl rfl (asg rfl rfl (zD (zB (zQ (yC rfl rfl ?_)))))))))
 rw [cmpQ_cN' hss hc30]; rfl
theorem rref_min {w0 : World} {h0 : Mem}  (hs : MLe h0 (mem w0)) {qa : Rat} {vna vda : Value} (hna : Us .u32 h0 vna (zF qa.num.natAbs)) (hda : Us .u32 h0 vda (zF (vO qa.den))) {qb : Rat} {vnb vdb : Value} (hnb : Us .u32 h0 vnb (zF qb.num.natAbs)) (hdb : Us .u32 h0 vdb (zF (vO qb.den))) (hqa : lq qa ≤ 100000000000) (hqb : lq qb ≤ 100000000000)  :
    Calls Tryz.prog 74 #[.agg #[vB (qa.num < 0), vna, vda], .agg #[vB (qb.num < 0), vnb, vdb]] w0 (Ret w0 h0 (fun h r => vX h r (kM qa qb))) := by
 have hlna := vM qa
 have hlda := vS qa
 have hlDa := vE qa
 have hlnb := vM qb
 have hldb := vS qb
 have hlDb := vE qb
 refine zM (n := 11) (e := [(0, .agg #[vB (qa.num < 0), vna, vda]), (1, .agg #[vB (qb.num < 0), vnb, vdb])]) (vs := [.agg #[vB (qa.num < 0), vna, vda], .agg #[vB (qb.num < 0), vnb, vdb]]) func74 rfl rfl (bL rfl) hs e2z (zC (zA (zI (wZ (cs := [_, _, _]) rfl rfl) rfl rfl rfl ?_)))
 intro v2 r2 hr2
 obtain ⟨b2, rfl, rfl⟩ := hr2
 refine zI (wZ (cs := [_, _, _]) rfl rfl) rfl rfl rfl ?_
 intro v3 r3 hr3
 obtain ⟨b3, rfl, rfl⟩ := hr3
 refine zI (vV (cs := [vB ((0 : Rat).num < 0), .slice none 0 0, .slice none 0 0]) wT rfl (by simp only [zb]; rfl)) rfl rfl rfl ?_
 intro v4 r4 hr4
 obtain ⟨b4, rfl, rfl⟩ := hr4
 refine zD (zB (zC (zC (zA (gv (yE (vs := [_, _, _]) mh1 underlying30 rfl zX rfl rfl) rfl (gv (yE (vs := [_, _, _]) mh2 underlying30 rfl zX rfl rfl) rfl ?_))))))
 refine zO (vs := [_, _]) rfl rfl rfl rfl call113 e2z (fun w hs => rref_cmp hs hnb hdb hna hda (by omega) (by omega)) ?_
 intro v7 h1 hh1 hr7
 have hcr7 := cmpQ_range qb qa
 subst hr7
 refine gv (zW (q := 0) rfl rfl) rfl (zD (zB ?_))
 refine zN rfl (fun hc8 => ?_) (fun hc8 => ?_)
 ·
  refine zC (zA (gv (yE (vs := [_, _, _]) mh1 underlying30 rfl zX rfl rfl) rfl ?_))
  replace hnb := hnb.mono hh1
  replace hdb := hdb.mono hh1
  refine wY (A := []) (r' := .var b4 30 [vB (qb.num < 0), vnb, vdb]) (yA (k := 0) (cs := [_, _, _]) (vs := [_, _, _]) rfl rfl rfl (ocr rfl (ocu hnb (ocu hdb oc0))) zX (bL rfl)) rfl rfl rfl (zD (zB (zQ (zV (xQ (fun E S => yS rfl (wX (cs := [_, _, _]) mh0 underlying30 rfl zX rfl) E S) ?_)))))
  rw [minQ_t hc8]
  exact ⟨_, _, rfl, hnb, hdb⟩
 refine zK (zB (zC (zA (gv (yE (vs := [_, _, _]) mh2 underlying30 rfl zX rfl rfl) rfl ?_))))
 replace hna := hna.mono hh1
 replace hda := hda.mono hh1
 refine wY (A := []) (r' := .var b4 30 [vB (qa.num < 0), vna, vda]) (yA (k := 0) (cs := [_, _, _]) (vs := [_, _, _]) rfl rfl rfl (ocr rfl (ocu hna (ocu hda oc0))) zX (bL rfl)) rfl rfl rfl (zD (zB (zQ (xQ (fun E S => yS rfl (wX (cs := [_, _, _]) mh0 underlying30 rfl zX rfl) E S) ?_))))
 rw [minQ_f hc8]
 exact ⟨_, _, rfl, hna, hda⟩
theorem rref_max {w0 : World} {h0 : Mem}  (hs : MLe h0 (mem w0)) {qa : Rat} {vna vda : Value} (hna : Us .u32 h0 vna (zF qa.num.natAbs)) (hda : Us .u32 h0 vda (zF (vO qa.den))) {qb : Rat} {vnb vdb : Value} (hnb : Us .u32 h0 vnb (zF qb.num.natAbs)) (hdb : Us .u32 h0 vdb (zF (vO qb.den))) (hqa : lq qa ≤ 100000000000) (hqb : lq qb ≤ 100000000000)  :
    Calls Tryz.prog 75 #[.agg #[vB (qa.num < 0), vna, vda], .agg #[vB (qb.num < 0), vnb, vdb]] w0 (Ret w0 h0 (fun h r => vX h r (kL qa qb))) := by
 have hlna := vM qa
 have hlda := vS qa
 have hlDa := vE qa
 have hlnb := vM qb
 have hldb := vS qb
 have hlDb := vE qb
 refine zM (n := 11) (e := [(0, .agg #[vB (qa.num < 0), vna, vda]), (1, .agg #[vB (qb.num < 0), vnb, vdb])]) (vs := [.agg #[vB (qa.num < 0), vna, vda], .agg #[vB (qb.num < 0), vnb, vdb]]) func75 rfl rfl (bL rfl) hs e2z (zC (zA (zI (wZ (cs := [_, _, _]) rfl rfl) rfl rfl rfl ?_)))
 intro v2 r2 hr2
 obtain ⟨b2, rfl, rfl⟩ := hr2
 refine zI (wZ (cs := [_, _, _]) rfl rfl) rfl rfl rfl ?_
 intro v3 r3 hr3
 obtain ⟨b3, rfl, rfl⟩ := hr3
 refine zI (vV (cs := [vB ((0 : Rat).num < 0), .slice none 0 0, .slice none 0 0]) wT rfl (by simp only [zb]; rfl)) rfl rfl rfl ?_
 intro v4 r4 hr4
 obtain ⟨b4, rfl, rfl⟩ := hr4
 refine zD (zB (zC (zC (zA (gv (yE (vs := [_, _, _]) mh1 underlying30 rfl zX rfl rfl) rfl (gv (yE (vs := [_, _, _]) mh2 underlying30 rfl zX rfl rfl) rfl ?_))))))
 refine zO (vs := [_, _]) rfl rfl rfl rfl call113 e2z (fun w hs => rref_cmp hs hnb hdb hna hda (by omega) (by omega)) ?_
 intro v7 h1 hh1 hr7
 have hcr7 := cmpQ_range qb qa
 subst hr7
 refine gv (uH (q := 0) rfl rfl) rfl (zD (zB ?_))
 refine zN rfl (fun hc8 => ?_) (fun hc8 => ?_)
 ·
  refine zC (zA (gv (yE (vs := [_, _, _]) mh1 underlying30 rfl zX rfl rfl) rfl ?_))
  replace hnb := hnb.mono hh1
  replace hdb := hdb.mono hh1
  refine wY (A := []) (r' := .var b4 30 [vB (qb.num < 0), vnb, vdb]) (yA (k := 0) (cs := [_, _, _]) (vs := [_, _, _]) rfl rfl rfl (ocr rfl (ocu hnb (ocu hdb oc0))) zX (bL rfl)) rfl rfl rfl (zD (zB (zQ (zV (xQ (fun E S => yS rfl (wX (cs := [_, _, _]) mh0 underlying30 rfl zX rfl) E S) ?_)))))
  rw [maxQ_t hc8]
  exact ⟨_, _, rfl, hnb, hdb⟩
 refine zK (zB (zC (zA (gv (yE (vs := [_, _, _]) mh2 underlying30 rfl zX rfl rfl) rfl ?_))))
 replace hna := hna.mono hh1
 replace hda := hda.mono hh1
 refine wY (A := []) (r' := .var b4 30 [vB (qa.num < 0), vna, vda]) (yA (k := 0) (cs := [_, _, _]) (vs := [_, _, _]) rfl rfl rfl (ocr rfl (ocu hna (ocu hda oc0))) zX (bL rfl)) rfl rfl rfl (zD (zB (zQ (xQ (fun E S => yS rfl (wX (cs := [_, _, _]) mh0 underlying30 rfl zX rfl) E S) ?_))))
 rw [maxQ_f hc8]
 exact ⟨_, _, rfl, hna, hda⟩
end Go.Proofs.YtghhjjmjpeehdaaGreat
namespace Bk
set_option linter.unusedVariables false
set_option linter.unusedSimpArgs false
open Go Go.RowKit
theorem int_of_wf {x : Int} (h : (Lit.int .i64 x).wf = true) : -9223372036854775808 ≤ x ∧ x < 9223372036854775808 := by
  simp only [Lit.wf, Bool.and_eq_true, decide_eq_true_eq] at h
  simp [IntKind.min, IntKind.max, IntKind.signed, IntKind.bits] at h
  omega
end Bk
namespace Bk
set_option linter.unusedVariables false
set_option linter.unusedSimpArgs false
open Go Go.RowKit
def ByB (bs : List Nat) : Prop := ∀ x ∈ bs, x < 256
section
variable {P : Program} {n : Nat} {w0 : World} {h0 : Mem} {e : List (Nat × Value)} {L : List Res} {h : Mem}
variable {ds : Option Tmp} {ty : TypeId} {ps : String} {af : Array Edge} {gd : Option (Nat × Bool)}
end
end Bk
namespace Bk
set_option linter.unusedVariables false
set_option linter.unusedSimpArgs false
open Go Go.RowKit
open Classical
noncomputable def txtQ (q : Rat) : List Nat := (if q.num < 0 then [45] else []) ++ txt q.num.natAbs ++ (if vO q.den = 0 then [] else [47] ++ txt (vO q.den))
def digs : List Nat → Nat
  | [] => 0
  | b :: bs => if 48 ≤ b ∧ b ≤ 57 then digs bs + 1 else 0
noncomputable def exU (s : List Nat) : List Nat := if s.drop 1 ≠ [] ∧ ((s.drop 1).getD 0 0 = 43 ∨ (s.drop 1).getD 0 0 = 45) then (s.drop 1).drop 1 else s.drop 1
def exDown (s : List Nat) : Prop := s.drop 1 ≠ [] ∧ (s.drop 1).getD 0 0 = 45
def exOk (s : List Nat) : Prop := (s.getD 0 0 = 101 ∨ s.getD 0 0 = 69) ∧ exU s ≠ [] ∧ (exU s).length ≤ 3 ∧ digs (exU s) = (exU s).length
noncomputable def exN (s : List Nat) : Nat := if exOk s then hor (exU s) else 0
noncomputable def fin4 (s : Prop) (n d : Nat) : Int × Rat := if (2048 : Int) < bitsQ (mkRat (sg s n) d) then (2, 0) else (0, mkRat (sg s n) d)
noncomputable def fin3 (s : Prop) (n d : Nat) (r : List Nat) : Int × Rat :=
  if r = [] then fin4 s n d else if exOk r then (if exDown r then fin4 s n (d * 10 ^ exN r) else fin4 s (n * 10 ^ exN r) d) else (4, 0)
def slash (r : List Nat) : Prop := r ≠ [] ∧ r.getD 0 0 = 47
def dot (r : List Nat) : Prop := r ≠ [] ∧ r.getD 0 0 = 46
noncomputable def fin2 (s : Prop) (bs : List Nat) : Int × Rat :=
  if digs bs = 0 then (4, 0) else
  if slash (bs.drop (digs bs)) then
    (if (bs.drop (digs bs)).drop 1 = [] ∨ digs ((bs.drop (digs bs)).drop 1) ≠ ((bs.drop (digs bs)).drop 1).length then (4, 0) else if hor ((bs.drop (digs bs)).drop 1) = 0 then (3, 0) else fin3 s (hor (bs.take (digs bs))) (hor ((bs.drop (digs bs)).drop 1)) [])
  else if dot (bs.drop (digs bs)) then
    (if digs ((bs.drop (digs bs)).drop 1) = 0 then (4, 0) else fin3 s (hor (bs.take (digs bs) ++ ((bs.drop (digs bs)).drop 1).take (digs ((bs.drop (digs bs)).drop 1)))) (10 ^ digs ((bs.drop (digs bs)).drop 1)) ((bs.drop (digs bs)).drop (digs ((bs.drop (digs bs)).drop 1) + 1)))
  else fin3 s (hor (bs.take (digs bs))) 1 (bs.drop (digs bs))
def parNeg (bs : List Nat) : Prop := (0 : Int) < ↑bs.length ∧ bs.getD 0 0 = 45
noncomputable def parBody (bs : List Nat) : List Nat := if parNeg bs then bs.drop 1 else bs
noncomputable def parQ (bs : List Nat) : Int × Rat := if 4096 < bs.length then (2, 0) else fin2 (parNeg bs) (parBody bs)
end Bk
namespace Go.Proofs.YtghhjjmjpeehdaaGreat
open Bk Go Tryz
set_option linter.unusedVariables false
set_option linter.unusedSimpArgs false
set_option maxRecDepth 10000
end Go.Proofs.YtghhjjmjpeehdaaGreat
namespace Bk
set_option linter.unusedVariables false
set_option linter.unusedSimpArgs false
open Go Go.RowKit
open Classical
def RatsC (h : Mem) : List Value → List Rat → Prop
  | cs, [] => cs = []
  | cs, q :: qs => ∃ vn vd rest, cs = vB (q.num < 0) :: vn :: vd :: rest ∧ Us .u32 h vn (zF q.num.natAbs) ∧ Us .u32 h vd (zF (vO q.den)) ∧ RatsC h rest qs
def IsRats (h : Mem) (v : Value) (qs : List Rat) : Prop := ∃ cs, v = .agg cs.toArray ∧ RatsC h cs qs
section
variable {P : Program} {n : Nat} {w0 : World} {h0 : Mem} {e : List (Nat × Value)} {L : List Res} {h : Mem} {Q : Exit → Act → World → Prop}
variable {ds : Option Tmp} {ty : TypeId} {ps : String} {af : Array Edge} {gd : Option (Nat × Bool)}
def LoopW (P : Program) (c : Code) (Q : Exit → Act → World → Prop) (a : Act) (w : World) : Prop :=
  ∀ (b : Frame) (k : List Item) (cs : List Frame), ∃ x a' w', Q x a' w' ∧ Arrives P (lone (b.at a (.code c :: .inLoop c :: k)) cs w) b k cs x a' w'
theorem loopW_of {c : Code} {a : Act} {w : World} (hw : c.wp P (Exit.then (LoopW P c Q) Q) a w) : LoopW P c Q a w := by
  intro b k cs
  obtain ⟨x, a1, w1, hq, harr⟩ := hw b (.inLoop c :: k) cs
  cases x with
  | normal =>
    obtain ⟨x2, a2, w2, hq2, harr2⟩ := hq b k cs
    exact ⟨x2, a2, w2, hq2, .of_steps (Steps.trans harr (.one step_inLoop)) harr2⟩
  | exit id => exact ⟨_, a1, w1, hq, .pass (x := .inLoop c) rfl (fun _ _ => .inl (by simp)) harr⟩
  | goto l => exact ⟨_, a1, w1, hq, .pass (x := .inLoop c) rfl (fun _ _ => .inl (by simp)) harr⟩
  | ret => exact ⟨_, a1, w1, hq, .pass (x := .inLoop c) rfl (fun _ _ => .inl (by simp)) harr⟩
  | panic ch => exact ⟨_, a1, w1, hq, .pass (x := .inLoop c) rfl (fun _ _ => .inl (by simp)) harr⟩
  | outgrown => exact ⟨_, a1, w1, hq, .pass (x := .inLoop c) rfl (fun _ _ => .inl (by simp)) harr⟩
theorem kD {c : Code} (k : GC P n w0 h0 c (Exit.then (LoopW P c Q) Q) e L h) : GC P n w0 h0 (.loop c) Q e L h := by
  intro a w E S b k' cs
  obtain ⟨x, a', w', hq, harr⟩ := loopW_of (k a w E S) b k' cs
  exact ⟨x, a', w', hq, .of_steps (.one step_loop) harr⟩
theorem wN {c : Code} (k : GC P n w0 h0 c (Exit.then (LoopW P c Q) Q) e L h) : GQ n w0 h0 (Exit.then (LoopW P c Q) Q) .normal e L h :=
  fun a w E S => loopW_of (k a w E S)
theorem OpV.cv {o : Oper} {v v' : Value} (hv : OpV P n w0 h0 o e L h v) (e' : v = v') : OpV P n w0 h0 o e L h v' := e' ▸ hv
end
end Bk
namespace Bk
set_option linter.unusedVariables false
set_option linter.unusedSimpArgs false
open Go Go.RowKit
section
variable {P : Program} {n : Nat} {w0 : World} {h0 : Mem} {e : List (Nat × Value)} {L : List Res} {h : Mem}
variable {ds : Option Tmp} {ty : TypeId} {ps : String} {af : Array Edge} {gd : Option (Nat × Bool)}
theorem ov_nilcheck {x : Operand} {b k : Nat} (hx : yG e x = some (vP b k)) : OpV P n w0 h0 ⟨ds, .nilCheck x, ty, ps, af, gd⟩ e L h (vP b k) := by
  intro a w Ev S
  simp [execOp, Ev.eval hx]
theorem zH {t E : TypeId} {x y : Operand} {b k m sz : Nat} {q : Int} (i : Nat) (ht : P.underlying t = some (.array m E)) (hsz : ∀ w, (Go.sizeOf E).run P w = .ok sz w) (hx : yG e x = some (vP b k)) (hy : yG e y = some (vI q)) (hq : q = (i : Int)) (hi : i < m) :
    OpV P n w0 h0 ⟨ds, .indexAddr t x y, ty, ps, af, gd⟩ e L h (vP b (k + i * sz)) := by
  subst hq
  intro a w Ev S
  simp [execOp, Ev.eval hx, Ev.eval hy, Instr.indexAt, vI, asIntOf, run_underlying ht, hsz, Instr.sureAddr, hi, kG]
theorem ov_build_arr {t E : TypeId} {m sz : Nat} {i : TypeInfo} {z : Value} {parts : List (Nat × Operand)} {ps' : List (Nat × Value)} {vs : List Value} (ht : P.underlying t = some (.array m E)) (hi : P.info? t = some i) (hz : i.zero = some z)
    (hsz : ∀ w, (Go.sizeOf E).run P w = .ok sz w) (hp : PartsV e parts ps') (hf : Instr.fill (fun i => some (i * sz, sz)) z.cells ps' = some vs.toArray) :
    OpV P n w0 h0 ⟨ds, .build t parts.toArray, ty, ps, af, gd⟩ e L h (.agg vs.toArray) := by
  intro a w Ev S
  have hpa : (parts.toArray.map fun (p : Nat × Operand) => (p.1, a.eval p.2)).toList = ps' := by
    rw [List.map_toArray]
    exact hp.eval Ev
  have hz' : (zeroValue t).run P w = .ok z w := by simp [zeroValue, typeInfo, hi, hz]
  simp only [execOp, Instr.build]
  rw [show (parts.toArray.map fun (i, x) => (i, a.eval x)).toList = ps' from hpa]
  simp only [Sem.run_bind, hz', Result.andThen_ok, run_underlying ht, hsz, hf]
  rfl
end
end Bk
namespace Bk
set_option linter.unusedVariables false
set_option linter.unusedSimpArgs false
open Go Go.RowKit
open Classical
structure Is (h : Mem) (v : Value) (xs : List Int) : Prop where
  sl : Sl h 1 v xs.length (xs.map vI)
  rng : ∀ x ∈ xs, -9223372036854775808 ≤ x ∧ x < 9223372036854775808
theorem Is.mono {h h' : Mem} {v : Value} {xs : List Int} (s : Is h v xs) (hh : MLe h h') : Is h' v xs := ⟨s.sl.mono hh, s.rng⟩
theorem Is.nil (h : Mem) : Is h (.slice none 0 0) [] := ⟨Sl.nil h 1, by simp⟩
theorem Is.one {h : Mem} {v : Value} {xs : List Int} (s : Is h v xs) : ∃ a cap, v = .slice a xs.length cap := s.sl.one
theorem Is.lt63 {h : Mem} {v : Value} {xs : List Int} (s : Is h v xs) : xs.length < 9223372036854775808 := s.sl.lt63
theorem Is.cells {h : Mem} {v : Value} {xs : List Int} (s : Is h v xs) : v.cells = [v].toArray := by
  obtain ⟨a, cap, rfl⟩ := s.one
  rfl
theorem is_of_row {w : World} {a : Option Addr} {len cap : Nat} {zs : List Int}
    (h : (a = none ∧ len = 0 ∧ cap = 0 ∧ zs = []) ∨ ∃ x, a = some x ∧ len ≤ cap ∧ cap ≤ maxLen ∧ zs.length = cap ∧ (∀ i, i < zs.length → w.cell? (x.add i) = some (.int .i64 (zs.getD i 0))) ∧ ∀ n ∈ zs, (Lit.int .i64 n).wf = true) :
    ∃ xs : List Int, Is (mem w) (.slice a len cap) xs := by
  rcases h with ⟨rfl, rfl, rfl, rfl⟩ | ⟨x, rfl, h1, h2, h3, h4, h5⟩
  · exact ⟨[], Is.nil _⟩
  · refine ⟨zs.take len, ⟨?_, ?_⟩⟩
    · have hl : (zs.take len).length = len := by simp; omega
      rw [hl]
      refine ⟨_, cap, rfl, h1, h2, by simp; omega, fun i hi => ?_⟩
      have hi' : i < len := by simp at hi; omega
      have hc := h4 i (by omega)
      have hspot : (x.add 0).spot = none := World.cell?_spot (h4 0 (by omega))
      obtain ⟨b, o, sp⟩ := x
      simp [Addr.add] at hspot
      subst hspot
      refine ⟨b, o, rfl, ?_⟩
      rw [kG] at hc
      rw [cell_of_world hc, List.getElem?_map, List.getElem?_take, if_pos hi', List.getElem?_eq_getElem (by omega)]
      rw [List.getD_eq_getElem?_getD, List.getElem?_eq_getElem (by omega)]
      rfl
    · intro n hn
      exact int_of_wf (h5 n (List.mem_of_mem_take hn))
section
variable {P : Program} {n : Nat} {w0 : World} {h0 : Mem} {e : List (Nat × Value)} {L : List Res} {h : Mem} {Q : Exit → Act → World → Prop}
variable {ds : Option Tmp} {ty : TypeId} {ps : String} {af : Array Edge} {gd : Option (Nat × Bool)}
theorem ov_len_is {v : Value} {xs : List Int} {t E : TypeId} {x : Operand} (ht : P.underlying t = some (.slice E)) (hx : yG e x = some v) (hv : Is h v xs) :
    OpV P n w0 h0 ⟨ds, .call { callee := .builtin .len, args := #[x], argTypes := #[t] }, ty, ps, af, gd⟩ e L h (vI (xs.length : Int)) := ov_len_sl ht hx hv.one
theorem ov_index_is {v : Value} {xs : List Int} {t E : TypeId} {x y : Operand} {q : Int} (i : Nat) (ht : P.underlying t = some (.slice E)) (hsz : ∀ w, (Go.sizeOf E).run P w = .ok 1 w) (hx : yG e x = some v) (hy : yG e y = some (vI q))
    (hv : Is h v xs) (hq : q = (i : Int)) (hi : i < xs.length) : OpV P n w0 h0 ⟨ds, .indexAddr t x y, ty, ps, af, gd⟩ e L h (xY 1 v i) := ov_index i ht hsz hx hy hv.sl hq hi (by omega)
theorem ov_load_is {v : Value} {xs : List Int} {t : TypeId} {x : Operand} {i : Nat} (ha : ∀ w, (isAgg t).run P w = .ok false w) (hx : yG e x = some (xY 1 v i)) (hv : Is h v xs) (hi : i < xs.length) :
    OpV P n w0 h0 ⟨ds, .load t x, ty, ps, af, gd⟩ e L h (vI (xs.getD i 0)) :=
  ov_load1 ha hx hv.sl (by rw [List.getElem?_map, List.getElem?_eq_getElem hi, List.getD_eq_getElem?_getD, List.getElem?_eq_getElem hi]; rfl)
theorem ov_remt_i {t yt : TypeId} {x y : Operand} {p q : Int} (hx : yG e x = some (vI p)) (hy : yG e y = some (vI q)) (h3 : 0 < q) :
    OpV P n w0 h0 ⟨ds, .binOp .rem t x y yt, ty, ps, af, gd⟩ e L h (vI (p.tmod q)) := by
  intro a w E S
  have h7 : q ≠ 0 := by omega
  simp [execOp, E.eval hx, E.eval hy, vI, wM, binOp, Op.intDiv, h7]
end
def RetMut (w0 : World) (h0 : Mem) (h : Mem) (L : List Res) (G : Mem → Value → Res → Prop) : Ending → World → Prop :=
  RetOwn w0 h0 (fun g v K => ∃ q', (q' :: L).Sublist K ∧ MLe h g ∧ G g v q')
section
variable {P : Program} {n : Nat} {w0 : World} {h0 : Mem} {e : List (Nat × Value)} {L : List Res} {h : Mem} {Q : Exit → Act → World → Prop}
variable {ty : TypeId} {ps : String} {af : Array Edge}
theorem uO {ops : Array Oper} {rest : List Oper} {d f : Nat} {xs : List Operand} {ts : Array TypeId} {vs : List Value} {A B : List Res} {q : Res} {G : Mem → Value → Res → Prop} (hcall : ∀ args w, (callFunc f args).run P w = .ok (.enter f args) w) (hvs : Evals e xs vs)
    (hc : ∀ X w, St w0 h0 (q :: X) h w → Calls P f vs.toArray w (RetMut w0 h0 h X G)) (hn : Nat.ble (d + 1) n = true) (k : ∀ v g q', MLe h g → G g v q' → GL P n w0 h0 ops Q rest ((d, v) :: e) (A ++ q' :: B) g) :
    GL P n w0 h0 ops Q (⟨some d, .call { callee := .value (.func f), args := xs.toArray, argTypes := ts }, ty, ps, af, none⟩ :: rest) e (A ++ q :: B) h := by
  refine gl_front ?_
  refine gl_call_mut rfl rfl rfl hn hcall hvs (hc (A ++ B)) ?_
  rintro v g K ⟨q', hK, hle, hG⟩
  have := k v g q' hle hG
  exact fun a w Ev S => this a w Ev ((S.sublist hK).perm List.perm_middle.symm)
section
variable {ops : Array Oper} {R : List Res} {d : Nat}
theorem s_call_mut {W' : List (Nat × Value) → List Res → Mem → Prop} {f : Nat} {xs : List Operand} {ts : Array TypeId} {vs : List Value} {A B : List Res} {q : Res} {G : Mem → Value → Res → Prop} (hcall : ∀ args w, (callFunc f args).run P w = .ok (.enter f args) w) (hvs : Evals e xs vs)
    (hc : ∀ X w, St w0 h0 (q :: X) h w → Calls P f vs.toArray w (RetMut w0 h0 h X G)) (hn : Nat.ble (d + 1) n = true) (hR : ∀ r ∈ R, ∀ q', r ∈ A ++ q :: B → r ∈ A ++ q' :: B)
    (k : ∀ v g q', MLe h g → G g v q' → W' ((d, v) :: e) (A ++ q' :: B) g) :
    jT P n w0 h0 ops R ⟨some d, .call { callee := .value (.func f), args := xs.toArray, argTypes := ts }, ty, ps, af, none⟩ e (A ++ q :: B) h W' := by
  intro X a w E S
  have S1 : St w0 h0 (q :: (A ++ B ++ X)) h w := S.perm (by simp)
  unfold uX
  rw [if_pos (wn rfl)]
  have hargs : xs.toArray.map a.eval = vs.toArray := by rw [List.map_toArray, E.evals hvs]
  have hr : (execOp a.eval ⟨some d, .call { callee := .value (.func f), args := xs.toArray, argTypes := ts }, ty, ps, af, none⟩).run P w = .ok (.enter f vs.toArray) w := by
    simp only [execOp, resolve, Act.eval]
    simp [Deferred.ofValue, invoke, hcall, hargs]
  rw [hr]
  refine (hc _ w S1).mono ?_
  rintro e' w' ⟨v, g, K, rfl, ⟨q', hK, hle, hG⟩, S'⟩
  have S2 : St w0 h0 (A ++ q' :: B ++ X) g w' := (S'.sublist hK).perm (by simpa using List.perm_middle.symm)
  exact ⟨v, rfl, fun d' hd => (by cases hd; exact Nat.le_of_ble_eq_true hn), A ++ q' :: B, g, hle, fun hh r hr => hR r hr q' (hh r hr), S2, k v g q' hle hG⟩
theorem mem_skip {A B : List Res} {q : Res} : ∀ r ∈ A ++ B, r ∈ A ++ q :: B := by
  intro r hr
  simp only [List.mem_append, List.mem_cons] at hr ⊢
  rcases hr with h | h
  · exact .inl h
  · exact .inr (.inr h)
theorem gc_draw1 {Q : Exit → Act → World → Prop} {id : Nat} {l : List Oper} {A B : List Res} {q : Res} (m : Nat) (al : Als) (ord : List (Nat × Kd)) (hm : P.follows .mixedOrders = true) (hal : jK P n l.toArray al)
    (hchk : (Region.noSelect l.toArray && chkAl l.toArray al && (al.all fun x => decide (x.1 < m)) && chk l.toArray m ord (Array.replicate l.length false) (al.map (·.1))) = true) (hae : ∀ x ∈ al, al.lookup x.1 = some x.2 ∧ e.lookup x.2.1 = none)
    (k : W P n w0 h0 l.toArray Q (A ++ B) al ord e (A ++ q :: B) h) : GC P n w0 h0 (.region id l.toArray true) Q e (A ++ q :: B) h := yF m (A ++ B) al ord hm hal hchk hae mem_skip k
theorem wV {R A B : List Res} {q : Res} (hR : ∀ r ∈ R, r ∈ A ++ B) : ∀ r ∈ R, ∀ q', r ∈ A ++ q :: B → r ∈ A ++ q' :: B := fun r hr q' _ => mem_skip r (hR r hr)
end
end
def modZ (p q : Int) : Int := if p.tmod q < 0 then p.tmod q + q else p.tmod q
theorem tmod_range (p : Int) {q : Int} (hq : 0 < q) : -q < p.tmod q ∧ p.tmod q < q := by
  have h1 := Int.tmod_lt_of_pos p hq
  have h2 := Int.tmod_lt_of_pos (-p) hq
  rw [Int.neg_tmod] at h2
  omega
theorem modZ_range (p : Int) {q : Int} (hq : 0 < q) : 0 ≤ modZ p q ∧ modZ p q < q := by
  have := tmod_range p hq
  unfold modZ
  split <;> omega
def partN (n : Int) : Int := 1 + modZ (n.tdiv 17) 12
noncomputable def partQ (n : Int) : Rat := qR (modZ n (partN n + 1)) (partN n)
end Bk
namespace Bk
set_option linter.unusedVariables false
set_option linter.unusedSimpArgs false
open Go Go.RowKit
open Classical
theorem cells_one {v : Value} (h : v.oneCell' = true) : v.cells = #[v] := by cases v <;> simp [Value.oneCell'] at h <;> rfl
structure Rp (α : Type) where
  n : Nat
  agg : Bool
  R : Mem → List Value → α → Prop
  len : ∀ {h cs x}, R h cs x → cs.length = n
  mono : ∀ {h h' cs x}, MLe h h' → R h cs x → R h' cs x
  one : ∀ {h cs x}, R h cs x → cs.all (·.oneCell') = true
  cell : agg = false → n = 1
section
variable {α β γ δ : Type}
def Rp.val (ρ : Rp α) (cs : List Value) : Value := if ρ.agg then .agg cs.toArray else cs.headD undef
def Rp.Is (ρ : Rp α) (h : Mem) (v : Value) (x : α) : Prop := ∃ cs, ρ.R h cs x ∧ v = ρ.val cs
theorem Rp.Is.mono {ρ : Rp α} {h h' : Mem} {v : Value} {x : α} (s : ρ.Is h v x) (hh : MLe h h') : ρ.Is h' v x := by
  obtain ⟨cs, r, e⟩ := s
  exact ⟨cs, ρ.mono hh r, e⟩
theorem Rp.single {ρ : Rp α} {h : Mem} {cs : List Value} {x : α} (r : ρ.R h cs x) (ha : ρ.agg = false) : ∃ c, cs = [c] ∧ c.oneCell' = true := by
  have h1 := ρ.len r
  have h2 := ρ.one r
  rw [ρ.cell ha] at h1
  match cs, h1 with
  | [c], _ => exact ⟨c, rfl, by simpa using h2⟩
theorem Rp.cells_val {ρ : Rp α} {h : Mem} {cs : List Value} {x : α} (r : ρ.R h cs x) : (ρ.val cs).cells = cs.toArray := by
  unfold Rp.val
  split
  · rfl
  · rename_i ha
    obtain ⟨c, rfl, hc⟩ := Rp.single r (by simpa using ha)
    exact cells_one hc
theorem Rp.Is.cells {ρ : Rp α} {h : Mem} {v : Value} {x : α} (s : ρ.Is h v x) : ∃ cs, ρ.R h cs x ∧ v.cells = cs.toArray := by
  obtain ⟨cs, r, rfl⟩ := s
  exact ⟨cs, r, Rp.cells_val r⟩
theorem Rp.Is.cast {ρ : Rp α} {h : Mem} {v : Value} {x y : α} (s : ρ.Is h v x) (e : x = y) : ρ.Is h v y := e ▸ s
def RL (ρ : Rp α) (h : Mem) : List Value → List α → Prop
  | cs, [] => cs = []
  | cs, x :: xs => ∃ a b, cs = a ++ b ∧ ρ.R h a x ∧ RL ρ h b xs
theorem RL.len {ρ : Rp α} {h : Mem} : ∀ {xs : List α} {cs : List Value}, RL ρ h cs xs → cs.length = xs.length * ρ.n
  | [], _, r => by rw [r]; simp
  | x :: xs, _, ⟨a, b, e, r, s⟩ => by rw [e, lAz, ρ.len r, s.len, lC, Nat.add_mul]; omega
theorem RL.mono {ρ : Rp α} {h h' : Mem} (hh : MLe h h') : ∀ {xs : List α} {cs : List Value}, RL ρ h cs xs → RL ρ h' cs xs
  | [], _, r => r
  | _ :: _, _, ⟨a, b, e, r, s⟩ => ⟨a, b, e, ρ.mono hh r, s.mono hh⟩
theorem RL.one {ρ : Rp α} {h : Mem} : ∀ {xs : List α} {cs : List Value}, RL ρ h cs xs → cs.all (·.oneCell') = true
  | [], _, r => by rw [r]; rfl
  | _ :: _, _, ⟨a, b, e, r, s⟩ => by rw [e, List.all_append, ρ.one r, s.one]; rfl
theorem RL.append {ρ : Rp α} {h : Mem} : ∀ {xs ys : List α} {cs ds : List Value}, RL ρ h cs xs → RL ρ h ds ys → RL ρ h (cs ++ ds) (xs ++ ys)
  | [], _, _, _, r, s => by rw [r]; exact s
  | _ :: _, _, _, _, ⟨a, b, e, r, s⟩, t => ⟨a, _, by rw [e, List.append_assoc], r, s.append t⟩
theorem RL.nil {ρ : Rp α} {h : Mem} : RL ρ h [] [] := rfl
theorem RL.drop {ρ : Rp α} {h : Mem} : ∀ {xs : List α} {cs : List Value} (i : Nat), RL ρ h cs xs → RL ρ h (cs.drop (i * ρ.n)) (xs.drop i)
  | _, _, 0, r => by simpa using r
  | [], _, i + 1, r => by rw [r]; simp [RL]
  | _ :: xs, _, i + 1, ⟨a, b, e, r, s⟩ => by
    rw [e, show (i + 1) * ρ.n = a.length + i * ρ.n by rw [ρ.len r, Nat.add_mul]; omega, ← List.drop_drop, List.drop_left]
    exact s.drop i
theorem RL.take {ρ : Rp α} {h : Mem} : ∀ {xs : List α} {cs : List Value} (i : Nat), RL ρ h cs xs → RL ρ h (cs.take (i * ρ.n)) (xs.take i)
  | _, _, 0, r => by simp [RL]
  | [], _, i + 1, r => by rw [r]; simp [RL]
  | _ :: xs, _, i + 1, ⟨a, b, e, r, s⟩ => by
    rw [e, show (i + 1) * ρ.n = a.length + i * ρ.n by rw [ρ.len r, Nat.add_mul]; omega, List.take_length_add_append]
    exact ⟨a, _, rfl, r, s.take i⟩
theorem RL.get {ρ : Rp α} {h : Mem} {xs : List α} {cs : List Value} {i : Nat} {x : α} (r : RL ρ h cs xs) (hx : xs[i]? = some x) : ρ.R h ((cs.drop (i * ρ.n)).take ρ.n) x := by
  have h1 := r.drop i
  obtain ⟨hi, e⟩ := List.getElem?_eq_some_iff.1 hx
  rw [List.drop_eq_getElem_cons hi, e] at h1
  obtain ⟨a, b, e1, ra, _⟩ := h1
  rw [e1, ← ρ.len ra, List.take_left]
  exact ra
theorem RL.set {ρ : Rp α} {h : Mem} {xs : List α} {cs ds : List Value} {i : Nat} {y : α} (r : RL ρ h cs xs) (hi : i < xs.length) (hd : ρ.R h ds y) : RL ρ h (cs.take (i * ρ.n) ++ ds ++ cs.drop (i * ρ.n + ρ.n)) (xs.set i y) := by
  have h1 := r.take i
  have h2 := r.drop (i + 1)
  rw [Nat.add_mul, Nat.one_mul] at h2
  rw [List.set_eq_take_append_cons_drop, if_pos hi, List.append_assoc]
  exact h1.append ⟨ds, _, rfl, hd, h2⟩
def rpQ (k : Nat) : Rp Rat where
  n := 3
  agg := true
  R h cs q := (∃ vn vd, cs = [vB (q.num < 0), vn, vd] ∧ Us .u32 h vn (zF q.num.natAbs) ∧ Us .u32 h vd (zF (vO q.den))) ∧ lq q ≤ k
  len := by rintro h cs q ⟨⟨vn, vd, rfl, _⟩, _⟩; rfl
  mono := by
    rintro h h' cs q hh ⟨⟨vn, vd, rfl, h1, h2⟩, h3⟩
    exact ⟨⟨vn, vd, rfl, h1.mono hh, h2.mono hh⟩, h3⟩
  one := by
    rintro h cs q ⟨⟨vn, vd, rfl, h1, h2⟩, h3⟩
    exact ocr rfl (ocu h1 (ocu h2 oc0))
  cell := by simp
def rpI : Rp Int where
  n := 1
  agg := false
  R _ cs z := cs = [vI z] ∧ -9223372036854775808 ≤ z ∧ z < 9223372036854775808
  len := by rintro h cs z ⟨rfl, _⟩; rfl
  mono := fun _ r => r
  one := by rintro h cs z ⟨rfl, _⟩; rfl
  cell := fun _ => rfl
def rpB : Rp Prop where
  n := 1
  agg := false
  R _ cs p := cs = [vB p]
  len := by rintro h cs p rfl; rfl
  mono := fun _ r => r
  one := by rintro h cs p rfl; rfl
  cell := fun _ => rfl
def rpP (ρ : Rp α) (σ : Rp β) : Rp (α × β) where
  n := ρ.n + σ.n
  agg := true
  R h cs x := ∃ a b, cs = a ++ b ∧ ρ.R h a x.1 ∧ σ.R h b x.2
  len := by rintro h cs x ⟨a, b, rfl, h1, h2⟩; rw [lAz, ρ.len h1, σ.len h2]
  mono := by rintro h h' cs x hh ⟨a, b, rfl, h1, h2⟩; exact ⟨a, b, rfl, ρ.mono hh h1, σ.mono hh h2⟩
  one := by rintro h cs x ⟨a, b, rfl, h1, h2⟩; rw [List.all_append, ρ.one h1, σ.one h2]; rfl
  cell := by simp
@[ext] structure T3 (α : Type) where
  x : α
  y : α
  z : α
abbrev zT : T3 Rat := T3.mk (0 : Rat) 0 0
def T3.at (p : T3 α) : Nat → α
  | 0 => p.x
  | 1 => p.y
  | _ => p.z
def T3.set (p : T3 α) : Nat → α → T3 α
  | 0, a => ⟨a, p.y, p.z⟩
  | 1, a => ⟨p.x, a, p.z⟩
  | _, a => ⟨p.x, p.y, a⟩
def rpT (ρ : Rp α) : Rp (T3 α) where
  n := ρ.n + (ρ.n + ρ.n)
  agg := true
  R h cs p := (rpP ρ (rpP ρ ρ)).R h cs (p.x, p.y, p.z)
  len := fun r => (rpP ρ (rpP ρ ρ)).len r
  mono := fun hh r => (rpP ρ (rpP ρ ρ)).mono hh r
  one := fun r => (rpP ρ (rpP ρ ρ)).one r
  cell := by simp
def rpA (k : Nat) (ρ : Rp α) : Rp (List α) where
  n := k * ρ.n
  agg := true
  R h cs xs := xs.length = k ∧ RL ρ h cs xs
  len := by rintro h cs xs ⟨rfl, r⟩; exact r.len
  mono := fun hh r => ⟨r.1, r.2.mono hh⟩
  one := fun r => r.2.one
  cell := by simp
def rpS (ρ : Rp α) : Rp (List α) where
  n := 1
  agg := false
  R h cs xs := ∃ v ds, cs = [v] ∧ Sl h ρ.n v xs.length ds ∧ RL ρ h ds xs
  len := by rintro h cs xs ⟨v, ds, rfl, _⟩; rfl
  mono := by rintro h h' cs xs hh ⟨v, ds, rfl, h1, h2⟩; exact ⟨v, ds, rfl, h1.mono hh, h2.mono hh⟩
  one := by
    rintro h cs xs ⟨v, ds, rfl, h1, h2⟩
    obtain ⟨a, cap, rfl⟩ := h1.one
    rfl
  cell := fun _ => rfl
theorem is_i {h : Mem} {z : Int} (h1 : -9223372036854775808 ≤ z) (h2 : z < 9223372036854775808) : rpI.Is h (vI z) z := ⟨_, ⟨rfl, h1, h2⟩, rfl⟩
theorem of_i {h : Mem} {v : Value} {z : Int} (s : rpI.Is h v z) : v = vI z ∧ -9223372036854775808 ≤ z ∧ z < 9223372036854775808 := by
  obtain ⟨cs, ⟨rfl, h1, h2⟩, rfl⟩ := s
  exact ⟨rfl, h1, h2⟩
theorem is_q {h : Mem} {v : Value} {q : Rat} {k : Nat} (s : vX h v q) (hk : lq q ≤ k) : (rpQ k).Is h v q := by
  obtain ⟨vn, vd, rfl, h1, h2⟩ := s
  exact ⟨_, ⟨⟨vn, vd, rfl, h1, h2⟩, hk⟩, rfl⟩
theorem of_q {h : Mem} {v : Value} {q : Rat} {k : Nat} (s : (rpQ k).Is h v q) : vX h v q ∧ lq q ≤ k := by
  obtain ⟨cs, ⟨⟨vn, vd, rfl, h1, h2⟩, hk⟩, rfl⟩ := s
  exact ⟨⟨vn, vd, rfl, h1, h2⟩, hk⟩
theorem uS {h : Mem} {v : Value} {q : Rat} {k : Nat} (s : (rpQ k).Is h v q) : ∃ vn vd, v = .agg #[vB (q.num < 0), vn, vd] ∧ Us .u32 h vn (zF q.num.natAbs) ∧ Us .u32 h vd (zF (vO q.den)) ∧ lq q ≤ k := by
  obtain ⟨cs, ⟨⟨vn, vd, rfl, h1, h2⟩, hk⟩, rfl⟩ := s
  exact ⟨vn, vd, rfl, h1, h2, hk⟩
theorem is_s {ρ : Rp α} {h : Mem} {v : Value} {xs : List α} {ds : List Value} (s : Sl h ρ.n v xs.length ds) (r : RL ρ h ds xs) : (rpS ρ).Is h v xs := ⟨_, ⟨v, ds, rfl, s, r⟩, rfl⟩
theorem of_s {ρ : Rp α} {h : Mem} {v : Value} {xs : List α} (s : (rpS ρ).Is h v xs) : ∃ ds, Sl h ρ.n v xs.length ds ∧ RL ρ h ds xs := by
  obtain ⟨cs, ⟨v, ds, rfl, h1, h2⟩, rfl⟩ := s
  exact ⟨ds, h1, h2⟩
theorem is_nil {ρ : Rp α} (h : Mem) : (rpS ρ).Is h (.slice none 0 0) [] := is_s (Sl.nil h _) rfl
theorem s_lt {ρ : Rp α} {h : Mem} {v : Value} {xs : List α} (s : (rpS ρ).Is h v xs) : xs.length < 9223372036854775808 := by
  obtain ⟨ds, h1, _⟩ := of_s s
  exact h1.lt63
theorem s_one {ρ : Rp α} {h : Mem} {v : Value} {xs : List α} (s : (rpS ρ).Is h v xs) : ∃ a cap, v = .slice a xs.length cap := by
  obtain ⟨ds, h1, _⟩ := of_s s
  exact h1.one
structure Le (ρ σ : Rp α) : Prop where
  n : ρ.n = σ.n
  agg : ρ.agg = σ.agg
  R : ∀ {h cs x}, ρ.R h cs x → σ.R h cs x
theorem Le.refl (ρ : Rp α) : Le ρ ρ := ⟨rfl, rfl, id⟩
theorem Le.q {k l : Nat} (h : k ≤ l) : Le (rpQ k) (rpQ l) := ⟨rfl, rfl, fun ⟨a, b⟩ => ⟨a, Nat.le_trans b h⟩⟩
theorem Le.p {ρ ρ' : Rp α} {σ σ' : Rp β} (h : Le ρ ρ') (k : Le σ σ') : Le (rpP ρ σ) (rpP ρ' σ') := ⟨by show ρ.n + σ.n = ρ'.n + σ'.n; rw [h.n, k.n], rfl, fun ⟨a, b, e, r, s⟩ => ⟨a, b, e, h.R r, k.R s⟩⟩
theorem Le.t {ρ ρ' : Rp α} (h : Le ρ ρ') : Le (rpT ρ) (rpT ρ') := ⟨by show ρ.n + (ρ.n + ρ.n) = ρ'.n + (ρ'.n + ρ'.n); rw [h.n], rfl, fun r => (Le.p h (Le.p h h)).R r⟩
theorem Le.rl {ρ ρ' : Rp α} (h : Le ρ ρ') {m : Mem} : ∀ {xs : List α} {cs : List Value}, RL ρ m cs xs → RL ρ' m cs xs
  | [], _, r => r
  | _ :: _, _, ⟨a, b, e, r, s⟩ => ⟨a, b, e, h.R r, h.rl s⟩
theorem Le.a {k : Nat} {ρ ρ' : Rp α} (h : Le ρ ρ') : Le (rpA k ρ) (rpA k ρ') := ⟨by show k * ρ.n = k * ρ'.n; rw [h.n], rfl, fun r => ⟨r.1, h.rl r.2⟩⟩
theorem Le.s {ρ ρ' : Rp α} (h : Le ρ ρ') : Le (rpS ρ) (rpS ρ') := ⟨rfl, rfl, fun ⟨v, ds, e, s, r⟩ => ⟨v, ds, e, h.n ▸ s, h.rl r⟩⟩
theorem Rp.Is.le {ρ σ : Rp α} {h : Mem} {v : Value} {x : α} (s : ρ.Is h v x) (k : Le ρ σ) : σ.Is h v x := by
  obtain ⟨cs, r, rfl⟩ := s
  exact ⟨cs, k.R r, by unfold Rp.val; rw [k.agg]⟩
structure Pc (ρ : Rp α) (off : Nat) (σ : Rp β) (g : α → β) (s : α → β → α) : Prop where
  fits : off + σ.n ≤ ρ.n
  get : ∀ {h cs x}, ρ.R h cs x → σ.R h ((cs.drop off).take σ.n) (g x)
  set : ∀ {h cs x ds y}, ρ.R h cs x → σ.R h ds y → ρ.R h (cs.take off ++ ds ++ cs.drop (off + σ.n)) (s x y)
theorem Pc.here (ρ : Rp α) : Pc ρ 0 ρ (fun x => x) (fun _ y => y) := by
  refine ⟨by omega, fun r => ?_, fun {h cs x ds y} r s => ?_⟩
  · have := ρ.len r
    rw [List.drop_zero, ← this, List.take_length]; exact r
  · have := ρ.len r
    rw [Nat.zero_add, ← this, List.drop_length, List.take_zero, List.nil_append, List.append_nil]; exact s
theorem Pc.fst {ρ : Rp α} {σ : Rp β} {τ : Rp γ} {off : Nat} {g : α → γ} {s : α → γ → α} (p : Pc ρ off τ g s) : Pc (rpP ρ σ) off τ (fun x => g x.1) (fun x y => (s x.1 y, x.2)) := by
  have hf := p.fits
  refine ⟨by show off + τ.n ≤ ρ.n + σ.n; omega, ?_, ?_⟩
  · rintro h cs x ⟨a, b, rfl, ra, rb⟩
    have hl := ρ.len ra
    have := p.get ra
    rwa [List.drop_append_of_le_length (by omega), List.take_append_of_le_length (by rw [List.length_drop]; omega)]
  · rintro h cs x ds y ⟨a, b, rfl, ra, rb⟩ rd
    have hl := ρ.len ra
    refine ⟨_, b, ?_, p.set ra rd, rb⟩
    rw [List.take_append_of_le_length (by omega), List.drop_append_of_le_length (by omega)]
    simp [List.append_assoc]
theorem Pc.snd {ρ : Rp α} {σ : Rp β} {τ : Rp γ} {off : Nat} {g : β → γ} {s : β → γ → β} (p : Pc σ off τ g s) : Pc (rpP ρ σ) (ρ.n + off) τ (fun x => g x.2) (fun x y => (x.1, s x.2 y)) := by
  have hf := p.fits
  refine ⟨by show ρ.n + off + τ.n ≤ ρ.n + σ.n; omega, ?_, ?_⟩
  · rintro h cs x ⟨a, b, rfl, ra, rb⟩
    have hl := ρ.len ra
    have := p.get rb
    rwa [← hl, ← List.drop_drop, List.drop_left]
  · rintro h cs x ds y ⟨a, b, rfl, ra, rb⟩ rd
    have hl := ρ.len ra
    refine ⟨a, _, ?_, ra, p.set rb rd⟩
    rw [← hl, List.take_length_add_append, Nat.add_assoc, ← List.drop_drop, List.drop_left]
    simp [List.append_assoc]
theorem Pc.tx {ρ : Rp α} {τ : Rp γ} {off : Nat} {g : α → γ} {s : α → γ → α} (p : Pc ρ off τ g s) : Pc (rpT ρ) off τ (fun x => g x.x) (fun x y => ⟨s x.x y, x.y, x.z⟩) := by
  have q : Pc (rpP ρ (rpP ρ ρ)) off τ _ _ := p.fst
  exact ⟨q.fits, fun r => q.get r, fun r d => q.set r d⟩
theorem Pc.ty {ρ : Rp α} {τ : Rp γ} {off : Nat} {g : α → γ} {s : α → γ → α} (p : Pc ρ off τ g s) : Pc (rpT ρ) (ρ.n + off) τ (fun x => g x.y) (fun x y => ⟨x.x, s x.y y, x.z⟩) := by
  have q : Pc (rpP ρ (rpP ρ ρ)) (ρ.n + off) τ _ _ := (Pc.fst (σ := ρ) p).snd
  exact ⟨q.fits, fun r => q.get r, fun r d => q.set r d⟩
theorem Pc.tz {ρ : Rp α} {τ : Rp γ} {off : Nat} {g : α → γ} {s : α → γ → α} (p : Pc ρ off τ g s) : Pc (rpT ρ) (ρ.n + (ρ.n + off)) τ (fun x => g x.z) (fun x y => ⟨x.x, x.y, s x.z y⟩) := by
  have q : Pc (rpP ρ (rpP ρ ρ)) (ρ.n + (ρ.n + off)) τ _ _ := (Pc.snd (ρ := ρ) p).snd
  exact ⟨q.fits, fun r => q.get r, fun r d => q.set r d⟩
theorem Pc.ta {ρ : Rp α} {τ : Rp γ} {off : Nat} {g : α → γ} {s : α → γ → α} (p : Pc ρ off τ g s) (i : Nat) (hi : i < 3) : Pc (rpT ρ) (i * ρ.n + off) τ (fun x => g (x.at i)) (fun x y => x.set i (s (x.at i) y)) := by
  match i, hi with
  | 0, _ => rw [Nat.zero_mul, Nat.zero_add]; exact p.tx
  | 1, _ => rw [Nat.one_mul]; exact p.ty
  | 2, _ => rw [show 2 * ρ.n + off = ρ.n + (ρ.n + off) by omega]; exact p.tz
theorem Pc.arr {ρ : Rp α} {τ : Rp γ} {off k : Nat} {g : α → γ} {s : α → γ → α} (p : Pc ρ off τ g s) (d : α) (i : Nat) (hi : i < k) : Pc (rpA k ρ) (i * ρ.n + off) τ (fun x => g (x.getD i d)) (fun x y => x.set i (s (x.getD i d) y)) := by
  have hf := p.fits
  have hm : i * ρ.n + ρ.n ≤ k * ρ.n := by rw [← Nat.succ_mul]; exact Nat.mul_le_mul_right _ hi
  have hx : ∀ {x : List α}, x.length = k → x[i]? = some (x.getD i d) := by
    intro x hl
    rw [List.getD_eq_getElem?_getD, List.getElem?_eq_getElem (by omega)]; rfl
  refine ⟨by show i * ρ.n + off + τ.n ≤ k * ρ.n; omega, ?_, ?_⟩
  · rintro h cs x ⟨hl, r⟩
    have h1 := p.get (r.get (hx hl))
    rw [List.drop_take, List.take_take, Nat.min_eq_left (by omega), List.drop_drop] at h1
    exact h1
  · rintro h cs x ds y ⟨hl, r⟩ rd
    have hc := r.len
    rw [hl] at hc
    refine ⟨by simpa using hl, ?_⟩
    have h1 := r.set (i := i) (by omega) (p.set (r.get (hx hl)) rd)
    have e : cs.take (i * ρ.n) ++ (((cs.drop (i * ρ.n)).take ρ.n).take off ++ ds ++ ((cs.drop (i * ρ.n)).take ρ.n).drop (off + τ.n)) ++ cs.drop (i * ρ.n + ρ.n) = cs.take (i * ρ.n + off) ++ ds ++ cs.drop (i * ρ.n + off + τ.n) := by
      rw [List.take_take, Nat.min_eq_left (by omega), List.drop_take, List.drop_drop]
      have e1 : cs.take (i * ρ.n + off) = cs.take (i * ρ.n) ++ (cs.drop (i * ρ.n)).take off := List.take_add
      have e2 : cs.drop (i * ρ.n + off + τ.n) = (cs.drop (i * ρ.n + (off + τ.n))).take (ρ.n - (off + τ.n)) ++ cs.drop (i * ρ.n + ρ.n) := by
        have e3 := List.take_append_drop (ρ.n - (off + τ.n)) (cs.drop (i * ρ.n + (off + τ.n)))
        rw [List.drop_drop, show i * ρ.n + (off + τ.n) + (ρ.n - (off + τ.n)) = i * ρ.n + ρ.n by omega] at e3
        rw [Nat.add_assoc (i * ρ.n)]
        exact e3.symm
      rw [e1, e2]
      simp [List.append_assoc]
    rw [← e]
    exact h1
theorem wB {k : Nat} {h : Mem} (hk : 1 ≤ k) : (rpQ k).R h [.bool false, .slice none 0 0, .slice none 0 0] 0 := by
  refine ⟨⟨_, _, ?_, us_zero_num h, us_zero_den h⟩, by rw [lq_zero]; exact hk⟩
  rw [yX (show ¬ (0 : Rat).num < 0 by decide)]
theorem zr_i {h : Mem} : rpI.R h [.int .i64 0] 0 := ⟨rfl, by decide, by decide⟩
theorem zr_p {ρ : Rp α} {σ : Rp β} {h : Mem} {a b : List Value} {x : α} {y : β} (r : ρ.R h a x) (s : σ.R h b y) : (rpP ρ σ).R h (a ++ b) (x, y) := ⟨a, b, rfl, r, s⟩
theorem wO {ρ : Rp α} {h : Mem} {a : List Value} {x : α} (r : ρ.R h a x) : (rpT ρ).R h (a ++ (a ++ a)) ⟨x, x, x⟩ := ⟨a, _, rfl, r, a, a, rfl, r, r⟩
theorem zr_s {ρ : Rp α} {h : Mem} : (rpS ρ).R h [.slice none 0 0] [] := ⟨_, [], rfl, Sl.nil h _, rfl⟩
theorem zr_a {ρ : Rp α} {h : Mem} {a : List Value} {x : α} (k : Nat) (r : ρ.R h a x) : (rpA k ρ).R h (List.replicate k a).flatten (List.replicate k x) := by
  refine ⟨List.length_replicate, ?_⟩
  induction k with
  | zero => rfl
  | succ k ih => rw [List.replicate_succ, List.replicate_succ]; exact ⟨a, _, rfl, r, ih⟩
end
end Bk
namespace Bk
set_option linter.unusedVariables false
set_option linter.unusedSimpArgs false
open Go Go.RowKit
open Classical
structure TyOk (P : Program) (t : TypeId) (n : Nat) (agg : Bool) : Prop where
  sz : ∀ w, (Go.sizeOf t).run P w = .ok n w
  ag : ∀ w, (isAgg t).run P w = .ok agg w
section
variable {α β γ : Type}
variable {P : Program} {n : Nat} {w0 : World} {h0 : Mem} {e : List (Nat × Value)} {L : List Res} {h : Mem} {Q : Exit → Act → World → Prop}
variable {ds : Option Tmp} {ty : TypeId} {ps : String} {af : Array Edge} {gd : Option (Nat × Bool)}
theorem putAt_eq : ∀ (vs : List Value) (k : Nat) (cs : List Value), k + vs.length ≤ cs.length → putAt cs k vs = cs.take k ++ vs ++ cs.drop (k + vs.length) := by
  have key : ∀ (vs : List Value) (j k : Nat) (cs : List Value), k + j + vs.length ≤ cs.length → (vs.zipIdx j).foldl (fun c p => c.set (k + p.2) p.1) cs = cs.take (k + j) ++ vs ++ cs.drop (k + j + vs.length) := by
    intro vs
    induction vs with
    | nil => intro j k cs hl; simp
    | cons v vs ih =>
      intro j k cs hl
      simp only [lC] at hl
      rw [List.zipIdx_cons, List.foldl_cons, ih (j + 1) k _ (by rw [lS]; omega)]
      rw [List.set_eq_take_append_cons_drop, if_pos (by omega)]
      have h1 : (cs.take (k + j)).length = k + j := by rw [List.length_take]; omega
      have e1 : (cs.take (k + j) ++ v :: cs.drop (k + j + 1)).take (k + (j + 1)) = cs.take (k + j) ++ [v] := by
        rw [show k + (j + 1) = (cs.take (k + j)).length + 1 by omega, List.take_length_add_append]; rfl
      have e2 : (cs.take (k + j) ++ v :: cs.drop (k + j + 1)).drop (k + (j + 1) + vs.length) = cs.drop (k + j + (vs.length + 1)) := by
        rw [show k + (j + 1) + vs.length = (cs.take (k + j)).length + (vs.length + 1) by omega, ← List.drop_drop, List.drop_left, List.drop_succ_cons, List.drop_drop]
        congr 1; omega
      rw [e1, e2]
      simp
  intro vs k cs hl
  exact key vs 0 k cs (by omega)
def OpX (P : Program) (n : Nat) (w0 : World) (h0 : Mem) (o : Oper) (e : List (Nat × Value)) (R : List Res) (h : Mem) (F : Value → Prop) : Prop :=
  ∃ v, (∀ L' h', MLe h h' → (∀ r ∈ R, r ∈ L') → OpV P n w0 h0 o e L' h' v) ∧ F v
theorem xX {ops : Array Oper} {rest : List Oper} {d : Nat} {op : Op} {R : List Res} {F : Value → Prop} (hv : OpX P n w0 h0 ⟨some d, op, ty, ps, af, none⟩ e R h F) (hR : ∀ r ∈ R, r ∈ L) (hn : Nat.ble (d + 1) n = true)
    (k : ∀ v, F v → GL P n w0 h0 ops Q rest ((d, v) :: e) L h) : GL P n w0 h0 ops Q (⟨some d, op, ty, ps, af, none⟩ :: rest) e L h := by
  obtain ⟨v, hv, hF⟩ := hv
  exact xE (hv L h (MLe.refl h) hR) rfl rfl hn (k v hF)
section
variable {ops : Array Oper} {RR : List Res} {al : Als} {d i : Nat} {op : Op} {v : Value} {r : List (Nat × Kd)} {g t : Nat} {b : Bool}
theorem yP {R : List Res} {F : Value → Prop} (ho : ops.getD i default = ⟨some d, op, ty, ps, af, none⟩) (hv : OpX P n w0 h0 ⟨some d, op, ty, ps, af, none⟩ e R h F) (hR : ∀ r ∈ R, r ∈ RR) (hn : Nat.ble (d + 1) n = true)
    (k : ∀ v, F v → W P n w0 h0 ops Q RR al r ((d, v) :: e) L h) : W P n w0 h0 ops Q RR al ((i, .q) :: r) e L h := by
  obtain ⟨v, hv, hF⟩ := hv
  exact w_q ho (fun h' L' hh hr => hv L' h' hh fun r hr' => hr r (hR r hr')) hn (k v hF)
theorem w_qx_on {R : List Res} {F : Value → Prop} (ho : ops.getD i default = ⟨some d, op, ty, ps, af, some (g, b)⟩) (ht : (ops[g]?).bind (·.dst) = some t) (he : e.lookup t = some (.bool b)) (hv : OpX P n w0 h0 ⟨some d, op, ty, ps, af, none⟩ e R h F) (hR : ∀ r ∈ R, r ∈ RR) (hn : Nat.ble (d + 1) n = true)
    (k : ∀ v, F v → W P n w0 h0 ops Q RR al r ((d, v) :: e) L h) : W P n w0 h0 ops Q RR al ((i, .q) :: r) e L h := by
  obtain ⟨v, hv, hF⟩ := hv
  exact jA ho ht he (fun h' L' hh hr => hv L' h' hh fun r hr' => hr r (hR r hr')) hn (k v hF)
theorem s_x {W' : List (Nat × Value) → List Res → Mem → Prop} {R : List Res} {F : Value → Prop} (hv : OpX P n w0 h0 ⟨some d, op, ty, ps, af, none⟩ e R h F) (hR : ∀ r ∈ R, r ∈ L) (hn : Nat.ble (d + 1) n = true)
    (k : ∀ v, F v → W' ((d, v) :: e) L h) : jT P n w0 h0 ops RR ⟨some d, op, ty, ps, af, none⟩ e L h W' := by
  obtain ⟨v, hv, hF⟩ := hv
  exact s_val (fun X => hv (L ++ X) h (MLe.refl h) fun r hr => List.mem_append_left _ (hR r hr)) hn (k v hF)
end
theorem vQ {L : List Res} : ∀ r ∈ ([] : List Res), r ∈ L := fun r hr => by cases hr
theorem yD {L : List Res} {r : Res} (hr : r ∈ L) : ∀ x ∈ [r], x ∈ L := fun x hx => by cases hx with | head => exact hr | tail _ h => cases h
theorem part_x {E : TypeId} {σ : Rp β} {cs : List Value} {off : Nat} {y : β} (T : TyOk P E σ.n σ.agg) (r : σ.R h ((cs.drop off).take σ.n) y) (w : World) : (part E cs.toArray off).run P w = .ok (σ.val ((cs.drop off).take σ.n)) w := by
  simp only [part, Sem.run_bind, T.ag, Result.andThen_ok]
  unfold Rp.val
  cases ha : σ.agg with
  | true => simp [Sem.run_bind, T.sz, List.extract_toArray, List.extract_eq_take_drop, List.take_drop]
  | false =>
    obtain ⟨c, hc, _⟩ := Rp.single r ha
    rw [hc]
    have h1 : cs[off]? = some c := by
      have h2 : ((cs.drop off).take σ.n)[0]? = some c := by rw [hc]; rfl
      rw [List.getElem?_take] at h2
      split at h2
      · rw [List.getElem?_drop] at h2; simpa using h2
      · cases h2
    simp [h1]
theorem ox_index {t E : TypeId} {x y : Operand} {m off : Nat} {q : Int} {v : Value} {ρ : Rp α} {σ : Rp β} {g : α → β} {s : α → β → α} {X : α} {Z : β} (i : Nat) (ht : P.underlying t = some (.array m E)) (T : TyOk P E σ.n σ.agg) (pc : Pc ρ off σ g s) (ho : i * σ.n = off) (ha : ρ.agg = true) (hx : yG e x = some v) (hy : yG e y = some (vI q))
    (r : ρ.Is h v X) (hq : q = (i : Int)) (hi : i < m) (hZ : g X = Z) : OpX P n w0 h0 ⟨ds, .index t x y, ty, ps, af, gd⟩ e [] h (fun u => σ.Is h u Z) := by
  subst hZ
  obtain ⟨cs, r, rfl⟩ := r
  subst ho; subst hq
  have h1 := pc.get r
  refine ⟨_, fun L' h' _ _ a w Ev S => ?_, _, h1, rfl⟩
  have hv : ρ.val cs = .agg cs.toArray := by unfold Rp.val; rw [ha]; rfl
  rw [hv] at hx
  simp [execOp, Ev.eval hx, Ev.eval hy, Instr.index, vI, asIntOf, run_underlying ht, T.sz, hi, part_x T h1]
theorem load_run {t : TypeId} {σ : Rp β} {cs : List Value} {y : β} {w : World} {b o : Nat} (T : TyOk P t σ.n σ.agg) (r : σ.R h cs y) (hc : w.rangeAt b o cs) : (Instr.loadAt t (vP b o)).run P w = .ok (σ.val cs) w := by
  have hlen := σ.len r
  simp only [Instr.loadAt, Instr.sureAddr, loadVar, Sem.run_bind, T.ag, Result.andThen_ok, Sem.run_pure]
  unfold Rp.val
  cases ha : σ.agg with
  | true =>
    have hl : (loadCells ⟨b, o, none⟩ cs.length).run P w = .ok cs.toArray w := run_loadCells_list (P := P) w ⟨b, o, none⟩ cs (fun j v hv => by rw [Addr.add_mid]; exact hc j v hv)
    rw [hlen] at hl
    simp [Sem.run_bind, T.sz, hl]
  | false =>
    obtain ⟨c, rfl, _⟩ := Rp.single r ha
    have := hc 0 c rfl
    simp only [Nat.add_zero] at this
    simp [Go.load, Sem.run, this]
theorem zE {t E : TypeId} {x : Operand} {b k off : Nat} {cs : List Value} {ρ : Rp α} {σ : Rp β} {g : α → β} {s : α → β → α} {X : α} {Z : β} (T : TyOk P t σ.n σ.agg) (pc : Pc ρ off σ g s) (ho : k = off) (hx : yG e x = some (vP b k)) (r : ρ.R h cs X) (hZ : g X = Z) :
    OpX P n w0 h0 ⟨ds, .load t x, ty, ps, af, gd⟩ e [.var b E cs] h (fun u => σ.Is h u Z) := by
  subst hZ
  subst ho
  have h1 := pc.get r
  refine ⟨_, fun L' h' _ hm a w Ev S => ?_, _, h1, rfl⟩
  have hw : w.heap[b]? = some (.cells cs.toArray E) := S.ok (.var b E cs) (hm _ (.head _))
  have hr := load_run (P := P) (w := w) T h1 (var_range hw k _ (by rw [σ.len h1]))
  simp [execOp, Ev.eval hx, hr]
def AtP (ρ : Rp α) (h : Mem) (p : Value) (X : α) : Prop := ∃ b o cs, p = vP b o ∧ ρ.R h cs X ∧ ∀ j u, cs[j]? = some u → cell h b (o + j) = some u
theorem vJ {t E : TypeId} {x y : Operand} {q : Int} {v : Value} {ρ : Rp α} {xs : List α} (d : α) (i : Nat) (ht : P.underlying t = some (.slice E)) (T : TyOk P E ρ.n ρ.agg) (hx : yG e x = some v) (hy : yG e y = some (vI q)) (r : (rpS ρ).Is h v xs) (hq : q = (i : Int)) (hi : i < xs.length) (hp : 0 < ρ.n) :
    OpX P n w0 h0 ⟨ds, .indexAddr t x y, ty, ps, af, gd⟩ e [] h (fun u => AtP ρ h u (xs.getD i d)) := by
  obtain ⟨cs, hs, hr⟩ := of_s r
  have hxi : xs[i]? = some (xs.getD i d) := by rw [List.getD_eq_getElem?_getD, List.getElem?_eq_getElem hi]; rfl
  have hg := hr.get hxi
  have hlen := hr.len
  have hm : i * ρ.n + ρ.n ≤ cs.length := by rw [hlen, ← Nat.succ_mul]; exact Nat.mul_le_mul_right _ hi
  refine ⟨xY ρ.n v i, fun L' h' hh _ => ov_index i ht T.sz hx hy (hs.mono hh) hq hi hp, ?_⟩
  have h0 : (cs[i * ρ.n + 0]?) = some (cs[i * ρ.n]'(by omega)) := by rw [Nat.add_zero, List.getElem?_eq_getElem]
  obtain ⟨b, o, e1, _⟩ := hs.cell h0
  refine ⟨b, o, _, e1, hg, fun j u hj => ?_⟩
  rw [List.getElem?_take] at hj
  split at hj
  · rw [List.getElem?_drop] at hj
    obtain ⟨b', o', e2, hc⟩ := hs.cell hj
    rw [e1] at e2
    simp only [Value.pointer.injEq, Option.some.injEq, Addr.mk.injEq] at e2
    rw [e2.1, e2.2.1]; exact hc
  · cases hj
theorem wG {t : TypeId} {x : Operand} {p : Value} {ρ : Rp α} {X : α} (T : TyOk P t ρ.n ρ.agg) (hx : yG e x = some p) (r : AtP ρ h p X) : OpX P n w0 h0 ⟨ds, .load t x, ty, ps, af, gd⟩ e [] h (fun u => ρ.Is h u X) := by
  obtain ⟨b, o, cs, rfl, r, hc⟩ := r
  refine ⟨_, fun L' h' hh _ a w Ev S => ?_, _, r, rfl⟩
  have hr := load_run (P := P) (w := w) T r (fun j u hj => cell_world (hh.trans S.sub) (hc j u hj))
  simp [execOp, Ev.eval hx, hr]
theorem wI {v : Value} {ρ : Rp α} {xs : List α} {t E : TypeId} {x : Operand} (ht : P.underlying t = some (.slice E)) (hx : yG e x = some v) (r : (rpS ρ).Is h v xs) :
    OpV P n w0 h0 ⟨ds, .call { callee := .builtin .len, args := #[x], argTypes := #[t] }, ty, ps, af, gd⟩ e L h (vI (xs.length : Int)) := ov_len_sl ht hx (s_one r)
theorem yJ {E t : TypeId} {b k off : Nat} {cs : List Value} {v : Value} {x y : Operand} {ρ : Rp α} {σ : Rp β} {g : α → β} {s : α → β → α} {X Z : α} {Y : β} (hsz : ∀ w, (Go.sizeOf t).run P w = .ok σ.n w) (pc : Pc ρ off σ g s) (ho : k = off) (hx : yG e x = some (vP b k)) (hy : yG e y = some v) (r : ρ.R h cs X) (ry : σ.Is h v Y) (hZ : s X Y = Z) :
    ∃ cs', ρ.R h cs' Z ∧ ∀ A B, Upd P n w0 h0 ⟨ds, .store t x y, ty, ps, af, gd⟩ e A (.var b E cs) B h (.var b E cs') := by
  subst hZ
  subst ho
  obtain ⟨vs, rv, hv⟩ := ry.cells
  have hl := σ.len rv
  have hlc := ρ.len r
  have hf := pc.fits
  refine ⟨putAt cs k vs, ?_, ?_⟩
  · rw [putAt_eq _ _ _ (by omega), hl]
    exact pc.set r rv
  · intro A B a w Ev S
    have hw : w.heap[b]? = some (.cells cs.toArray E) := S.ok (.var b E cs) (by simp)
    obtain ⟨h2, h3⟩ := setCells_var vs k cs w hw
    refine ⟨w.setCells b k vs, ?_, h3, h2⟩
    have hthere : w.there b k vs.length := by
      intro j hj
      have : k + j < cs.length := by omega
      refine ⟨?_, ?_⟩
      · unfold World.cell?
        simp [hw, this]
      · simp [World.frozen?, hw]
    have hrun := run_storeCells_cells (P := P) b k vs 0 w (fun j hj => by simpa using (hthere j hj).1) (fun j hj => by simpa using (hthere j hj).2) (fun u hu => List.all_eq_true.1 (σ.one rv) u hu)
    simp only [Nat.add_zero] at hrun
    simp [execOp, Ev.eval hx, Ev.eval hy, Instr.storeAt, Instr.sureAddr, storeVar, hsz, hv, hl, hrun]
theorem wW {ops : Array Oper} {rest : List Oper} {A B : List Res} {op : Op} {b : Nat} {E : TypeId} {cs : List Value} {F : List Value → Prop} (hv : ∃ cs', F cs' ∧ ∀ A B, Upd P n w0 h0 ⟨none, op, ty, ps, af, none⟩ e A (.var b E cs) B h (.var b E cs'))
    (k : ∀ cs', F cs' → GL P n w0 h0 ops Q rest e (A ++ .var b E cs' :: B) h) : GL P n w0 h0 ops Q (⟨none, op, ty, ps, af, none⟩ :: rest) e (A ++ .var b E cs :: B) h := by
  obtain ⟨cs', hF, hu⟩ := hv
  exact wY (hu A B) rfl rfl rfl (k cs' hF)
theorem xR {ops : Array Oper} {RR : List Res} {al : Als} {i : Nat} {r : List (Nat × Kd)} {A B : List Res} {op : Op} {b : Nat} {E : TypeId} {cs : List Value} {F : List Value → Prop} (ho : ops.getD i default = ⟨none, op, ty, ps, af, none⟩) (hv : ∃ cs', F cs' ∧ ∀ A B, Upd P n w0 h0 ⟨none, op, ty, ps, af, none⟩ e A (.var b E cs) B h (.var b E cs'))
    (k : ∀ cs', F cs' → W P n w0 h0 ops Q RR al r e (A ++ .var b E cs' :: B) h) : W P n w0 h0 ops Q RR al ((i, .t) :: r) e (A ++ .var b E cs :: B) h := by
  obtain ⟨cs', hF, hu⟩ := hv
  exact w_t_upd ho (hu A B) rfl (k cs' hF)
theorem s_updx {ops : Array Oper} {R : List Res} {W' : List (Nat × Value) → List Res → Mem → Prop} {A B : List Res} {op : Op} {b : Nat} {E : TypeId} {cs : List Value} {F : List Value → Prop} (hv : ∃ cs', F cs' ∧ ∀ A B, Upd P n w0 h0 ⟨none, op, ty, ps, af, none⟩ e A (.var b E cs) B h (.var b E cs'))
    (hR : ∀ r ∈ R, ∀ q', r ∈ A ++ .var b E cs :: B → r ∈ A ++ q' :: B) (k : ∀ cs', F cs' → W' e (A ++ .var b E cs' :: B) h) : jT P n w0 h0 ops R ⟨none, op, ty, ps, af, none⟩ e (A ++ .var b E cs :: B) h W' := by
  obtain ⟨cs', hF, hu⟩ := hv
  intro X a w Ev S
  have S1 : St w0 h0 (A ++ .var b E cs :: (B ++ X)) h w := by simpa using S
  unfold uX
  rw [if_pos (wn rfl)]
  obtain ⟨w', hr, hgr, hok⟩ := hu A (B ++ X) a w Ev S1
  rw [hr]
  refine ⟨fun d' hd => (by cases hd), A ++ .var b E cs' :: B, h, MLe.refl h, fun hh r hr => hR r hr _ (hh r hr), ?_, k cs' hF⟩
  have := S1.grown hgr hok fun b hb => .inl hb
  simpa using this
theorem yU {E : TypeId} {x : Operand} {v : Value} {ρ : Rp α} {X : α} (hx : yG e x = some v) (r : ρ.Is h v X) :
    NewOp P n w0 h0 ⟨ds, .box E x, ty, ps, af, gd⟩ e L h (fun u q => ∃ b cs, u = vP b 0 ∧ q = .var b E cs ∧ ρ.R h cs X) := by
  obtain ⟨cs, rc, hc⟩ := r.cells
  intro a w Ev S
  obtain ⟨v', w', q, h1, h2, h3, h4, b, h5, h6⟩ := wZ (n := n) (ds := ds) (ty := ty) (ps := ps) (af := af) (gd := gd) (L := L) (E := E) hx hc a w Ev S
  exact ⟨v', w', q, h1, h2, h3, h4, b, cs, h5, h6, rc⟩
theorem yR {E : TypeId} {i : TypeInfo} {z : Value} {cs : List Value} {ρ : Rp α} {X : α} (hi : P.info? E = some i) (hz : i.zero = some z) (hc : z.cells = cs.toArray) (r : ρ.R h cs X) :
    NewOp P n w0 h0 ⟨ds, .alloc E, ty, ps, af, gd⟩ e L h (fun u q => ∃ b cs, u = vP b 0 ∧ q = .var b E cs ∧ ρ.R h cs X) := by
  intro a w Ev S
  obtain ⟨v', w', q, h1, h2, h3, h4, b, h5, h6⟩ := vV (n := n) (ds := ds) (ty := ty) (ps := ps) (af := af) (gd := gd) (e := e) (L := L) (h := h) hi hz hc a w Ev S
  exact ⟨v', w', q, h1, h2, h3, h4, b, cs, h5, h6, r⟩
def FillX (ρ : Rp α) (h : Mem) (place : Nat → Option (Nat × Nat)) (X : α) (parts : List (Nat × Value)) (X' : α) : Prop :=
  ∀ cs, ρ.R h cs X → ∃ cs', ρ.R h cs' X' ∧ Instr.fill place cs.toArray parts = some cs'.toArray
theorem wH {ρ : Rp α} {place : Nat → Option (Nat × Nat)} {X : α} : FillX ρ h place X [] X := fun cs r => ⟨cs, r, rfl⟩
theorem yZ {ρ : Rp α} {σ : Rp β} {place : Nat → Option (Nat × Nat)} {X X' : α} {Y : β} {i off : Nat} {v : Value} {rest : List (Nat × Value)} {g : α → β} {s : α → β → α} (hp : place i = some (off, σ.n)) (pc : Pc ρ off σ g s) (ry : σ.Is h v Y) (k : FillX ρ h place (s X Y) rest X') : FillX ρ h place X ((i, v) :: rest) X' := by
  intro cs r
  obtain ⟨vs, rv, hv⟩ := ry.cells
  have hl := σ.len rv
  have hlc := ρ.len r
  have hf := pc.fits
  obtain ⟨cs', r', e'⟩ := k _ (pc.set r rv)
  refine ⟨cs', r', ?_⟩
  have e1 : cs = cs.take off ++ (cs.drop off).take σ.n ++ cs.drop (off + σ.n) := by
    rw [List.append_assoc, ← List.drop_drop, List.take_append_drop, List.take_append_drop]
  rw [e1]
  exact vD hp (by rw [List.length_take]; omega) (by rw [List.length_take, List.length_drop]; omega) hl hv e'
theorem ox_build {t : TypeId} {i : TypeInfo} {z : Value} {zs : List Value} {fs : Array Field} {places : Array (Nat × Nat)} {parts : List (Nat × Operand)} {ps' : List (Nat × Value)} {ρ : Rp α} {X X' : α} (ht : P.underlying t = some (.struct fs)) (hi : P.info? t = some i) (hz : i.zero = some z) (hzc : z.cells = zs.toArray)
    (hpl : ∀ w, (fs.mapM fun (f : Field) => do pure (f.offset, ← Go.sizeOf f.type)).run P w = .ok places w) (hp : PartsV e parts ps') (ha : ρ.agg = true) (rz : ρ.R h zs X) (hf : FillX ρ h (places[·]?) X ps' X') :
    OpX P n w0 h0 ⟨ds, .build t parts.toArray, ty, ps, af, gd⟩ e [] h (fun u => ρ.Is h u X') := by
  obtain ⟨cs', r', e'⟩ := hf zs rz
  refine ⟨.agg cs'.toArray, fun L' h' _ _ => wK ht hi hz hpl hp (by rw [hzc]; exact e'), cs', r', ?_⟩
  unfold Rp.val; rw [ha]; rfl
theorem wP {t E : TypeId} {m sz : Nat} {i : TypeInfo} {z : Value} {zs : List Value} {parts : List (Nat × Operand)} {ps' : List (Nat × Value)} {ρ : Rp α} {X X' : α} (ht : P.underlying t = some (.array m E)) (hi : P.info? t = some i) (hz : i.zero = some z) (hzc : z.cells = zs.toArray)
    (hsz : ∀ w, (Go.sizeOf E).run P w = .ok sz w) (hp : PartsV e parts ps') (ha : ρ.agg = true) (rz : ρ.R h zs X) (hf : FillX ρ h (fun i => some (i * sz, sz)) X ps' X') :
    OpX P n w0 h0 ⟨ds, .build t parts.toArray, ty, ps, af, gd⟩ e [] h (fun u => ρ.Is h u X') := by
  obtain ⟨cs', r', e'⟩ := hf zs rz
  refine ⟨.agg cs'.toArray, fun L' h' _ _ => ov_build_arr ht hi hz hsz hp (by rw [hzc]; exact e'), cs', r', ?_⟩
  unfold Rp.val; rw [ha]; rfl
theorem jM {R R' : Mem → Value → Prop} (k : ∀ h r, R h r → R' h r) (x : Ending) (w : World) (s : Ret w0 h0 R x w) : Ret w0 h0 R' x w := by
  obtain ⟨v, h, e, r, S⟩ := s
  exact ⟨v, h, e, k h v r, S⟩
theorem Rp.castR {ρ : Rp α} {cs : List Value} {x y : α} (r : ρ.R h cs x) (e : x = y) : ρ.R h cs y := e ▸ r
theorem Rp.R.mono {ρ : Rp α} {h' : Mem} {cs : List Value} {x : α} (r : ρ.R h cs x) (hh : MLe h h') : ρ.R h' cs x := Rp.mono ρ hh r
theorem rv_o {t : Nat} {T E : TypeId} {b : Nat} {cs : List Value} {ρ : Rp α} {X : α} (tok : TyOk P T ρ.n ρ.agg) (hm : .var b E cs ∈ L) (hx : yG e (.tmp t) = some (vP b 0)) (r : ρ.R h cs X) : ∃ v, RV P n w0 h0 (.cell t T) e L h v ∧ ρ.Is h v X := by
  refine ⟨ρ.val cs, ?_, cs, r, rfl⟩
  intro a w Ev S
  have hw : w.heap[b]? = some (.cells cs.toArray E) := S.ok _ hm
  have := Ev.eval hx
  simp only [Act.eval] at this
  have h2 := load_run (P := P) tok r (var_range hw 0 cs (by simp))
  simp only [Instr.loadAt, Instr.sureAddr, Sem.run_bind, Sem.run_pure, Result.andThen_ok] at h2
  simp [resRun, this, asAddr, h2]
theorem uZ {r : ResultVar} {F : Value → Prop} {x : Exit} (s : ∃ v, RV P n w0 h0 r e L h v ∧ F v) (k : ∀ v, RV P n w0 h0 r e L h v → F v → GQ n w0 h0 Q x e L h) : GQ n w0 h0 Q x e L h := by
  obtain ⟨v, a, b⟩ := s
  exact k v a b
end
end Bk
namespace Bk
set_option linter.unusedVariables false
set_option linter.unusedSimpArgs false
open Go Go.RowKit
open Classical
section
variable {P : Program} {n : Nat} {w0 : World} {h0 : Mem} {e : List (Nat × Value)} {L : List Res} {h : Mem} {Q : Exit → Act → World → Prop}
variable {ds : Option Tmp} {ty : TypeId} {ps : String} {af : Array Edge} {gd : Option (Nat × Bool)}
abbrev vF (f : Nat) (cap : List Value) : Value := .func (.func f) #[] cap.toArray
def Enters (P : Program) (n : Nat) (o : Oper) (e : List (Nat × Value)) (f : Nat) (args : Array Value) : Prop := ∀ a w, Env n e a → (execOp a.eval o).run P w = .ok (.enter f args) w
theorem kE {x : Operand} {f : Nat} {cap : List Value} {xs : List Operand} {ts : Array TypeId} {vs : List Value} (hcall : ∀ args w, (callFunc f args).run P w = .ok (.enter f args) w) (hx : yG e x = some (vF f cap)) (hvs : Evals e xs vs) :
    Enters P n ⟨ds, .call { callee := .value x, args := xs.toArray, argTypes := ts }, ty, ps, af, gd⟩ e f (vs ++ cap).toArray := by
  intro a w Ev
  have hargs : xs.toArray.map a.eval = vs.toArray := by rw [List.map_toArray, Ev.evals hvs]
  simp only [execOp, resolve, Ev.eval hx]
  simp [Deferred.ofValue, invoke, hcall, hargs]
theorem gl_enter {ops : Array Oper} {rest : List Oper} {o : Oper} {d f : Nat} {args : Array Value} {R : Mem → Value → Prop} (he : Enters P n o e f args) (hg : o.guard = none) (hd : o.dst = some d) (hn : Nat.ble (d + 1) n = true)
    (hc : ∀ w, MLe h (mem w) → Calls P f args w (Ret w h R)) (k : ∀ v h', MLe h h' → R h' v → GL P n w0 h0 ops Q rest ((d, v) :: e) L h') : GL P n w0 h0 ops Q (o :: rest) e L h := by
  intro a w E S
  refine wpList_plain hg fun K hK => ?_
  unfold Oper.wp
  rw [he a w E, Oper.upon_enter]
  refine (hc w S.sub).mono ?_
  rintro e' w' ⟨v, h', rfl, hR, S'⟩
  have S2 := S.call S'
  rw [hd]
  exact hK _ _ (k v h' S'.le hR _ _ (E.put (Nat.le_of_ble_eq_true hn)) S2)
theorem vW {R A B : List Res} {q : Res} (hR : ∀ r ∈ R, r ∈ A ++ B) : ∀ r ∈ R, r ∈ A ++ q :: B → r ∈ A ++ B := fun r hr _ => hR r hr
section
variable {ops : Array Oper} {R : List Res} {d : Nat} {op : Op}
theorem s_enter {W' : List (Nat × Value) → List Res → Mem → Prop} {f : Nat} {args : Array Value} {R' : Mem → Value → Prop} (he : Enters P n ⟨some d, op, ty, ps, af, none⟩ e f args) (hn : Nat.ble (d + 1) n = true)
    (hc : ∀ w, MLe h (mem w) → Calls P f args w (Ret w h R')) (k : ∀ v h', MLe h h' → R' h' v → W' ((d, v) :: e) L h') : jT P n w0 h0 ops R ⟨some d, op, ty, ps, af, none⟩ e L h W' := by
  intro X a w E S
  unfold uX
  rw [if_pos (wn rfl), he a w E]
  refine (hc w S.sub).mono ?_
  rintro e' w' ⟨v, h', rfl, hR, S'⟩
  have S2 : St w0 h0 (L ++ X) h' w' := S.call S'
  exact ⟨v, rfl, fun d' hd => (by cases hd; exact Nat.le_of_ble_eq_true hn), L, h', S'.le, fun hh => hh, S2, k v h' S'.le hR⟩
end
end
end Bk
namespace Bk
set_option linter.unusedVariables false
set_option linter.unusedSimpArgs false
open Go Go.RowKit
open Classical
section
variable {α β γ : Type}
variable {P : Program} {n : Nat} {w0 : World} {h0 : Mem} {e : List (Nat × Value)} {L : List Res} {h : Mem} {Q : Exit → Act → World → Prop}
variable {ds : Option Tmp} {ty : TypeId} {ps : String} {af : Array Edge} {gd : Option (Nat × Bool)}
theorem St.nilown {w : World} (s : St w0 h0 L h w) (E k : Nat) : St w0 h0 (.gs E k (.slice none 0 0) 0 [] :: L) h w := by
  refine ⟨s.below, s.le, s.sub, s.fresh, ?_, ?_, ?_⟩
  · intro r hr
    rcases List.mem_cons.1 hr with rfl | hr
    · exact World.ownsRow_nil w _ E k
    · exact s.ok r hr
  · intro r hr b hb
    rcases List.mem_cons.1 hr with rfl | hr
    · simp [Res.fp, Value.ownBlock] at hb
    · exact s.own r hr b hb
  · refine List.pairwise_cons.2 ⟨fun r hr b hb => ?_, s.apart⟩
    simp [Res.fp, Value.ownBlock] at hb
theorem gc_nilown {c : Code} (E k : Nat) (g : GC P n w0 h0 c Q e (.gs E k (.slice none 0 0) 0 [] :: L) h) : GC P n w0 h0 c Q e L h := fun a w Ev S => g a w Ev (S.nilown E k)
theorem gl_nilown {ops : Array Oper} {l : List Oper} (E k : Nat) (g : GL P n w0 h0 ops Q l e (.gs E k (.slice none 0 0) 0 [] :: L) h) : GL P n w0 h0 ops Q l e L h := fun a w Ev S => g a w Ev (S.nilown E k)
theorem made_list (a : List Value) (m : Nat) : (madeCells a.toArray (m * a.length)).toList = (List.replicate m a).flatten := by
  unfold madeCells
  rw [Array.toList_map, Array.toList_range]
  induction m with
  | zero => simp
  | succ m ih =>
    rw [Nat.succ_mul, Nat.add_comm, List.range_add, List.map_append, List.map_map, List.replicate_succ, List.flatten_cons, ← ih]
    congr 1
    · apply List.ext_getElem?
      intro j
      by_cases hj : j < a.length
      · simp [hj, Nat.mod_eq_of_lt hj]
      · simp [hj]
    · apply List.map_congr_left
      intro j _
      simp
theorem rl_zero {ρ : Rp α} {a : List Value} {x : α} (m : Nat) (r : ρ.R h a x) : RL ρ h (madeCells a.toArray (m * ρ.n)).toList (List.replicate m x) := by
  rw [← ρ.len r, made_list]
  exact (zr_a (h := h) m r).2
theorem new_makex {t E : TypeId} {i : TypeInfo} {z : Value} {zs : List Value} {x y : Operand} {q q' : Int} {by' : Nat} {ρ : Rp α} {X : α} (m : Nat) (ht : P.underlying t = some (.slice E)) (hi : P.info? E = some i) (hz : i.zero = some z) (hzc : z.cells = zs.toArray) (hsize : i.size = ρ.n) (hby : i.bytes = by') (rz : ρ.R h zs X)
    (hx : yG e x = some (vI q)) (hy : yG e y = some (vI q')) (hq : q = (m : Int)) (hq' : q' = (m : Int)) (hb : by' * m ≤ 281474976710656) (hm : m < 9223372036854775808) :
    NewOp P n w0 h0 ⟨ds, .makeSlice t x y, ty, ps, af, gd⟩ e L h (fun v r => ∃ cs, r = .gs E ρ.n v (List.replicate m X).length cs ∧ RL ρ h cs (List.replicate m X)) := by
  subst hq; subst hq'; subst hby
  intro a w Ev S
  obtain ⟨w', hr, hown, hgr⟩ := run_make_full (P := P) w w0.heap.size t E i z ρ.n ht hi hz hsize .i64 .i64 m hb (by unfold maxLen; omega) S.below.size
  rw [hzc] at hown
  refine ⟨_, w', .gs E ρ.n (.slice (some ⟨w.heap.size, 0, none⟩) m m) m (madeCells zs.toArray (m * ρ.n)).toList, ?_, hgr, hown, fun b hb => ?_, _, by rw [lR], rl_zero m rz⟩
  · simp only [execOp, Ev.eval hx, Ev.eval hy, vI]
    simp [hr]
  · simp only [Res.fp, Value.ownBlock, Option.some.injEq] at hb
    omega
theorem wA {t E : TypeId} {i : TypeInfo} {z : Value} {zs : List Value} {parts : List (Nat × Operand)} {ps' : List (Nat × Value)} {m : Nat} {ρ : Rp α} {X : α} {xs : List α} (ht : P.underlying t = some (.slice E)) (hi : P.info? E = some i) (hz : i.zero = some z) (hzc : z.cells = zs.toArray) (hsize : i.size = ρ.n) (rz : ρ.R h zs X)
    (hp : PartsV e parts ps') (hf : FillX (rpA m ρ) h (fun i => some (i * ρ.n, ρ.n)) (List.replicate m X) ps' xs) (hm : m * ρ.n ≤ 16777216) (hn : 0 < ρ.n) :
    NewOp P n w0 h0 ⟨ds, .buildSlice t m parts.toArray, ty, ps, af, gd⟩ e L h (fun v r => ∃ cs, r = .gs E ρ.n v xs.length cs ∧ RL ρ h cs xs) := by
  obtain ⟨cs, ⟨hlen, hrl⟩, hfill⟩ := hf (madeCells zs.toArray (m * ρ.n)).toList ⟨List.length_replicate, rl_zero m rz⟩
  have hcl := hrl.len
  rw [hlen] at hcl
  intro a w Ev S
  have hpa : (parts.toArray.map fun (p : Nat × Operand) => (p.1, a.eval p.2)).toList = ps' := by
    rw [List.map_toArray]
    exact hp.eval Ev
  refine ⟨.slice (some ⟨w.heap.size, 0, none⟩) m m, w.alloc (.cells cs.toArray E), .gs E ρ.n (.slice (some ⟨w.heap.size, 0, none⟩) m m) m cs, ?_, World.grownBy_alloc w _ none, ?_, fun b hb => ?_, cs, by rw [hlen], hrl⟩
  · have h24 : ¬ (m * ρ.n > 16777216) := by omega
    simp only [execOp, Instr.buildSlice]
    rw [show (parts.toArray.map fun (i, x) => (i, a.eval x)).toList = ps' from hpa]
    have hz' : (zeroValue E).run P w = .ok z w := by simp [zeroValue, typeInfo, hi, hz]
    have hfill' : Instr.fill (fun i => some (i * ρ.n, ρ.n)) (madeCells zs.toArray (m * ρ.n)) ps' = some cs.toArray := by
      simpa using hfill
    have hszE : ∀ w, (Go.sizeOf E).run P w = .ok ρ.n w := fun w => by simp [Go.sizeOf, typeInfo, hi, hsize]
    by_cases h0 : m * ρ.n = 0
    · rw [h0] at hfill'
      simp only [madeCells, Array.range_zero', Array.map_empty] at hfill'
      simp [run_underlying ht, hszE, newRow, newObj, Sem.run, h0, Array.range_zero', hfill']
    · unfold madeCells at hfill'
      simp only [List.size_toArray, List.getElem!_toArray, List.getElem!_eq_getElem?_getD] at hfill'
      simp [run_underlying ht, hszE, h0, h24, hz', hzc, hfill', newRow, newObj, Sem.run]
  · have := World.ownsRow_lit (w := w) (base := w0.heap.size) (e := E) (size := ρ.n) cs.toArray m S.below.size (by unfold maxLen; have := Nat.le_mul_of_pos_right m hn; omega) (by simpa using hcl)
    exact this
  · simp only [Res.fp, Value.ownBlock, Option.some.injEq] at hb
    omega
theorem xK {A B : List Res} {t E : TypeId} {i : TypeInfo} {z : Value} {bytes : Nat} {v v' : Value} {cs : List Value} {x y : Operand} {ρ : Rp α} {xs ys : List α} (ht : P.underlying t = some (.slice E)) (hi : P.info? E = some i) (hz : i.zero = some z) (hsize : i.size = ρ.n) (hby : i.bytes = bytes)
    (hzs : z.cells.size = ρ.n) (hk : 0 < ρ.n) (hx : yG e x = some v) (hy : yG e y = some v') (r : RL ρ h cs xs) (hv' : (rpS ρ).Is h v' ys) (hlen : xs.length + ys.length < 9223372036854775808) (hb' : (xs.length + ys.length) * bytes ≤ 140737488355328) :
    RepOp P n w0 h0 ⟨ds, .call { callee := .builtin .append, args := #[x, y], argTypes := #[t, t] }, ty, ps, af, gd⟩ e A (.gs E ρ.n v xs.length cs) B h (fun u r' => ∃ cs', r' = .gs E ρ.n u (xs ++ ys).length cs' ∧ RL ρ h cs' (xs ++ ys)) := by
  obtain ⟨cs2, hs, r2⟩ := of_s hv'
  intro a w Ev S
  obtain ⟨u, w', r', h1, h2, h3, h4, h5⟩ := rep_append (A := A) (B := B) (v := v) (cs := cs) (m := xs.length) (ds := ds) (ty := ty) (ps := ps) (af := af) (gd := gd) ht hi hz hsize hby hzs hk hx hy hs (fun u hu => List.all_eq_true.1 r2.one u hu) hlen hb' a w Ev S
  exact ⟨u, w', r', h1, h2, h3, h4, cs ++ cs2, by rw [h5, lAz], r.append r2⟩
theorem own_sl {E k m : Nat} {v : Value} {cs : List Value} {w : World} (hm : .gs E k v m cs ∈ L) (S : St w0 h0 L h w) : Sl (mem w) k v m cs := by
  obtain ⟨A, B, rfl⟩ := List.append_of_mem hm
  exact own_cell S
theorem osP_eq (k : Nat) (v : Value) (i : Nat) : xY k v i = xY 1 v (i * k) := by
  unfold xY
  rw [Nat.mul_one]
theorem ov_len_os {E k m : Nat} {v : Value} {cs : List Value} {t E' : TypeId} {x : Operand} (hm : .gs E k v m cs ∈ L) (ht : P.underlying t = some (.slice E')) (hx : yG e x = some v) :
    OpV P n w0 h0 ⟨ds, .call { callee := .builtin .len, args := #[x], argTypes := #[t] }, ty, ps, af, gd⟩ e L h (vI (m : Int)) :=
  fun a w Ev S => ov_len_sl (L := L) (h := h) ht hx (own_sl hm S).one a w Ev S
theorem qE {E m k : Nat} {cs : List Value} {v : Value} {t E' : TypeId} {x y : Operand} {q : Int} (i : Nat) (hm : .gs E k v m cs ∈ L) (ht : P.underlying t = some (.slice E')) (hsz : ∀ w, (Go.sizeOf E').run P w = .ok k w) (hx : yG e x = some v) (hy : yG e y = some (vI q))
    (hq : q = (i : Int)) (hi : i < m) (hk : 0 < k) : OpV P n w0 h0 ⟨ds, .indexAddr t x y, ty, ps, af, gd⟩ e L h (xY 1 v (i * k)) := by
  intro a w Ev S
  have S' : St w (mem w) [] (mem w) w := St.begin (MLe.refl _)
  rw [← osP_eq]
  exact ov_index (n := n) (w0 := w) (h0 := mem w) (L := []) (h := mem w) i ht hsz hx hy (own_sl hm S) hq hi hk a w Ev S'
theorem sl_range {k m o l : Nat} {v : Value} {cs : List Value} {w : World} (s : Sl (mem w) k v m cs) (hl : 0 < l) (ho : o + l ≤ cs.length) : ∃ b o', xY 1 v o = vP b (o' + o) ∧ v = .slice (some ⟨b, o', none⟩) m (match v with | .slice _ _ c => c | _ => 0) ∧ w.rangeAt b (o' + o) ((cs.drop o).take l) := by
  obtain ⟨a, cap, rfl, h1, h2, h3, h4⟩ := s
  obtain ⟨b, o', rfl, _⟩ := h4 o (by omega)
  refine ⟨b, o', by simp [xY, kG], rfl, ?_⟩
  intro j u hj
  rw [List.getElem?_take] at hj
  split at hj
  · rw [List.getElem?_drop] at hj
    obtain ⟨hlt, _⟩ := List.getElem?_eq_some_iff.1 hj
    obtain ⟨b2, o2, e2, hc⟩ := h4 _ hlt
    simp only [Option.some.injEq, Addr.mk.injEq, and_true] at e2
    obtain ⟨rfl, rfl⟩ := e2
    rw [hj] at hc
    have := cell_world (MLe.refl _) hc
    rwa [← Nat.add_assoc] at this
  · cases hj
theorem kJ {t E : TypeId} {x : Operand} {k off : Nat} {cs : List Value} {v : Value} {ρ : Rp α} {σ : Rp β} {g : List α → β} {s : List α → β → List α} {xs : List α} {Z : β} (T : TyOk P t σ.n σ.agg) (pc : Pc (rpA xs.length ρ) off σ g s) (ho : k = off) (hp : 0 < σ.n) (hx : yG e x = some (xY 1 v k)) (r : RL ρ h cs xs) (hZ : g xs = Z) :
    OpX P n w0 h0 ⟨ds, .load t x, ty, ps, af, gd⟩ e [.gs E ρ.n v xs.length cs] h (fun u => σ.Is h u Z) := by
  subst hZ; subst ho
  have h1 := pc.get (h := h) ⟨rfl, r⟩
  have hf : k + σ.n ≤ xs.length * ρ.n := pc.fits
  have hl := r.len
  refine ⟨_, fun L' h' _ hm a w Ev S => ?_, _, h1, rfl⟩
  obtain ⟨b, o', e1, _, hr⟩ := sl_range (own_sl (hm (.gs E ρ.n v xs.length cs) (.head _)) S) hp (show k + σ.n ≤ cs.length by omega)
  rw [e1] at hx
  have := load_run (P := P) (w := w) T h1 hr
  simp [execOp, Ev.eval hx, this]
theorem owns_setCells {base E k g cap m : Nat} : ∀ (vs : List Value) (off : Nat) (cs : List Value) (w : World), w.ownsRow base E k (.slice (some ⟨g, 0, none⟩) m cap) m cs →
    (w.setCells g off vs).ownsRow base E k (.slice (some ⟨g, 0, none⟩) m cap) m (putAt cs off vs) ∧ w.grownBy (w.setCells g off vs) (some g)
  | [], off, cs, w, hw => ⟨hw, ⟨rfl, rfl, rfl, Nat.le_refl _, fun _ _ _ => rfl⟩⟩
  | v :: r, off, cs, w, hw => by
    obtain ⟨h1, h2⟩ := hw.stored off v
    obtain ⟨h3, h4⟩ := owns_setCells r (off + 1) (cs.set off v) _ h1
    have e1 : putAt cs off (v :: r) = putAt (cs.set off v) (off + 1) r := by
      unfold putAt
      rw [List.zipIdx_cons, List.foldl_cons, Nat.add_zero, List.zipIdx_succ, List.foldl_map]
      congr 1
      funext c p
      rw [show off + (p.2 + 1) = off + 1 + p.2 by omega]
    refine ⟨by rw [World.setCells, e1]; exact h3, ?_⟩
    refine ⟨h4.os.trans h2.os, h4.tape.trans h2.tape, h4.output.trans h2.output, Nat.le_trans h2.size h4.size, ?_⟩
    intro b' hb' hne
    have h5 := h2.block b' hb' hne
    have h6 := h4.block b' (Nat.lt_of_lt_of_le hb' h2.size) hne
    rw [World.setCells, h6, h5]
theorem upd_os {E t : TypeId} {k off : Nat} {cs : List Value} {u v : Value} {x y : Operand} {ρ : Rp α} {σ : Rp β} {g : List α → β} {s : List α → β → List α} {xs Z : List α} {Y : β} (hsz : ∀ w, (Go.sizeOf t).run P w = .ok σ.n w) (pc : Pc (rpA xs.length ρ) off σ g s) (ho : k = off) (hp : 0 < σ.n) (hx : yG e x = some (xY 1 v k)) (hy : yG e y = some u) (r : RL ρ h cs xs) (ry : σ.Is h u Y) (hZ : s xs Y = Z) :
    ∃ cs', RL ρ h cs' Z ∧ ∀ A B, Upd P n w0 h0 ⟨ds, .store t x y, ty, ps, af, gd⟩ e A (.gs E ρ.n v xs.length cs) B h (.gs E ρ.n v Z.length cs') := by
  subst hZ; subst ho
  obtain ⟨vs, rv, hv⟩ := ry.cells
  have hl := σ.len rv
  have hlc := r.len
  have hf : k + σ.n ≤ xs.length * ρ.n := pc.fits
  obtain ⟨hZl, hZr⟩ := pc.set (h := h) ⟨rfl, r⟩ rv
  refine ⟨putAt cs k vs, ?_, ?_⟩
  · rw [putAt_eq _ _ _ (by omega), hl]
    exact hZr
  · intro A B a w Ev S
    rw [hZl]
    have hok : w.ownsRow w0.heap.size E ρ.n v xs.length cs := S.ok (.gs E ρ.n v xs.length cs) (by simp)
    have hok' := hok
    obtain ⟨_, hr⟩ := hok
    rcases hr with ⟨rfl, hm0⟩ | ⟨b, cap, cur, rfl, hbg, hg, hnc, hcm, hcs, htake⟩
    · rw [hm0] at hf; omega
    · have hpx : xY 1 (.slice (some ⟨b, 0, none⟩) xs.length cap) k = vP b k := by simp [xY, kG]
      rw [hpx] at hx
      obtain ⟨h1, h2⟩ := owns_setCells vs k cs w hok'
      refine ⟨w.setCells b k vs, ?_, h2, h1⟩
      have hrun := run_storeCells_cells (P := P) b k vs 0 w (fun j hj => by
          have h4 := hok'.cellAt (k + j) (by omega)
          rw [List.getElem?_eq_getElem (by omega)] at h4
          simp [h4]) (fun j hj => by simpa using hok'.frozenAt (k + j)) (fun u hu => List.all_eq_true.1 (σ.one rv) u hu)
      simp only [Nat.add_zero] at hrun
      simp [execOp, Ev.eval hx, Ev.eval hy, Instr.storeAt, Instr.sureAddr, storeVar, hsz, hv, hl, hrun]
section
variable {A B : List Res} {op : Op} {E k m : Nat} {v : Value} {cs : List Value} {F : Nat → List Value → Prop}
theorem gl_updos {ops : Array Oper} {rest : List Oper} {m' : Nat} {F : List Value → Prop} (hv : ∃ cs', F cs' ∧ ∀ A B, Upd P n w0 h0 ⟨none, op, ty, ps, af, none⟩ e A (.gs E k v m cs) B h (.gs E k v m' cs'))
    (kk : ∀ cs', F cs' → GL P n w0 h0 ops Q rest e (A ++ .gs E k v m' cs' :: B) h) : GL P n w0 h0 ops Q (⟨none, op, ty, ps, af, none⟩ :: rest) e (A ++ .gs E k v m cs :: B) h := by
  obtain ⟨cs', hF, hu⟩ := hv
  exact wY (hu A B) rfl rfl rfl (kk cs' hF)
end
theorem St.freezex {A B : List Res} {E : Nat} {v : Value} {cs : List Value} {ρ : Rp α} {xs : List α} {w : World} (r : RL ρ h cs xs) (S : St w0 h0 (A ++ .gs E ρ.n v xs.length cs :: B) h w) : ∃ h', MLe h h' ∧ (rpS ρ).Is h' v xs ∧ St w0 h0 (A ++ B) h' w := by
  have hok := S.ok (.gs E ρ.n v xs.length cs) (by simp)
  have hok' := hok
  obtain ⟨hl, hr⟩ := hok
  rcases hr with ⟨rfl, hm0⟩ | ⟨g, cap, cur, rfl, hb, hg, hn, hm, hcs, ht⟩
  · have hx0 : xs = [] := List.eq_nil_of_length_eq_zero hm0
    subst hx0
    exact ⟨h, MLe.refl h, is_nil h, S.drop⟩
  · obtain ⟨S', hle⟩ := S.freeze (b := g) (o := .cells cur E (0, 0)) rfl hg
    refine ⟨_, hle, is_s ⟨_, cap, rfl, hn, hm, hl, fun i hi => ⟨g, 0, rfl, ?_⟩⟩ (r.mono hle), S'⟩
    unfold cell
    simp only [if_true, Nat.zero_add]
    rw [← ht, List.getElem?_take, if_pos (by omega)]
    simp
section
variable {A B : List Res} {E : Nat} {v : Value} {cs : List Value} {ρ : Rp α} {xs : List α}
theorem qN {ops : Array Oper} {l : List Oper} (r : RL ρ h cs xs) (k : ∀ h', MLe h h' → (rpS ρ).Is h' v xs → GL P n w0 h0 ops Q l e (A ++ B) h') : GL P n w0 h0 ops Q l e (A ++ .gs E ρ.n v xs.length cs :: B) h := by
  intro a w Ev S
  obtain ⟨h', hle, hs, S'⟩ := S.freezex r
  exact k h' hle hs a w Ev S'
theorem jI {x : Exit} (r : RL ρ h cs xs) (k : ∀ h', MLe h h' → (rpS ρ).Is h' v xs → GQ n w0 h0 Q x e (A ++ B) h') : GQ n w0 h0 Q x e (A ++ .gs E ρ.n v xs.length cs :: B) h := by
  intro a w Ev S
  obtain ⟨h', hle, hs, S'⟩ := S.freezex r
  exact k h' hle hs a w Ev S'
theorem vT {o : Oper} {ops : Array Oper} {R : List Res} {W' : List (Nat × Value) → List Res → Mem → Prop} (r : RL ρ h cs xs) (hR : ∀ q ∈ R, q ∈ A ++ .gs E ρ.n v xs.length cs :: B → q ∈ A ++ B)
    (k : ∀ h', MLe h h' → (rpS ρ).Is h' v xs → jT P n w0 h0 ops R o e (A ++ B) h' W') : jT P n w0 h0 ops R o e (A ++ .gs E ρ.n v xs.length cs :: B) h W' := by
  intro X a w Ev S
  have S1 : St w0 h0 (A ++ .gs E ρ.n v xs.length cs :: (B ++ X)) h w := by simpa using S
  obtain ⟨h', hle, hs, S'⟩ := S1.freezex r
  have S2 : St w0 h0 ((A ++ B) ++ X) h' w := by simpa using S'
  refine (k h' hle hs X a w Ev S2).mono ?_
  rintro v' w' ⟨hd, L', g, hg, hk, S3, hW⟩
  exact ⟨hd, L', g, hle.trans hg, fun hh q hq => hk (fun y hy => hR y hy (hh y hy)) q hq, S3, hW⟩
end
end
end Bk
