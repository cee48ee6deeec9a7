/- Texts that the proof needs, part 7. -/
import Derived.Test.YtghhjjmjpeehdaaGreatK6
namespace Go.Proofs.YtghhjjmjpeehdaaGreat
open Bk Go Tryz
set_option linter.unusedVariables false
set_option linter.unusedSimpArgs false
set_option maxRecDepth 10000
theorem nJ {w0 : World} {h0 : Mem}  (hs : MLe h0 (mem w0)) {vl : Value} {xsl : List Int} (hl : Is h0 vl xsl) :
    Calls Tryz.prog 4 #[vl] w0 (Ret w0 h0 (fun _ r => r = .bool true)) := by
 have hlenl := hl.lt63
 refine zP (n := 127) (e := [(0, vl)]) (vs := [vl]) func4 rfl rfl (bL rfl) hs ⟨rfl, trivial⟩ (zC (zA (asg rfl rfl (zD (zB (zC (zC (zA (mv rfl rfl ?_)))))))))
 refine zM (vs := [_]) rfl rfl rfl rfl call9 ⟨rfl, trivial⟩ (fun w hs => made_light hs hl) ?_
 intro v12 h1 hh1 hr12
 subst hr12
 refine gv (kZ rfl) rfl (zD (zB ?_))
 refine zO rfl (fun hc13 => ?_) (fun hc13 => ?_)
 ·
  refine zC (zA ?_)
  refine zM (vs := []) rfl rfl rfl rfl call10 trivial (fun w hs => sV hs) ?_
  intro v14 h2 hh2 hr14
  subst hr14
  refine asg rfl rfl (zD (zB (zQ (zX (yH rfl rfl ?_)))))
  rfl
 refine zL (zB (zC (zA (mv rfl rfl ?_))))
 replace hl := hl.mono hh1
 refine tI (vs := [_]) rfl rfl rfl rfl call11 ⟨rfl, trivial⟩ (fun w hs => made_roll hs hl) ?_
 intro v16 h2 L16 hh2 hr16
 obtain ⟨b16, rfl, rfl⟩ := hr16
 refine asg rfl rfl (zD (zB (zC (zA (mv rfl rfl ?_)))))
 replace hl := hl.mono hh2
 refine wC (A := []) (vs := [_]) call12 ⟨rfl, trivial⟩ (fun X w hs => w5 hl (by first | omega | exact Nat.zero_le _) hs) rfl ?_
 intro v19 g19 q19 hg19 hr19
 obtain ⟨k19, u19_0, u19_1, p19, s19, rfl, hk19, hx19, rfl, ra19, rb19⟩ := hr19
 refine mv rfl rfl (gv (zN (vs := [_, _]) rfl rfl) rfl (gv (zN (vs := [_, _]) rfl rfl) rfl (zK (yY (ρ := (rpP (rpT (rpQ 1)) (rpQ 1))) (X := ((T3.mk (0 : Rat) 0 0), (0 : Rat))) sW rfl rfl (oM (wH (wA (by decide))) (wA (by decide)))) rfl rfl rfl ?_)))
 intro v5 q5 hq5
 obtain ⟨b5, cs5, rfl, rfl, rb5⟩ := hq5
 refine asg rfl rfl ?_
 have rw_1 := (Le.p (Le.t (Le.q (l := 2) (by decide))) (Le.q (l := 2) (by decide))).R rb5
 refine wB (A := []) (F := fun c_ => (rpP (rpT (rpQ 2)) (rpQ 2)).R g19 c_ s19) (yG sizeOf34 (Pc.here _) rfl rfl rfl rw_1 rb19 rfl) ?_
 intro cs_2 rb_3
 refine zD (zJ (e' := [(3, _), (5, _), (4, _)]) e3z (zB (zC (zA (mv rfl rfl ?_)))))
 have hl3 := hx19.1.1.1
 have hl32 := hx19.2
 replace hl := hl.mono hg19
 refine wC (A := [_]) (vs := [_]) call13 ⟨rfl, trivial⟩ (fun X w hs => pQ hl (by first | omega | exact Nat.zero_le _) hs) rfl ?_
 intro v23 g23 q23 hg23 hr23
 obtain ⟨k23, p23, rfl, hk23, hr23⟩ := hr23
 refine zK (yY (ρ := (rpP (rpT (rpQ 1)) (rpQ 1))) (X := ((T3.mk (0 : Rat) 0 0), (0 : Rat))) sW rfl rfl (oM (wH (wA (by decide))) (wA (by decide)))) rfl rfl rfl ?_
 intro v6 q6 hq6
 obtain ⟨b6, cs6, rfl, rfl, rb6⟩ := hq6
 have rw_4 := (Le.p (Le.t (Le.q (l := 2) (by decide))) (Le.q (l := 2) (by decide))).R rb6
 refine wB (A := []) (F := fun c_ => (rpP (rpT (rpQ 2)) (rpQ 2)).R g23 c_ p23) (yG sizeOf34 (Pc.here _) rfl rfl rfl rw_4 hr23 rfl) ?_
 intro cs_5 rb_6
 refine zD (zB (zC (zA (mv rfl rfl (wF (F := fun v_ => (rpP (rpT (rpQ 2)) (rpQ 2)).Is g23 v_ p23) (zE jM (Pc.here _) rfl rfl rb_6 rfl) (yF (.head _)) rfl ?_)))))
 intro v26 r26
 replace ra19 := ra19.mono hg23
 refine zM (vs := [_, _]) rfl rfl rfl rfl call14 e2z (fun w hs => o_cx_cut hs ra19 r26 (by decide) (by decide) (by decide) (by first | omega | exact Nat.le_trans hx19.2 (by decide) | exact Nat.le_trans (gG _ _) (by omega) | exact Nat.le_trans (gU _ _) (by omega))) ?_
 intro v27 h3 hh3 r27
 obtain ⟨v27_0, v27_1, rfl, r27_0, r27_1⟩ := r27
 change (rpS (rpT (rpQ (12 * 140000 + 3 * 2 + 9 * 2 + 62 + 2)))).Is h3 v27_0 (tB p23 p19) at r27_0
 replace r27_0 := Rp.Is.le r27_0 (Le.s (Le.t (Le.q (l := 1680088) (by omega))))
 change (rpS (rpT (rpQ (12 * 140000 + 3 * 2 + 9 * 2 + 62 + 2)))).Is h3 v27_1 (tA p23 p19) at r27_1
 replace r27_1 := Rp.Is.le r27_1 (Le.s (Le.t (Le.q (l := 1680088) (by omega))))
 refine mv rfl rfl (gv (zN (vs := [_, _]) rfl rfl) rfl (gv (zN (vs := [_, _]) rfl rfl) rfl (asg rfl rfl (asg rfl rfl (zD (zB (zC (zC (zA (mv rfl rfl (gv (vE underlying27 rfl r27_0) rfl (gv (vY (q := 0) rfl rfl) rfl ?_))))))))))))
 refine vS (ι := Mem) 6 (fun m_ => MLe h3 m_) (fun _ => [(38, .bool false), (3, vP b16 0), (5, vP b5 0), (4, u19_0), (6, vP b6 0), (7, v27_0), (8, v27_1)]) (fun _ => [.var b6 34 cs_5, .var b5 34 cs_2, .var b16 65 [vl, vI ↑k23]]) (fun m_ => m_) ?_ ?_
 ·
  refine wI ((0 : Int) < (↑(tB p23 p19).length : Int)) (fun hg => ?_) (fun hg => ?_)
  ·
   refine xH (zF (v := .bool true) (congrArg some (xJ hg))) rfl rfl rfl (yU rfl rfl rfl (mv rfl rfl (yU rfl rfl rfl ?_)))
   replace rb_3 := rb_3.mono (hg23.trans hh3)
   refine wF (F := fun v_ => (rpP (rpT (rpQ 2)) (rpQ 2)).Is h3 v_ s19) (zE jM (Pc.here _) rfl rfl rb_3 rfl) (yF (.tail _ (.head _))) rfl ?_
   intro v35 r35
   refine yU rfl rfl rfl ?_
   refine zM (vs := [_, _]) rfl rfl rfl rfl call17 e2z (fun w hs => eT hs r27_0 r35 (by decide) (by decide) (by decide) (by first | omega | exact Nat.le_trans hx19.2 (by decide) | exact Nat.le_trans (gG _ _) (by omega) | exact Nat.le_trans (gU _ _) (by omega))) ?_
   intro v36 h4 hh4 r36
   obtain rfl : v36 = .bool true := by rw [show v36 = vB (kV s19 (tB p23 p19)) from r36, xJ (by exact (iN _ hx19.1).resolve_right (fun e => by rw [e] at hg; exact absurd hg (by decide)))]
   refine yU rfl rfl rfl (gv (t9 rfl) rfl (gv (xC rfl rfl) rfl (zD ?_)))
   refine yM h4 hh4 ⟨?_, rfl, rfl, rfl, rfl, rfl, rfl, trivial⟩ rfl rfl
   exact rfl
  refine xH (zF (v := .bool false) (congrArg some (yS hg))) rfl rfl rfl (yK rfl rfl rfl rfl rfl rfl (yK rfl rfl rfl rfl rfl rfl (yK rfl rfl rfl rfl rfl rfl (yK rfl rfl rfl rfl rfl rfl (gv (xN rfl rfl) rfl (zD ?_))))))
  refine yM h3 (MLe.refl _) ⟨?_, rfl, rfl, rfl, rfl, rfl, rfl, trivial⟩ rfl rfl
  exact rfl
 intro mg7_3 hmmg7_3
 show GL _ _ _ _ _ _ _ [(38, .bool false), (3, vP b16 0), (5, vP b5 0), (4, u19_0), (6, vP b6 0), (7, v27_0), (8, v27_1)] [.var b6 34 cs_5, .var b5 34 cs_2, .var b16 65 [vl, vI ↑k23]] mg7_3
 refine mv rfl rfl (yU rfl rfl rfl (mv rfl rfl (yU rfl rfl rfl ?_)))
 replace r27_1 := r27_1.mono hmmg7_3
 refine gv (vE underlying27 rfl r27_1) rfl (yU rfl rfl rfl (gv (vY (q := 0) rfl rfl) rfl ?_))
 refine vS (ι := Mem) 6 (fun m_ => MLe mg7_3 m_) (fun _ => [(48, .bool false), (3, vP b16 0), (5, vP b5 0), (4, u19_0), (6, vP b6 0), (7, v27_0), (8, v27_1), (39, .bool false)]) (fun _ => [.var b6 34 cs_5, .var b5 34 cs_2, .var b16 65 [vl, vI ↑k23]]) (fun m_ => m_) ?_ ?_
 ·
  refine wI ((0 : Int) < (↑(tA p23 p19).length : Int)) (fun hg => ?_) (fun hg => ?_)
  ·
   refine yU rfl rfl rfl (xH (zF (v := .bool true) (congrArg some (xJ hg))) rfl rfl rfl (yU rfl rfl rfl (mv rfl rfl (yU rfl rfl rfl ?_))))
   replace rb_3 := rb_3.mono ((hg23.trans hh3).trans hmmg7_3)
   refine wF (F := fun v_ => (rpP (rpT (rpQ 2)) (rpQ 2)).Is mg7_3 v_ s19) (zE jM (Pc.here _) rfl rfl rb_3 rfl) (yF (.tail _ (.head _))) rfl ?_
   intro v45 r45
   refine yU rfl rfl rfl ?_
   refine zM (vs := [_, _]) rfl rfl rfl rfl call17 e2z (fun w hs => eT hs r27_1 r45 (by decide) (by decide) (by decide) (by first | omega | exact Nat.le_trans hx19.2 (by decide) | exact Nat.le_trans (gG _ _) (by omega) | exact Nat.le_trans (gU _ _) (by omega))) ?_
   intro v46 h4 hh4 r46
   obtain rfl : v46 = .bool true := by rw [show v46 = vB (kV s19 (tA p23 p19)) from r46, xJ (by exact (cutF_valid _ hx19.1).resolve_right (fun e => by rw [e] at hg; exact absurd hg (by decide)))]
   refine yU rfl rfl rfl (gv (t9 rfl) rfl (yU rfl rfl rfl (gv (xC rfl rfl) rfl (zD ?_))))
   refine yM h4 hh4 ⟨?_, rfl, rfl, rfl, rfl, rfl, rfl, rfl, trivial⟩ rfl rfl
   exact rfl
  refine yU rfl rfl rfl (xH (zF (v := .bool false) (congrArg some (yS hg))) rfl rfl rfl (yK rfl rfl rfl rfl rfl rfl (yK rfl rfl rfl rfl rfl rfl (yK rfl rfl rfl rfl rfl rfl (yK rfl rfl rfl rfl rfl rfl (yU rfl rfl rfl (gv (xN rfl rfl) rfl (zD ?_))))))))
  refine yM mg7_3 (MLe.refl _) ⟨?_, rfl, rfl, rfl, rfl, rfl, rfl, rfl, trivial⟩ rfl rfl
  exact rfl
 intro mg7_13 hmmg7_13
 show GL _ _ _ _ _ _ _ [(48, .bool false), (3, vP b16 0), (5, vP b5 0), (4, u19_0), (6, vP b6 0), (7, v27_0), (8, v27_1), (39, .bool false)] [.var b6 34 cs_5, .var b5 34 cs_2, .var b16 65 [vl, vI ↑k23]] mg7_13
 refine gv (xN rfl rfl) rfl (zD (zB (vZ rfl (zL (zB (zC (zA (mv rfl rfl ?_))))))))
 replace ra19 := ra19.mono ((hh3.trans hmmg7_3).trans hmmg7_13)
 refine zM (vs := [_]) rfl rfl rfl rfl call18 ⟨rfl, trivial⟩ (fun w hs => s5 hs ra19 (by decide) (by first | omega | exact Nat.le_trans hx19.2 (by decide) | exact Nat.le_trans (gG _ _) (by omega) | exact Nat.le_trans (gU _ _) (by omega))) ?_
 intro v51 h4 hh4 r51
 change (rpT (rpQ (32 * 140000 + 100))).Is h4 v51 (cenZ p19) at r51
 replace r51 := Rp.Is.le r51 (Le.t (Le.q (l := 4480100) (by omega)))
 refine zK (yY (ρ := (rpT (rpQ 1))) (X := (T3.mk (0 : Rat) 0 0)) yD rfl rfl (wH (wA (by decide)))) rfl rfl rfl ?_
 intro v9 q9 hq9
 obtain ⟨b9, cs9, rfl, rfl, rb9⟩ := hq9
 have rw_7 := (Le.t (Le.q (l := 4480100) (by decide))).R rb9
 refine wB (A := []) (F := fun c_ => (rpT (rpQ 4480100)).R h4 c_ (cenZ p19)) (yG sizeOf32 (Pc.here _) rfl rfl rfl rw_7 r51 rfl) ?_
 intro cs_8 rb_9
 refine zD (zB ?_)
 refine kQ (ι := T3 Rat × List Value × Nat × Mem) (fun (P1, cs_10, kd_12, mc) => MLe h4 mc ∧ ((rpT (rpQ 4700000)).R mc cs_10 P1 ∧ kd_12 ≤ xsl.length ∧ sdZ s19 P1 = 0)) (fun (P1, cs_10, kd_12, mc) => [(3, vP b16 0), (4, u19_0), (5, vP b5 0), (6, vP b6 0), (7, v27_0), (8, v27_1), (9, vP b9 0)]) (fun (P1, cs_10, kd_12, mc) => [.var b9 32 cs_10, .var b6 34 cs_5, .var b5 34 cs_2, .var b16 65 [vl, vI ↑kd_12]]) (fun (P1, cs_10, kd_12, mc) => mc) ?_ ?_
 ·
  refine zC (zA (mv rfl rfl ?_))
  replace ra19 := ra19.mono hh4
  refine gv (vE underlying27 rfl ra19) rfl (gv (vY (q := 2) rfl rfl) rfl (zD (zB ?_)))
  refine zO rfl (fun hc54 => ?_) (fun hc54 => ?_)
  ·
   refine yI 28 [.var b6 34 cs_5, .var b5 34 cs_2] [] [(0, .q), (1, .q), (2, .q), (3, .q), (6, .q), (7, .q), (8, .q), (9, .q), (12, .q), (13, .q), (14, .q), (15, .q), (16, .q), (17, .q), (21, .q), (22, .q), (23, .q), (4, .c), (5, .c), (10, .c), (11, .c), (18, .c), (19, .c), (20, .c), (24, .c), (25, .c), (26, .c), (27, .c)] xI nX (gK [0, 1, 2, 0, 8, 16, 0, 64, 128, 0, 544, 1024, 0, 4096, 8192, 0, 32768, 65536, 149504, 264192, 524544, 0, 2097152, 4194304, 9437184, 16777248, 33554436, 134217727] [268435455, 268435454, 268435453, 268435455, 268435447, 268435439, 268435455, 268435391, 268435327, 268435455, 268434943, 268434431, 268435455, 268431359, 268427263, 268435455, 268402687, 268369919, 268287999, 268171263, 267910911, 268435455, 266338303, 264241151, 258998271, 251658207, 234881019, 201326591] (by kernel_rfl)) nX (by intro r hr; simp only [List.mem_cons, List.mem_append, List.not_mem_nil, or_false] at hr ⊢ <;> grind) (w_q rfl (fun h' L' hh hR => zF rfl) rfl (yP (F := fun v_ => AtP (rpT (rpQ 140000)) h4 v_ (p19.getD 0 (T3.mk (0 : Rat) 0 0))) rfl (vN (q := 0) (T3.mk (0 : Rat) 0 0) 0 underlying27 yZ rfl rfl ra19 rfl (by omega) p9N) vW rfl ?_))
   intro v56 r56
   refine yP (F := fun v_ => (rpT (rpQ 140000)).Is h4 v_ (p19.getD 0 (T3.mk (0 : Rat) 0 0))) rfl (wP yZ rfl r56) vW rfl ?_
   intro v57 r57
   refine w_q rfl (fun h' L' hh hR => zF rfl) rfl (w_q rfl (fun h' L' hh hR => zF rfl) rfl (yP (F := fun v_ => AtP (rpT (rpQ 140000)) h4 v_ (p19.getD 1 (T3.mk (0 : Rat) 0 0))) rfl (vN (q := 1) (T3.mk (0 : Rat) 0 0) 1 underlying27 yZ rfl rfl ra19 rfl (by omega) p9N) vW rfl ?_))
   intro v62 r62
   refine yP (F := fun v_ => (rpT (rpQ 140000)).Is h4 v_ (p19.getD 1 (T3.mk (0 : Rat) 0 0))) rfl (wP yZ rfl r62) vW rfl ?_
   intro v63 r63
   refine w_q rfl (fun h' L' hh hR => zF rfl) rfl (w_q rfl (fun h' L' hh hR => zF rfl) rfl (yP (F := fun v_ => AtP (rpT (rpQ 140000)) h4 v_ (p19.getD 2 (T3.mk (0 : Rat) 0 0))) rfl (vN (q := 2) (T3.mk (0 : Rat) 0 0) 2 underlying27 yZ rfl rfl ra19 rfl (by omega) p9N) vW rfl ?_))
   intro v68 r68
   refine yP (F := fun v_ => (rpT (rpQ 140000)).Is h4 v_ (p19.getD 2 (T3.mk (0 : Rat) 0 0))) rfl (wP yZ rfl r68) vW rfl ?_
   intro v69 r69
   refine w_q rfl (fun h' L' hh hR => zF rfl) rfl (yP (F := fun v_ => AtP (rpT (rpQ 140000)) h4 v_ (p19.getD 1 (T3.mk (0 : Rat) 0 0))) rfl (vN (q := 1) (T3.mk (0 : Rat) 0 0) 1 underlying27 yZ rfl rfl ra19 rfl (by omega) p9N) vW rfl ?_)
   intro v71 r71
   refine yP (F := fun v_ => (rpT (rpQ 140000)).Is h4 v_ (p19.getD 1 (T3.mk (0 : Rat) 0 0))) rfl (wP yZ rfl r71) vW rfl ?_
   intro v72 r72
   refine w_q rfl (fun h' L' hh hR => zF rfl) rfl (yP (F := fun v_ => AtP (rpT (rpQ 140000)) h4 v_ (p19.getD 0 (T3.mk (0 : Rat) 0 0))) rfl (vN (q := 0) (T3.mk (0 : Rat) 0 0) 0 underlying27 yZ rfl rfl ra19 rfl (by omega) p9N) vW rfl ?_)
   intro v77 r77
   refine yP (F := fun v_ => (rpT (rpQ 140000)).Is h4 v_ (p19.getD 0 (T3.mk (0 : Rat) 0 0))) rfl (wP yZ rfl r77) vW rfl ?_
   intro v78 r78
   refine w_c rfl ?_
   replace hl := hl.mono ((((hg23.trans hh3).trans hmmg7_3).trans hmmg7_13).trans hh4)
   refine pI (A := [_, _, _]) (vs := [_, vI (99)]) call22 e2z (fun X w hs => uL hl (by first | omega | exact Nat.zero_le _) (by omega) (by omega) hs) rfl (xE (by first | (simp; done) | grind)) ?_
   intro v59 g59 q59 hg59 hr59
   obtain ⟨k59, z59, rfl, hk59, rfl, hz59, hy59⟩ := hr59
   refine w_c rfl ?_
   refine zY (vs := [_]) call21 ⟨rfl, trivial⟩ (fun w hs => mV hs (by omega) (by omega)) rfl ?_
   intro v60 h5 hh5 r60
   change (rpQ 2).Is h5 v60 (qI z59) at r60
   refine w_c rfl ?_
   replace hl := hl.mono (hg59.trans hh5)
   refine pI (A := [_, _, _]) (vs := [_, vI (99)]) call22 e2z (fun X w hs => uL hl (by first | omega | exact Nat.zero_le _) (by omega) (by omega) hs) rfl (xE (by first | (simp; done) | grind)) ?_
   intro v65 g65 q65 hg65 hr65
   obtain ⟨k65, z65, rfl, hk65, rfl, hz65, hy65⟩ := hr65
   refine w_c rfl ?_
   refine zY (vs := [_]) call21 ⟨rfl, trivial⟩ (fun w hs => mV hs (by omega) (by omega)) rfl ?_
   intro v66 h6 hh6 r66
   change (rpQ 2).Is h6 v66 (qI z65) at r66
   refine w_c rfl ?_
   replace r69 := r69.mono (((hg59.trans hh5).trans hg65).trans hh6)
   replace r72 := r72.mono (((hg59.trans hh5).trans hg65).trans hh6)
   refine zY (vs := [_, _]) call23 e2z (fun w hs => tW hs r69 r72 (by decide)) rfl ?_
   intro v73 h7 hh7 r73
   change (rpT (rpQ (140000 + 140000 + 1))).Is h7 v73 (T3.mk ((p19.getD 2 (T3.mk (0 : Rat) 0 0)).x - (p19.getD 1 (T3.mk (0 : Rat) 0 0)).x) ((p19.getD 2 (T3.mk (0 : Rat) 0 0)).y - (p19.getD 1 (T3.mk (0 : Rat) 0 0)).y) ((p19.getD 2 (T3.mk (0 : Rat) 0 0)).z - (p19.getD 1 (T3.mk (0 : Rat) 0 0)).z)) at r73
   replace r73 := Rp.Is.le r73 (Le.t (Le.q (l := 280001) (by omega)))
   refine w_c rfl ?_
   replace r66 := r66.mono hh7
   refine zY (vs := [_, _]) call20 e2z (fun w hs => pP hs r66 r73 (by decide)) rfl ?_
   intro v74 h8 hh8 r74
   change (rpT (rpQ (280001 + 2))).Is h8 v74 (T3.mk ((qI z65) * ((p19.getD 2 (T3.mk (0 : Rat) 0 0)).x - (p19.getD 1 (T3.mk (0 : Rat) 0 0)).x)) ((qI z65) * ((p19.getD 2 (T3.mk (0 : Rat) 0 0)).y - (p19.getD 1 (T3.mk (0 : Rat) 0 0)).y)) ((qI z65) * ((p19.getD 2 (T3.mk (0 : Rat) 0 0)).z - (p19.getD 1 (T3.mk (0 : Rat) 0 0)).z))) at r74
   replace r74 := Rp.Is.le r74 (Le.t (Le.q (l := 280003) (by omega)))
   refine w_c rfl ?_
   replace r63 := r63.mono (((((hg59.trans hh5).trans hg65).trans hh6).trans hh7).trans hh8)
   refine zY (vs := [_, _]) call19 e2z (fun w hs => rV hs r63 r74 (by decide)) rfl ?_
   intro v75 h9 hh9 r75
   change (rpT (rpQ (140000 + 280003 + 1))).Is h9 v75 (T3.mk ((p19.getD 1 (T3.mk (0 : Rat) 0 0)).x + ((qI z65) * ((p19.getD 2 (T3.mk (0 : Rat) 0 0)).x - (p19.getD 1 (T3.mk (0 : Rat) 0 0)).x))) ((p19.getD 1 (T3.mk (0 : Rat) 0 0)).y + ((qI z65) * ((p19.getD 2 (T3.mk (0 : Rat) 0 0)).y - (p19.getD 1 (T3.mk (0 : Rat) 0 0)).y))) ((p19.getD 1 (T3.mk (0 : Rat) 0 0)).z + ((qI z65) * ((p19.getD 2 (T3.mk (0 : Rat) 0 0)).z - (p19.getD 1 (T3.mk (0 : Rat) 0 0)).z)))) at r75
   replace r75 := Rp.Is.le r75 (Le.t (Le.q (l := 420004) (by omega)))
   refine w_c rfl ?_
   replace r78 := r78.mono ((((((hg59.trans hh5).trans hg65).trans hh6).trans hh7).trans hh8).trans hh9)
   refine zY (vs := [_, _]) call23 e2z (fun w hs => tW hs r75 r78 (by decide)) rfl ?_
   intro v79 h10 hh10 r79
   change (rpT (rpQ (420004 + 140000 + 1))).Is h10 v79 (T3.mk (((p19.getD 1 (T3.mk (0 : Rat) 0 0)).x + ((qI z65) * ((p19.getD 2 (T3.mk (0 : Rat) 0 0)).x - (p19.getD 1 (T3.mk (0 : Rat) 0 0)).x))) - (p19.getD 0 (T3.mk (0 : Rat) 0 0)).x) (((p19.getD 1 (T3.mk (0 : Rat) 0 0)).y + ((qI z65) * ((p19.getD 2 (T3.mk (0 : Rat) 0 0)).y - (p19.getD 1 (T3.mk (0 : Rat) 0 0)).y))) - (p19.getD 0 (T3.mk (0 : Rat) 0 0)).y) (((p19.getD 1 (T3.mk (0 : Rat) 0 0)).z + ((qI z65) * ((p19.getD 2 (T3.mk (0 : Rat) 0 0)).z - (p19.getD 1 (T3.mk (0 : Rat) 0 0)).z))) - (p19.getD 0 (T3.mk (0 : Rat) 0 0)).z)) at r79
   replace r79 := Rp.Is.le r79 (Le.t (Le.q (l := 560005) (by omega)))
   refine w_c rfl ?_
   replace r60 := r60.mono (((((hg65.trans hh6).trans hh7).trans hh8).trans hh9).trans hh10)
   refine zY (vs := [_, _]) call20 e2z (fun w hs => pP hs r60 r79 (by decide)) rfl ?_
   intro v80 h11 hh11 r80
   change (rpT (rpQ (560005 + 2))).Is h11 v80 (T3.mk ((qI z59) * (((p19.getD 1 (T3.mk (0 : Rat) 0 0)).x + ((qI z65) * ((p19.getD 2 (T3.mk (0 : Rat) 0 0)).x - (p19.getD 1 (T3.mk (0 : Rat) 0 0)).x))) - (p19.getD 0 (T3.mk (0 : Rat) 0 0)).x)) ((qI z59) * (((p19.getD 1 (T3.mk (0 : Rat) 0 0)).y + ((qI z65) * ((p19.getD 2 (T3.mk (0 : Rat) 0 0)).y - (p19.getD 1 (T3.mk (0 : Rat) 0 0)).y))) - (p19.getD 0 (T3.mk (0 : Rat) 0 0)).y)) ((qI z59) * (((p19.getD 1 (T3.mk (0 : Rat) 0 0)).z + ((qI z65) * ((p19.getD 2 (T3.mk (0 : Rat) 0 0)).z - (p19.getD 1 (T3.mk (0 : Rat) 0 0)).z))) - (p19.getD 0 (T3.mk (0 : Rat) 0 0)).z))) at r80
   replace r80 := Rp.Is.le r80 (Le.t (Le.q (l := 560007) (by omega)))
   refine w_c rfl ?_
   replace r57 := r57.mono ((((((((hg59.trans hh5).trans hg65).trans hh6).trans hh7).trans hh8).trans hh9).trans hh10).trans hh11)
   refine zY (vs := [_, _]) call19 e2z (fun w hs => rV hs r57 r80 (by decide)) rfl ?_
   intro v81 h12 hh12 r81
   change (rpT (rpQ (140000 + 560007 + 1))).Is h12 v81 (T3.mk ((p19.getD 0 (T3.mk (0 : Rat) 0 0)).x + ((qI z59) * (((p19.getD 1 (T3.mk (0 : Rat) 0 0)).x + ((qI z65) * ((p19.getD 2 (T3.mk (0 : Rat) 0 0)).x - (p19.getD 1 (T3.mk (0 : Rat) 0 0)).x))) - (p19.getD 0 (T3.mk (0 : Rat) 0 0)).x))) ((p19.getD 0 (T3.mk (0 : Rat) 0 0)).y + ((qI z59) * (((p19.getD 1 (T3.mk (0 : Rat) 0 0)).y + ((qI z65) * ((p19.getD 2 (T3.mk (0 : Rat) 0 0)).y - (p19.getD 1 (T3.mk (0 : Rat) 0 0)).y))) - (p19.getD 0 (T3.mk (0 : Rat) 0 0)).y))) ((p19.getD 0 (T3.mk (0 : Rat) 0 0)).z + ((qI z59) * (((p19.getD 1 (T3.mk (0 : Rat) 0 0)).z + ((qI z65) * ((p19.getD 2 (T3.mk (0 : Rat) 0 0)).z - (p19.getD 1 (T3.mk (0 : Rat) 0 0)).z))) - (p19.getD 0 (T3.mk (0 : Rat) 0 0)).z)))) at r81
   replace r81 := Rp.Is.le r81 (Le.t (Le.q (l := 700008) (by omega)))
   refine w_c rfl ?_
   replace rb_9 := rb_9.mono (((((((((hg59.trans hh5).trans hg65).trans hh6).trans hh7).trans hh8).trans hh9).trans hh10).trans hh11).trans hh12)
   refine fH (A := []) (F := fun c_ => (rpT (rpQ 4480100)).R h12 c_ (T3.mk ((p19.getD 0 (T3.mk (0 : Rat) 0 0)).x + ((qI z59) * (((p19.getD 1 (T3.mk (0 : Rat) 0 0)).x + ((qI z65) * ((p19.getD 2 (T3.mk (0 : Rat) 0 0)).x - (p19.getD 1 (T3.mk (0 : Rat) 0 0)).x))) - (p19.getD 0 (T3.mk (0 : Rat) 0 0)).x))) ((p19.getD 0 (T3.mk (0 : Rat) 0 0)).y + ((qI z59) * (((p19.getD 1 (T3.mk (0 : Rat) 0 0)).y + ((qI z65) * ((p19.getD 2 (T3.mk (0 : Rat) 0 0)).y - (p19.getD 1 (T3.mk (0 : Rat) 0 0)).y))) - (p19.getD 0 (T3.mk (0 : Rat) 0 0)).y))) ((p19.getD 0 (T3.mk (0 : Rat) 0 0)).z + ((qI z59) * (((p19.getD 1 (T3.mk (0 : Rat) 0 0)).z + ((qI z65) * ((p19.getD 2 (T3.mk (0 : Rat) 0 0)).z - (p19.getD 1 (T3.mk (0 : Rat) 0 0)).z))) - (p19.getD 0 (T3.mk (0 : Rat) 0 0)).z))))) (yG sizeOf32 (Pc.here _) rfl rfl rfl rb_9 (r81.le (Le.t (Le.q (l := 4480100) (by decide)))) rfl) (xE (by first | (simp; done) | grind)) ?_
   intro cs_14 rb_15
   refine xA ?_
   refine yM ((T3.mk ((p19.getD 0 (T3.mk (0 : Rat) 0 0)).x + ((qI z59) * (((p19.getD 1 (T3.mk (0 : Rat) 0 0)).x + ((qI z65) * ((p19.getD 2 (T3.mk (0 : Rat) 0 0)).x - (p19.getD 1 (T3.mk (0 : Rat) 0 0)).x))) - (p19.getD 0 (T3.mk (0 : Rat) 0 0)).x))) ((p19.getD 0 (T3.mk (0 : Rat) 0 0)).y + ((qI z59) * (((p19.getD 1 (T3.mk (0 : Rat) 0 0)).y + ((qI z65) * ((p19.getD 2 (T3.mk (0 : Rat) 0 0)).y - (p19.getD 1 (T3.mk (0 : Rat) 0 0)).y))) - (p19.getD 0 (T3.mk (0 : Rat) 0 0)).y))) ((p19.getD 0 (T3.mk (0 : Rat) 0 0)).z + ((qI z59) * (((p19.getD 1 (T3.mk (0 : Rat) 0 0)).z + ((qI z65) * ((p19.getD 2 (T3.mk (0 : Rat) 0 0)).z - (p19.getD 1 (T3.mk (0 : Rat) 0 0)).z))) - (p19.getD 0 (T3.mk (0 : Rat) 0 0)).z)))), cs_14, k65, h12) ?_ e7 rfl rfl
   refine ⟨(((((((((hg59.trans hh5).trans hg65).trans hh6).trans hh7).trans hh8).trans hh9).trans hh10).trans hh11).trans hh12), ?_⟩
   refine ⟨((Le.t (Le.q (l := 4700000) (by decide))).R rb_15), (by omega), ?_⟩
   exact on_tri (hx19.1.2.1 0 (by omega)) (hx19.1.2.1 1 (by omega)) (hx19.1.2.1 2 (by omega)) _ _
  refine zL ?_
  refine yM ((cenZ p19), cs_8, k23, h4) ?_ e7 rfl rfl
  refine ⟨MLe.refl _, ?_⟩
  refine ⟨((Le.t (Le.q (l := 4700000) (by decide))).R rb_9), (by omega), ?_⟩
  exact cen_on hx19.1
 intro x hx
 obtain ⟨P1, cs_10, kd_12, mc⟩ := x
 obtain ⟨hmmc, hP1⟩ := hx
 show GC _ _ _ _ _ _ [(3, vP b16 0), (4, u19_0), (5, vP b5 0), (6, vP b6 0), (7, v27_0), (8, v27_1), (9, vP b9 0)] [.var b9 32 cs_10, .var b6 34 cs_5, .var b5 34 cs_2, .var b16 65 [vl, vI ↑kd_12]] mc
 obtain ⟨rb_11, hkd_13, hP1⟩ := hP1
 refine kQ (ι := T3 Rat × List Value × Nat × Mem) (fun (P2, cs_16, kd_18, md) => MLe mc md ∧ ((rpT (rpQ 5300000)).R md cs_16 P2 ∧ kd_18 ≤ xsl.length ∧ sdZ s19 P2 = 0)) (fun (P2, cs_16, kd_18, md) => [(4, u19_0), (5, vP b5 0), (6, vP b6 0), (7, v27_0), (8, v27_1), (9, vP b9 0)]) (fun (P2, cs_16, kd_18, md) => [.var b9 32 cs_16, .var b6 34 cs_5, .var b5 34 cs_2, .var b16 65 [vl, vI ↑kd_18]]) (fun (P2, cs_16, kd_18, md) => md) ?_ ?_
 ·
  refine zC (zA (mv rfl rfl ?_))
  replace hl := hl.mono (((((hg23.trans hh3).trans hmmg7_3).trans hmmg7_13).trans hh4).trans hmmc)
  refine wC (A := [_, _, _]) (vs := [_, vI (3)]) call24 e2z (fun X w hs => kE hl (by first | omega | exact Nat.zero_le _) (by omega) (by omega) hs) rfl ?_
  intro v83 g83 q83 hg83 hr83
  obtain ⟨k83, P83, rfl, hk83, rfl⟩ := hr83
  refine zD (zB ?_)
  refine zO rfl (fun hc83 => ?_) (fun hc83 => ?_)
  ·
   refine nP (A := []) 10 [] [(1, .q), (2, .q), (3, .q), (4, .q), (5, .q), (6, .q), (0, .b 7), (8, .c), (9, .c)] xI nX (by kernel_rfl) nX (w_q rfl (fun h' L' hh hR => zF rfl) rfl ?_)
   replace ra19 := ra19.mono ((hh4.trans hmmc).trans hg83)
   refine yP (F := fun v_ => AtP (rpT (rpQ 140000)) g83 v_ (p19.getD 1 (T3.mk (0 : Rat) 0 0))) rfl (vN (q := 1) (T3.mk (0 : Rat) 0 0) 1 underlying27 yZ rfl rfl ra19 rfl (by omega) p9N) vW rfl ?_
   intro v86 r86
   refine yP (F := fun v_ => (rpT (rpQ 140000)).Is g83 v_ (p19.getD 1 (T3.mk (0 : Rat) 0 0))) rfl (wP yZ rfl r86) vW rfl ?_
   intro v87 r87
   refine w_q rfl (fun h' L' hh hR => zF rfl) rfl (yP (F := fun v_ => AtP (rpT (rpQ 140000)) g83 v_ (p19.getD 0 (T3.mk (0 : Rat) 0 0))) rfl (vN (q := 0) (T3.mk (0 : Rat) 0 0) 0 underlying27 yZ rfl rfl ra19 rfl (by omega) p9N) vW rfl ?_)
   intro v89 r89
   refine yP (F := fun v_ => (rpT (rpQ 140000)).Is g83 v_ (p19.getD 0 (T3.mk (0 : Rat) 0 0))) rfl (wP yZ rfl r89) vW rfl ?_
   intro v90 r90
   refine w_b rfl rfl ?_ ?_
   ·
    replace rb_11 := rb_11.mono hg83
    refine s_x (F := fun v_ => (rpT (rpQ 4700000)).Is g83 v_ P1) (zE yZ (Pc.here _) rfl rfl rb_11 rfl) (yF (.head _)) rfl ?_
    intro v84 r84
    refine zY (vs := [_, _]) call23 e2z (fun w hs => tW hs r87 r90 (by decide)) rfl ?_
    intro v91 h5 hh5 r91
    change (rpT (rpQ (140000 + 140000 + 1))).Is h5 v91 (T3.mk ((p19.getD 1 (T3.mk (0 : Rat) 0 0)).x - (p19.getD 0 (T3.mk (0 : Rat) 0 0)).x) ((p19.getD 1 (T3.mk (0 : Rat) 0 0)).y - (p19.getD 0 (T3.mk (0 : Rat) 0 0)).y) ((p19.getD 1 (T3.mk (0 : Rat) 0 0)).z - (p19.getD 0 (T3.mk (0 : Rat) 0 0)).z)) at r91
    replace r91 := Rp.Is.le r91 (Le.t (Le.q (l := 280001) (by omega)))
    refine w_c rfl ?_
    replace r84 := r84.mono hh5
    refine zY (vs := [_, _]) call19 e2z (fun w hs => rV hs r84 r91 (by decide)) rfl ?_
    intro v92 h6 hh6 r92
    change (rpT (rpQ (4700000 + 280001 + 1))).Is h6 v92 (T3.mk (P1.x + ((p19.getD 1 (T3.mk (0 : Rat) 0 0)).x - (p19.getD 0 (T3.mk (0 : Rat) 0 0)).x)) (P1.y + ((p19.getD 1 (T3.mk (0 : Rat) 0 0)).y - (p19.getD 0 (T3.mk (0 : Rat) 0 0)).y)) (P1.z + ((p19.getD 1 (T3.mk (0 : Rat) 0 0)).z - (p19.getD 0 (T3.mk (0 : Rat) 0 0)).z))) at r92
    replace r92 := Rp.Is.le r92 (Le.t (Le.q (l := 4980002) (by omega)))
    refine w_c rfl ?_
    replace rb_11 := rb_11.mono (hh5.trans hh6)
    have rw_20 := (Le.t (Le.q (l := 4980002) (by decide))).R rb_11
    refine fH (A := []) (F := fun c_ => (rpT (rpQ 4980002)).R h6 c_ (T3.mk (P1.x + ((p19.getD 1 (T3.mk (0 : Rat) 0 0)).x - (p19.getD 0 (T3.mk (0 : Rat) 0 0)).x)) (P1.y + ((p19.getD 1 (T3.mk (0 : Rat) 0 0)).y - (p19.getD 0 (T3.mk (0 : Rat) 0 0)).y)) (P1.z + ((p19.getD 1 (T3.mk (0 : Rat) 0 0)).z - (p19.getD 0 (T3.mk (0 : Rat) 0 0)).z)))) (yG sizeOf32 (Pc.here _) rfl rfl rfl rw_20 r92 rfl) (xE (by first | (simp; done) | grind)) ?_
    intro cs_21 rb_22
    refine xA ?_
    refine yM ((T3.mk (P1.x + ((p19.getD 1 (T3.mk (0 : Rat) 0 0)).x - (p19.getD 0 (T3.mk (0 : Rat) 0 0)).x)) (P1.y + ((p19.getD 1 (T3.mk (0 : Rat) 0 0)).y - (p19.getD 0 (T3.mk (0 : Rat) 0 0)).y)) (P1.z + ((p19.getD 1 (T3.mk (0 : Rat) 0 0)).z - (p19.getD 0 (T3.mk (0 : Rat) 0 0)).z))), cs_21, k83, h6) ?_ e6 rfl rfl
    refine ⟨((hg83.trans hh5).trans hh6), ?_⟩
    refine ⟨((Le.t (Le.q (l := 5300000) (by decide))).R rb_22), (by omega), ?_⟩
    exact s2 hP1 (hx19.1.2.1 0 (by omega)) (hx19.1.2.1 1 (by omega))
   refine zY (vs := [_, _]) call23 e2z (fun w hs => tW hs r87 r90 (by decide)) rfl ?_
   intro v91 h5 hh5 r91
   change (rpT (rpQ (140000 + 140000 + 1))).Is h5 v91 (T3.mk ((p19.getD 1 (T3.mk (0 : Rat) 0 0)).x - (p19.getD 0 (T3.mk (0 : Rat) 0 0)).x) ((p19.getD 1 (T3.mk (0 : Rat) 0 0)).y - (p19.getD 0 (T3.mk (0 : Rat) 0 0)).y) ((p19.getD 1 (T3.mk (0 : Rat) 0 0)).z - (p19.getD 0 (T3.mk (0 : Rat) 0 0)).z)) at r91
   replace r91 := Rp.Is.le r91 (Le.t (Le.q (l := 280001) (by omega)))
   replace rb_11 := rb_11.mono (hg83.trans hh5)
   refine s_x (F := fun v_ => (rpT (rpQ 4700000)).Is h5 v_ P1) (zE yZ (Pc.here _) rfl rfl rb_11 rfl) (yF (.head _)) rfl ?_
   intro v84 r84
   refine w_c rfl ?_
   refine zY (vs := [_, _]) call19 e2z (fun w hs => rV hs r84 r91 (by decide)) rfl ?_
   intro v92 h6 hh6 r92
   change (rpT (rpQ (4700000 + 280001 + 1))).Is h6 v92 (T3.mk (P1.x + ((p19.getD 1 (T3.mk (0 : Rat) 0 0)).x - (p19.getD 0 (T3.mk (0 : Rat) 0 0)).x)) (P1.y + ((p19.getD 1 (T3.mk (0 : Rat) 0 0)).y - (p19.getD 0 (T3.mk (0 : Rat) 0 0)).y)) (P1.z + ((p19.getD 1 (T3.mk (0 : Rat) 0 0)).z - (p19.getD 0 (T3.mk (0 : Rat) 0 0)).z))) at r92
   replace r92 := Rp.Is.le r92 (Le.t (Le.q (l := 4980002) (by omega)))
   refine w_c rfl ?_
   replace rb_11 := rb_11.mono hh6
   have rw_23 := (Le.t (Le.q (l := 4980002) (by decide))).R rb_11
   refine fH (A := []) (F := fun c_ => (rpT (rpQ 4980002)).R h6 c_ (T3.mk (P1.x + ((p19.getD 1 (T3.mk (0 : Rat) 0 0)).x - (p19.getD 0 (T3.mk (0 : Rat) 0 0)).x)) (P1.y + ((p19.getD 1 (T3.mk (0 : Rat) 0 0)).y - (p19.getD 0 (T3.mk (0 : Rat) 0 0)).y)) (P1.z + ((p19.getD 1 (T3.mk (0 : Rat) 0 0)).z - (p19.getD 0 (T3.mk (0 : Rat) 0 0)).z)))) (yG sizeOf32 (Pc.here _) rfl rfl rfl rw_23 r92 rfl) (xE (by first | (simp; done) | grind)) ?_
   intro cs_24 rb_25
   refine xA ?_
   refine yM ((T3.mk (P1.x + ((p19.getD 1 (T3.mk (0 : Rat) 0 0)).x - (p19.getD 0 (T3.mk (0 : Rat) 0 0)).x)) (P1.y + ((p19.getD 1 (T3.mk (0 : Rat) 0 0)).y - (p19.getD 0 (T3.mk (0 : Rat) 0 0)).y)) (P1.z + ((p19.getD 1 (T3.mk (0 : Rat) 0 0)).z - (p19.getD 0 (T3.mk (0 : Rat) 0 0)).z))), cs_24, k83, h6) ?_ e6 rfl rfl
   refine ⟨((hg83.trans hh5).trans hh6), ?_⟩
   refine ⟨((Le.t (Le.q (l := 5300000) (by decide))).R rb_25), (by omega), ?_⟩
   exact s2 hP1 (hx19.1.2.1 0 (by omega)) (hx19.1.2.1 1 (by omega))
  refine zL ?_
  refine yM (P1, cs_10, k83, g83) ?_ e6 rfl rfl
  refine ⟨hg83, ?_⟩
  replace rb_11 := rb_11.mono hg83
  refine ⟨((Le.t (Le.q (l := 5300000) (by decide))).R rb_11), (by omega), ?_⟩
  exact hP1
 intro x hx
 obtain ⟨P2, cs_16, kd_18, md⟩ := x
 obtain ⟨hmmd, hP2⟩ := hx
 show GC _ _ _ _ _ _ [(4, u19_0), (5, vP b5 0), (6, vP b6 0), (7, v27_0), (8, v27_1), (9, vP b9 0)] [.var b9 32 cs_16, .var b6 34 cs_5, .var b5 34 cs_2, .var b16 65 [vl, vI ↑kd_18]] md
 obtain ⟨rb_17, hkd_19, hP2⟩ := hP2
 refine zC (zA ?_)
 replace rb_6 := rb_6.mono (((((hh3.trans hmmg7_3).trans hmmg7_13).trans hh4).trans hmmc).trans hmmd)
 refine wF (F := fun v_ => (rpP (rpT (rpQ 2)) (rpQ 2)).Is md v_ p23) (zE jM (Pc.here _) rfl rfl rb_6 rfl) (yF (.tail _ (.head _))) rfl ?_
 intro v93 r93
 refine wF (F := fun v_ => (rpT (rpQ 5300000)).Is md v_ P2) (zE yZ (Pc.here _) rfl rfl rb_17 rfl) (yF (.head _)) rfl ?_
 intro v94 r94
 refine zM (vs := [_, _]) rfl rfl rfl rfl call25 e2z (fun w hs => rU hs r93 r94 (by decide) (by decide) (by decide)) ?_
 intro v95 h5 hh5 r95
 obtain rfl : v95 = vI (sdZ p23 P2) := r95
 have hsd95 := kD p23 P2
 refine asg rfl rfl (zD (zB (zC ?_)))
 refine yI 32 _ [] [(0, .q), (1, .q), (2, .q), (3, .q), (4, .q), (5, .q), (7, .q), (8, .q), (9, .q), (6, .c), (10, .c), (11, .q), (12, .q), (13, .q), (14, .q), (15, .q), (16, .q), (17, .q), (18, .q), (19, .q), (21, .q), (22, .q), (23, .q), (20, .c), (24, .c), (25, .q), (26, .q), (27, .q), (28, .q), (29, .c), (30, .q), (31, .q)] xI nX (gK [0, 1, 2, 4, 4, 4, 60, 4, 4, 4, 964, 1092, 2052, 5120, 8192, 24576, 40960, 65536, 65536, 65536, 983040, 65536, 65536, 65536, 15794176, 17891328, 33628160, 67117056, 150994944, 268435456, 805306368, 2147483647] [4294967295, 4294967294, 4294967293, 4294967291, 4294967291, 4294967291, 4294967235, 4294967291, 4294967291, 4294967291, 4294966395, 4294966203, 4294965243, 4294963199, 4294959103, 4294942719, 4294926335, 4294901759, 4294901759, 4294901759, 4293984255, 4294901759, 4294901759, 4294901759, 4280221695, 4277075967, 4261339135, 4227850239, 4160749567, 4026531839, 3489660927, 3221225471] (by kernel_rfl)) nX (fun r hr => hr) (w_q rfl (fun h' L' hh hR => zF rfl) rfl (w_q rfl (fun h' L' hh hR => qJ (q := 0) rfl rfl) rfl (w_q rfl (fun h' L' hh hR => zF rfl) rfl ?_)))
 refine aN ((0 : Int) ≤ (sdZ p23 P2)) (fun hg_26 => ?_) (fun hg_26 => ?_)
 ·
  rw [xJ hg_26]
  refine vD rfl rfl rfl rfl rfl (vD rfl rfl rfl rfl rfl (vD rfl rfl rfl rfl rfl (vD rfl rfl rfl rfl rfl (vD rfl rfl rfl rfl rfl (vD rfl rfl rfl rfl rfl ?_)))))
  refine w_c rfl (dK rfl rfl rfl rfl ?_)
  refine w_c rfl (dK rfl rfl rfl rfl (vD rfl rfl rfl rfl rfl (w_q rfl (fun h' L' hh hR => xC rfl rfl) rfl (w_q rfl (fun h' L' hh hR => zF rfl) rfl (vT rfl rfl rfl (fun h' L' hh hR => zF rfl) rfl (vT rfl rfl rfl (fun h' L' hh hR => tJ (q := 0) rfl rfl) rfl (vT rfl rfl rfl (fun h' L' hh hR => zF rfl) rfl ?_)))))))
  refine aN ((sdZ p23 P2) ≤ (0 : Int)) (fun hg_27 => ?_) (fun hg_27 => ?_)
  ·
   rw [xJ hg_27]
   refine vD rfl rfl rfl rfl rfl (vD rfl rfl rfl rfl rfl (vD rfl rfl rfl rfl rfl (vD rfl rfl rfl rfl rfl (vD rfl rfl rfl rfl rfl (vD rfl rfl rfl rfl rfl ?_)))))
   refine w_c rfl (dK rfl rfl rfl rfl ?_)
   refine w_c rfl (dK rfl rfl rfl rfl (vD rfl rfl rfl rfl rfl (vT rfl rfl rfl (fun h' L' hh hR => xC rfl rfl) rfl (w_q rfl (fun h' L' hh hR => xC rfl rfl) rfl (w_q rfl (fun h' L' hh hR => zF rfl) rfl ?_)))))
   refine w_c rfl (lK rfl rfl ?_)
   refine zY (vs := []) call10 trivial (fun w hs => sV hs) rfl ?_
   intro v125 h6 hh6 hr125
   subst hr125
   refine w_q rfl (fun h' L' hh hR => xC rfl rfl) rfl (w_q rfl (fun h' L' hh hR => zZ rfl) rfl (xA (zJ (e' := [(2, _)]) ⟨rfl, trivial⟩ (zB (zQ (yH rfl rfl ?_))))))
   rfl
  rw [yS hg_27]
  refine vT rfl rfl rfl (fun h' L' hh hR => zF rfl) rfl ?_
  replace rb_17 := rb_17.mono hh5
  refine kL (F := fun v_ => (rpT (rpQ 5300000)).Is h5 v_ P2) rfl rfl rfl (zE yZ (Pc.here _) rfl rfl rb_17 rfl) (yF (.head _)) rfl ?_
  intro v114 r114
  replace rb_3 := rb_3.mono (((((((hg23.trans hh3).trans hmmg7_3).trans hmmg7_13).trans hh4).trans hmmc).trans hmmd).trans hh5)
  refine kL (F := fun v_ => (rpP (rpT (rpQ 2)) (rpQ 2)).Is h5 v_ s19) rfl rfl rfl (zE jM (Pc.here _) rfl rfl rb_3 rfl) (yF (.tail _ (.tail _ (.head _)))) rfl ?_
  intro v115 r115
  refine vT rfl rfl rfl (fun h' L' hh hR => zF rfl) rfl (kL (F := fun v_ => (rpT (rpQ 5300000)).Is h5 v_ P2) rfl rfl rfl (zE yZ (Pc.here _) rfl rfl rb_17 rfl) (yF (.head _)) rfl ?_)
  intro v118 r118
  refine kL (F := fun v_ => (rpP (rpT (rpQ 2)) (rpQ 2)).Is h5 v_ s19) rfl rfl rfl (zE jM (Pc.here _) rfl rfl rb_3 rfl) (yF (.tail _ (.tail _ (.head _)))) rfl ?_
  intro v119 r119
  refine w_c rfl (lK rfl rfl ?_)
  replace r27_1 := r27_1.mono ((((hmmg7_13.trans hh4).trans hmmc).trans hmmd).trans hh5)
  refine zY (vs := [_, _, _]) call26 e3z (fun w hs => rW hs r27_1 r114 r115 (by decide) (by decide) (by decide) (by decide) (by first | omega | exact Nat.le_trans hx19.2 (by decide) | exact Nat.le_trans (gG _ _) (by omega) | exact Nat.le_trans (gU _ _) (by omega))) rfl ?_
  intro v116 h6 hh6 r116
  obtain rfl : v116 = vB (inP s19 (tA p23 p19) P2) := r116
  refine w_c rfl (lK rfl rfl ?_)
  replace ra19 := ra19.mono ((((hh4.trans hmmc).trans hmmd).trans hh5).trans hh6)
  replace r118 := r118.mono hh6
  replace r119 := r119.mono hh6
  refine zY (vs := [_, _, _]) call26 e3z (fun w hs => rW hs ra19 r118 r119 (by decide) (by decide) (by decide) (by decide) (by first | omega | exact Nat.le_trans hx19.2 (by decide) | exact Nat.le_trans (gG _ _) (by omega) | exact Nat.le_trans (gU _ _) (by omega))) rfl ?_
  intro v120 h7 hh7 r120
  obtain rfl : v120 = vB (inP s19 p19 P2) := r120
  refine vT rfl rfl rfl (fun h' L' hh hR => OpV.tr (by exact cutF_in hx19.1 hP2 (oW.1 (by omega))) (tK underlying4 rfl rfl)) rfl (vT rfl rfl rfl (fun h' L' hh hR => xN rfl rfl) rfl (w_q rfl (fun h' L' hh hR => xC rfl rfl) rfl (w_q rfl (fun h' L' hh hR => zF rfl) rfl ?_)))
  refine w_c rfl (lK rfl rfl ?_)
  refine zY (vs := []) call10 trivial (fun w hs => sV hs) rfl ?_
  intro v125 h8 hh8 hr125
  subst hr125
  refine w_q rfl (fun h' L' hh hR => xC rfl rfl) rfl (w_q rfl (fun h' L' hh hR => zZ rfl) rfl (xA (zJ (e' := [(2, _)]) ⟨rfl, trivial⟩ (zB (zQ (yH rfl rfl ?_))))))
  rfl
 rw [yS hg_26]
 refine vT rfl rfl rfl (fun h' L' hh hR => zF rfl) rfl ?_
 replace rb_17 := rb_17.mono hh5
 refine kL (F := fun v_ => (rpT (rpQ 5300000)).Is h5 v_ P2) rfl rfl rfl (zE yZ (Pc.here _) rfl rfl rb_17 rfl) (yF (.head _)) rfl ?_
 intro v100 r100
 replace rb_3 := rb_3.mono (((((((hg23.trans hh3).trans hmmg7_3).trans hmmg7_13).trans hh4).trans hmmc).trans hmmd).trans hh5)
 refine kL (F := fun v_ => (rpP (rpT (rpQ 2)) (rpQ 2)).Is h5 v_ s19) rfl rfl rfl (zE jM (Pc.here _) rfl rfl rb_3 rfl) (yF (.tail _ (.tail _ (.head _)))) rfl ?_
 intro v101 r101
 refine vT rfl rfl rfl (fun h' L' hh hR => zF rfl) rfl (kL (F := fun v_ => (rpT (rpQ 5300000)).Is h5 v_ P2) rfl rfl rfl (zE yZ (Pc.here _) rfl rfl rb_17 rfl) (yF (.head _)) rfl ?_)
 intro v104 r104
 refine kL (F := fun v_ => (rpP (rpT (rpQ 2)) (rpQ 2)).Is h5 v_ s19) rfl rfl rfl (zE jM (Pc.here _) rfl rfl rb_3 rfl) (yF (.tail _ (.tail _ (.head _)))) rfl ?_
 intro v105 r105
 refine w_c rfl (lK rfl rfl ?_)
 replace r27_0 := r27_0.mono (((((hmmg7_3.trans hmmg7_13).trans hh4).trans hmmc).trans hmmd).trans hh5)
 refine zY (vs := [_, _, _]) call26 e3z (fun w hs => rW hs r27_0 r100 r101 (by decide) (by decide) (by decide) (by decide) (by first | omega | exact Nat.le_trans hx19.2 (by decide) | exact Nat.le_trans (gG _ _) (by omega) | exact Nat.le_trans (gU _ _) (by omega))) rfl ?_
 intro v102 h6 hh6 r102
 obtain rfl : v102 = vB (inP s19 (tB p23 p19) P2) := r102
 refine w_c rfl (lK rfl rfl ?_)
 replace ra19 := ra19.mono ((((hh4.trans hmmc).trans hmmd).trans hh5).trans hh6)
 replace r104 := r104.mono hh6
 replace r105 := r105.mono hh6
 refine zY (vs := [_, _, _]) call26 e3z (fun w hs => rW hs ra19 r104 r105 (by decide) (by decide) (by decide) (by decide) (by first | omega | exact Nat.le_trans hx19.2 (by decide) | exact Nat.le_trans (gG _ _) (by omega) | exact Nat.le_trans (gU _ _) (by omega))) rfl ?_
 intro v106 h7 hh7 r106
 obtain rfl : v106 = vB (inP s19 p19 P2) := r106
 refine vT rfl rfl rfl (fun h' L' hh hR => OpV.tr (by exact cutB_in hx19.1 hP2 (oX.1 (by omega))) (tK underlying4 rfl rfl)) rfl (w_q rfl (fun h' L' hh hR => xN rfl rfl) rfl (w_q rfl (fun h' L' hh hR => zF rfl) rfl (vT rfl rfl rfl (fun h' L' hh hR => zF rfl) rfl (vT rfl rfl rfl (fun h' L' hh hR => tJ (q := 0) rfl rfl) rfl (vT rfl rfl rfl (fun h' L' hh hR => zF rfl) rfl ?_)))))
 refine aN ((sdZ p23 P2) ≤ (0 : Int)) (fun hg_28 => ?_) (fun hg_28 => ?_)
 ·
  rw [xJ hg_28]
  refine vD rfl rfl rfl rfl rfl (vD rfl rfl rfl rfl rfl (vD rfl rfl rfl rfl rfl (vD rfl rfl rfl rfl rfl (vD rfl rfl rfl rfl rfl (vD rfl rfl rfl rfl rfl ?_)))))
  refine w_c rfl (dK rfl rfl rfl rfl ?_)
  refine w_c rfl (dK rfl rfl rfl rfl (vD rfl rfl rfl rfl rfl (vT rfl rfl rfl (fun h' L' hh hR => xC rfl rfl) rfl (w_q rfl (fun h' L' hh hR => xC rfl rfl) rfl (w_q rfl (fun h' L' hh hR => zF rfl) rfl ?_)))))
  refine w_c rfl (lK rfl rfl ?_)
  refine zY (vs := []) call10 trivial (fun w hs => sV hs) rfl ?_
  intro v125 h8 hh8 hr125
  subst hr125
  refine w_q rfl (fun h' L' hh hR => xC rfl rfl) rfl (w_q rfl (fun h' L' hh hR => zZ rfl) rfl (xA (zJ (e' := [(2, _)]) ⟨rfl, trivial⟩ (zB (zQ (yH rfl rfl ?_))))))
  rfl
 rw [yS hg_28]
 refine vT rfl rfl rfl (fun h' L' hh hR => zF rfl) rfl ?_
 replace rb_17 := rb_17.mono (hh6.trans hh7)
 refine kL (F := fun v_ => (rpT (rpQ 5300000)).Is h7 v_ P2) rfl rfl rfl (zE yZ (Pc.here _) rfl rfl rb_17 rfl) (yF (.head _)) rfl ?_
 intro v114 r114
 replace rb_3 := rb_3.mono (hh6.trans hh7)
 refine kL (F := fun v_ => (rpP (rpT (rpQ 2)) (rpQ 2)).Is h7 v_ s19) rfl rfl rfl (zE jM (Pc.here _) rfl rfl rb_3 rfl) (yF (.tail _ (.tail _ (.head _)))) rfl ?_
 intro v115 r115
 refine vT rfl rfl rfl (fun h' L' hh hR => zF rfl) rfl (kL (F := fun v_ => (rpT (rpQ 5300000)).Is h7 v_ P2) rfl rfl rfl (zE yZ (Pc.here _) rfl rfl rb_17 rfl) (yF (.head _)) rfl ?_)
 intro v118 r118
 refine kL (F := fun v_ => (rpP (rpT (rpQ 2)) (rpQ 2)).Is h7 v_ s19) rfl rfl rfl (zE jM (Pc.here _) rfl rfl rb_3 rfl) (yF (.tail _ (.tail _ (.head _)))) rfl ?_
 intro v119 r119
 refine w_c rfl (lK rfl rfl ?_)
 replace r27_1 := r27_1.mono ((((((hmmg7_13.trans hh4).trans hmmc).trans hmmd).trans hh5).trans hh6).trans hh7)
 refine zY (vs := [_, _, _]) call26 e3z (fun w hs => rW hs r27_1 r114 r115 (by decide) (by decide) (by decide) (by decide) (by first | omega | exact Nat.le_trans hx19.2 (by decide) | exact Nat.le_trans (gG _ _) (by omega) | exact Nat.le_trans (gU _ _) (by omega))) rfl ?_
 intro v116 h8 hh8 r116
 obtain rfl : v116 = vB (inP s19 (tA p23 p19) P2) := r116
 refine w_c rfl (lK rfl rfl ?_)
 replace ra19 := ra19.mono (hh7.trans hh8)
 replace r118 := r118.mono hh8
 replace r119 := r119.mono hh8
 refine zY (vs := [_, _, _]) call26 e3z (fun w hs => rW hs ra19 r118 r119 (by decide) (by decide) (by decide) (by decide) (by first | omega | exact Nat.le_trans hx19.2 (by decide) | exact Nat.le_trans (gG _ _) (by omega) | exact Nat.le_trans (gU _ _) (by omega))) rfl ?_
 intro v120 h9 hh9 r120
 obtain rfl : v120 = vB (inP s19 p19 P2) := r120
 refine vT rfl rfl rfl (fun h' L' hh hR => OpV.tr (by exact cutF_in hx19.1 hP2 (oW.1 (by omega))) (tK underlying4 rfl rfl)) rfl (vT rfl rfl rfl (fun h' L' hh hR => xN rfl rfl) rfl (w_q rfl (fun h' L' hh hR => xC rfl rfl) rfl (w_q rfl (fun h' L' hh hR => zF rfl) rfl ?_)))
 refine w_c rfl (lK rfl rfl ?_)
 refine zY (vs := []) call10 trivial (fun w hs => sV hs) rfl ?_
 intro v125 h10 hh10 hr125
 subst hr125
 refine w_q rfl (fun h' L' hh hR => xC rfl rfl) rfl (w_q rfl (fun h' L' hh hR => zZ rfl) rfl (xA (zJ (e' := [(2, _)]) ⟨rfl, trivial⟩ (zB (zQ (yH rfl rfl ?_))))))
 rfl
end Go.Proofs.YtghhjjmjpeehdaaGreat
