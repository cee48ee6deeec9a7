/- Texts that the proof needs, part 6. -/
import Derived.Test.YtkdmphehabpcfaaGreatK5

namespace Go.Proofs.YtkdmphehabpcfaaGreat
open Bk Go
set_option linter.unusedVariables false
set_option linter.unusedSimpArgs false
set_option maxRecDepth 10000

theorem o_span_valid {w0 : World} {h0 : Mem}  (hs : MLe h0 (mem w0)) {k : Nat} {vs : Value} {s : (Rat × Rat)} (rs : (rpP (rpQ k) (rpQ k)).Is h0 vs s) (hcd0 : k ≤ 1000000000)  :
    Calls Tryz.prog 17 #[vs] w0 (Ret w0 h0 (fun _ r => r = vB (s.1 ≤ s.2))) := by
 refine calls_begin (n := 19) (e := [(0, vs)]) (vs := [vs]) Tryz.func17 rfl rfl (Nat.le_of_ble_eq_true rfl) hs ⟨rfl, trivial⟩ (gc_seq (gc_region (gl_newop (new_boxx (ρ := (rpP (rpQ k) (rpQ k))) rfl rs) rfl rfl rfl ?_)))
 intro v1 q1 hq1
 obtain ⟨b1, cs1, rfl, rfl, rb1⟩ := hq1
 refine asg rfl rfl (gl_nil (gq_then (gc_seq (gc_region (gv ((ov_field_addr Tryz.underlying31 rfl Tryz.sizeOf29 rfl).cv (show _ = vP b1 0 from congrArg (vP b1) (by rfl))) rfl (gl_x (F := fun v_ => (rpQ k).Is h0 v_ s.1) (ox_load_box ty29 (Pc.fst (Pc.here _)) rfl rfl rb1 rfl) (mem1 (.head _)) rfl ?_))))))
 intro v4 r4
 obtain ⟨vn4_1, vd4_1, hv4_1, hn4_1, hd4_1, hlq4_1⟩ := open_q r4
 subst hv4_1
 refine gl_call (vs := [_]) rfl rfl rfl rfl Tryz.call67 ⟨rfl, trivial⟩ (fun w hs => rat_valid hs rfl hn4_1 hd4_1 (by first | omega | exact Nat.le_trans (lq_num _) (by omega)) (by first | omega | exact Nat.le_trans (lq_denL _) (by omega))) ?_
 intro v5 h1 hh1 hr5
 rw [vB_true (by exact valid_rat _)] at hr5
 subst hr5
 refine mv rfl rfl (gl_on rfl rfl rfl (gv ((ov_field_addr Tryz.underlying31 rfl Tryz.sizeOf29 rfl).cv (show _ = vP b1 3 from congrArg (vP b1) (by rfl))) rfl (gl_on rfl rfl rfl ?_)))
 replace rb1 := rb1.mono hh1
 refine gl_x (F := fun v_ => (rpQ k).Is h1 v_ s.2) (ox_load_box ty29 (Pc.snd (Pc.here _)) rfl rfl rb1 rfl) (mem1 (.head _)) rfl ?_
 intro v8 r8
 refine gl_on rfl rfl rfl ?_
 obtain ⟨vn8_2, vd8_2, hv8_2, hn8_2, hd8_2, hlq8_2⟩ := open_q r8
 subst hv8_2
 refine gl_call (vs := [_]) rfl rfl rfl rfl Tryz.call67 ⟨rfl, trivial⟩ (fun w hs => rat_valid hs rfl hn8_2 hd8_2 (by first | omega | exact Nat.le_trans (lq_num _) (by omega)) (by first | omega | exact Nat.le_trans (lq_denL _) (by omega))) ?_
 intro v9 h2 hh2 hr9
 rw [vB_true (by exact valid_rat _)] at hr9
 subst hr9
 refine gv (ov_pick_t rfl rfl) rfl (mv rfl rfl (gl_on rfl rfl rfl (gv ((ov_field_addr Tryz.underlying31 rfl Tryz.sizeOf29 rfl).cv (show _ = vP b1 0 from congrArg (vP b1) (by rfl))) rfl (gl_on rfl rfl rfl ?_))))
 replace rb1 := rb1.mono hh2
 refine gl_x (F := fun v_ => (rpQ k).Is h2 v_ s.1) (ox_load_box ty29 (Pc.fst (Pc.here _)) rfl rfl rb1 rfl) (mem1 (.head _)) rfl ?_
 intro v13 r13
 refine gl_on rfl rfl rfl (gv ((ov_field_addr Tryz.underlying31 rfl Tryz.sizeOf29 rfl).cv (show _ = vP b1 3 from congrArg (vP b1) (by rfl))) rfl (gl_on rfl rfl rfl (gl_x (F := fun v_ => (rpQ k).Is h2 v_ s.2) (ox_load_box ty29 (Pc.snd (Pc.here _)) rfl rfl rb1 rfl) (mem1 (.head _)) rfl ?_)))
 intro v15 r15
 refine gl_on rfl rfl rfl ?_
 refine gl_call (vs := [_, _]) rfl rfl rfl rfl Tryz.call64 ⟨rfl, rfl, trivial⟩ (fun w hs => o_rat_cmp hs r13 r15 (by omega)) ?_
 intro v16 h3 hh3 r16
 obtain rfl : v16 = vI (cmpQ s.1 s.2) := r16
 have hcr16 := cmpQ_range s.1 s.2
 refine gl_on rfl rfl rfl (gv (ov_leq_i (q := 0) rfl rfl) rfl (gv (ov_pick_t rfl rfl) rfl (asg rfl rfl (gl_nil (gq_keep (e' := [(2, _)]) ⟨rfl, trivial⟩ (gq_then (gc_ret (gq_body1 rfl rfl ?_))))))))
 exact vB_iff cmp_le_iff

theorem o_span_halves {w0 : World} {h0 : Mem}  (hs : MLe h0 (mem w0)) {k : Nat} {vs : Value} {s : (Rat × Rat)} (rs : (rpP (rpQ k) (rpQ k)).Is h0 vs s) (hcd0 : k ≤ 1000000000) (hcd1 : s.1 ≤ s.2)  :
    Calls Tryz.prog 15 #[vs] w0 (Ret w0 h0 (fun h r => ∃ u0 u1, r = .tuple #[u0, u1] ∧ (rpP (rpQ (2 * k + 2)) (rpQ (2 * k + 2))).Is h u0 (s.1, midQ s.1 s.2) ∧ (rpP (rpQ (2 * k + 2)) (rpQ (2 * k + 2))).Is h u1 (midQ s.1 s.2, s.2))) := by
 refine calls_begin (n := 15) (e := [(0, vs)]) (vs := [vs]) Tryz.func15 rfl rfl (Nat.le_of_ble_eq_true rfl) hs ⟨rfl, trivial⟩ (gc_seq (gc_region (gl_newop (new_boxx (ρ := (rpP (rpQ k) (rpQ k))) rfl rs) rfl rfl rfl ?_)))
 intro v1 q1 hq1
 obtain ⟨b1, cs1, rfl, rfl, rb1⟩ := hq1
 refine gl_newop (new_allocx (ρ := (rpP (rpQ 1) (rpQ 1))) (X := ((0 : Rat), (0 : Rat))) info31 rfl rfl (zr_p (zr_q (by decide)) (zr_q (by decide)))) rfl rfl rfl ?_
 intro v2 q2 hq2
 obtain ⟨b2, cs2, rfl, rfl, rb2⟩ := hq2
 refine gl_newop (new_allocx (ρ := (rpP (rpQ 1) (rpQ 1))) (X := ((0 : Rat), (0 : Rat))) info31 rfl rfl (zr_p (zr_q (by decide)) (zr_q (by decide)))) rfl rfl rfl ?_
 intro v3 q3 hq3
 obtain ⟨b3, cs3, rfl, rfl, rb3⟩ := hq3
 refine gl_nil (gq_then (gc_seq (gc_region (gl_x (F := fun v_ => (rpP (rpQ k) (rpQ k)).Is h0 v_ s) (ox_load_box ty31 (Pc.here _) rfl rfl rb1 rfl) (mem1 (.tail _ (.tail _ (.head _)))) rfl ?_))))
 intro v5 r5
 refine gl_call (vs := [_]) rfl rfl rfl rfl Tryz.call30 ⟨rfl, trivial⟩ (fun w hs => o_span_mid hs r5 (by omega)) ?_
 intro v6 h1 hh1 r6
 change (rpQ (k + k + 2)).Is h1 v6 (midQ s.1 s.2) at r6
 replace r6 := Rp.Is.le r6 (Le.q (l := 2 * k + 2) (by omega))
 refine gl_newop (new_allocx (ρ := (rpQ 1)) (X := (0 : Rat)) info29 rfl rfl (zr_q (by decide))) rfl rfl rfl ?_
 intro v4 q4 hq4
 obtain ⟨b4, cs4, rfl, rfl, rb4⟩ := hq4
 have rw_3 := (Le.q (l := 2 * k + 2) (by omega)).R rb4
 refine gl_updx (A := []) (F := fun c_ => (rpQ (2 * k + 2)).R h1 c_ (midQ s.1 s.2)) (upd_box Tryz.sizeOf29 (Pc.here _) rfl rfl rfl rw_3 r6 rfl) ?_
 intro cs_4 rb_5
 refine gl_nil (gq_then (gc_seq ?_))
 refine gc_draw 8 _ [] [(0, .q), (1, .q), (2, .q), (4, .q), (5, .q), (6, .q), (3, .c), (7, .c), (8, .t), (9, .t)] mixed (fun x hx => by cases hx) (by kernel_rfl) (fun x hx => by cases hx) (fun r hr => hr) (w_q rfl (fun h' L' hh hR => (ov_field_addr Tryz.underlying31 rfl Tryz.sizeOf29 rfl).cv (show _ = vP b1 0 from congrArg (vP b1) (by rfl))) rfl ?_)
 replace rb1 := rb1.mono hh1
 refine w_qx (F := fun v_ => (rpQ k).Is h1 v_ s.1) rfl (ox_load_box ty29 (Pc.fst (Pc.here _)) rfl rfl rb1 rfl) (mem1 (.tail _ (.tail _ (.tail _ (.head _))))) rfl ?_
 intro v8 r8
 refine w_qx (F := fun v_ => (rpQ (2 * k + 2)).Is h1 v_ (midQ s.1 s.2)) rfl (ox_load_box ty29 (Pc.here _) rfl rfl rb_5 rfl) (mem1 (.head _)) rfl ?_
 intro v9 r9
 refine w_qx (F := fun v_ => (rpQ (2 * k + 2)).Is h1 v_ (midQ s.1 s.2)) rfl (ox_load_box ty29 (Pc.here _) rfl rfl rb_5 rfl) (mem1 (.head _)) rfl ?_
 intro v11 r11
 refine w_q rfl (fun h' L' hh hR => (ov_field_addr Tryz.underlying31 rfl Tryz.sizeOf29 rfl).cv (show _ = vP b1 3 from congrArg (vP b1) (by rfl))) rfl (w_qx (F := fun v_ => (rpQ k).Is h1 v_ s.2) rfl (ox_load_box ty29 (Pc.snd (Pc.here _)) rfl rfl rb1 rfl) (mem1 (.tail _ (.tail _ (.tail _ (.head _))))) rfl ?_)
 intro v13 r13
 refine w_c rfl ?_
 refine s_call (vs := [_, _]) Tryz.call32 ⟨rfl, rfl, trivial⟩ (fun w hs => o_span_of hs (r8.le (Le.q (l := 2 * k + 2) (by omega))) r9 (by omega)) rfl ?_
 intro v10 h2 hh2 r10
 change (rpP (rpQ (2 * k + 2)) (rpQ (2 * k + 2))).Is h2 v10 (ofS s.1 (midQ s.1 s.2)) at r10
 refine w_c rfl ?_
 replace r11 := r11.mono hh2
 replace r13 := r13.mono hh2
 refine s_call (vs := [_, _]) Tryz.call32 ⟨rfl, rfl, trivial⟩ (fun w hs => o_span_of hs r11 (r13.le (Le.q (l := 2 * k + 2) (by omega))) (by omega)) rfl ?_
 intro v14 h3 hh3 r14
 change (rpP (rpQ (2 * k + 2)) (rpQ (2 * k + 2))).Is h3 v14 (ofS (midQ s.1 s.2) s.2) at r14
 replace rb2 := rb2.mono ((hh1.trans hh2).trans hh3)
 have rw_6 := (Le.p (Le.q (l := 2 * k + 2) (by omega)) (Le.q (l := 2 * k + 2) (by omega))).R rb2
 replace r10 := r10.mono hh3
 refine w_tx_upd (A := [_, _]) (F := fun c_ => (rpP (rpQ (2 * k + 2)) (rpQ (2 * k + 2))).R h3 c_ (ofS s.1 (midQ s.1 s.2))) rfl (upd_box Tryz.sizeOf31 (Pc.here _) rfl rfl rfl rw_6 r10 rfl) ?_
 intro cs_7 rb_8
 replace rb3 := rb3.mono ((hh1.trans hh2).trans hh3)
 have rw_9 := (Le.p (Le.q (l := 2 * k + 2) (by omega)) (Le.q (l := 2 * k + 2) (by omega))).R rb3
 refine w_tx_upd (A := [_]) (F := fun c_ => (rpP (rpQ (2 * k + 2)) (rpQ (2 * k + 2))).R h3 c_ (ofS (midQ s.1 s.2) s.2)) rfl (upd_box Tryz.sizeOf31 (Pc.here _) rfl rfl rfl rw_9 r14 rfl) ?_
 intro cs_10 rb_11
 refine w_nil (gq_keep (e' := [(2, _), (3, _)]) ⟨rfl, rfl, trivial⟩ (gq_then (gc_ret (gq_exv (rv_o (t := 2) ty31 (.tail _ (.tail _ (.head _))) rfl rb_8) ?_))))
 intro w_12 hvw_12 rr_13
 refine gq_exv (rv_o (t := 3) ty31 (.tail _ (.head _)) rfl rb_11) ?_
 intro w_14 hvw_14 rr_15
 refine gq_res (fun E S => run_res2 rfl hvw_12 hvw_14 E S) ?_
 refine ⟨_, _, ?_, (Rp.Is.cast rr_13 (by exact (halves_eq hcd1).1)), (Rp.Is.cast rr_15 (by exact (halves_eq hcd1).2))⟩
 rfl

theorem o_sref_halves {w0 : World} {h0 : Mem}  (hs : MLe h0 (mem w0)) {k : Nat} {vs : Value} {s : (Rat × Rat)} (rs : (rpP (rpQ k) (rpQ k)).Is h0 vs s) (hcd0 : k ≤ 1000000000)  :
    Calls Tryz.prog 16 #[vs] w0 (Ret w0 h0 (fun h r => ∃ u0 u1, r = .tuple #[u0, u1] ∧ (rpP (rpQ (2 * k + 2)) (rpQ (2 * k + 2))).Is h u0 (s.1, midQ s.1 s.2) ∧ (rpP (rpQ (2 * k + 2)) (rpQ (2 * k + 2))).Is h u1 (midQ s.1 s.2, s.2))) := by
 refine calls_begin (n := 15) (e := [(0, vs)]) (vs := [vs]) Tryz.func16 rfl rfl (Nat.le_of_ble_eq_true rfl) hs ⟨rfl, trivial⟩ (gc_seq (gc_region (gl_newop (new_boxx (ρ := (rpP (rpQ k) (rpQ k))) rfl rs) rfl rfl rfl ?_)))
 intro v1 q1 hq1
 obtain ⟨b1, cs1, rfl, rfl, rb1⟩ := hq1
 refine gl_newop (new_allocx (ρ := (rpP (rpQ 1) (rpQ 1))) (X := ((0 : Rat), (0 : Rat))) info31 rfl rfl (zr_p (zr_q (by decide)) (zr_q (by decide)))) rfl rfl rfl ?_
 intro v2 q2 hq2
 obtain ⟨b2, cs2, rfl, rfl, rb2⟩ := hq2
 refine gl_newop (new_allocx (ρ := (rpP (rpQ 1) (rpQ 1))) (X := ((0 : Rat), (0 : Rat))) info31 rfl rfl (zr_p (zr_q (by decide)) (zr_q (by decide)))) rfl rfl rfl ?_
 intro v3 q3 hq3
 obtain ⟨b3, cs3, rfl, rfl, rb3⟩ := hq3
 refine gl_nil (gq_then (gc_seq (gc_region (gl_x (F := fun v_ => (rpP (rpQ k) (rpQ k)).Is h0 v_ s) (ox_load_box ty31 (Pc.here _) rfl rfl rb1 rfl) (mem1 (.tail _ (.tail _ (.head _)))) rfl ?_))))
 intro v5 r5
 refine gl_call (vs := [_]) rfl rfl rfl rfl Tryz.call31 ⟨rfl, trivial⟩ (fun w hs => o_sref_mid hs r5 (by omega)) ?_
 intro v6 h1 hh1 r6
 change (rpQ (k + k + 2)).Is h1 v6 (midQ s.1 s.2) at r6
 replace r6 := Rp.Is.le r6 (Le.q (l := 2 * k + 2) (by omega))
 refine gl_newop (new_allocx (ρ := (rpQ 1)) (X := (0 : Rat)) info29 rfl rfl (zr_q (by decide))) rfl rfl rfl ?_
 intro v4 q4 hq4
 obtain ⟨b4, cs4, rfl, rfl, rb4⟩ := hq4
 have rw_16 := (Le.q (l := 2 * k + 2) (by omega)).R rb4
 refine gl_updx (A := []) (F := fun c_ => (rpQ (2 * k + 2)).R h1 c_ (midQ s.1 s.2)) (upd_box Tryz.sizeOf29 (Pc.here _) rfl rfl rfl rw_16 r6 rfl) ?_
 intro cs_17 rb_18
 refine gl_nil (gq_then (gc_seq ?_))
 refine gc_draw1 (A := [_, _]) 9 [] [(0, .q), (1, .q), (2, .q), (3, .q), (4, .q), (5, .q), (6, .q), (7, .q), (8, .c), (9, .t)] mixed (fun x hx => by cases hx) (by kernel_rfl) (fun x hx => by cases hx) (w_q rfl (fun h' L' hh hR => (ov_field_addr Tryz.underlying31 rfl Tryz.sizeOf29 rfl).cv (show _ = vP b1 0 from congrArg (vP b1) (by rfl))) rfl ?_)
 replace rb1 := rb1.mono hh1
 refine w_qx (F := fun v_ => (rpQ k).Is h1 v_ s.1) rfl (ox_load_box ty29 (Pc.fst (Pc.here _)) rfl rfl rb1 rfl) (mem1 (.tail _ (.tail _ (.head _)))) rfl ?_
 intro v8 r8
 refine w_qx (F := fun v_ => (rpQ (2 * k + 2)).Is h1 v_ (midQ s.1 s.2)) rfl (ox_load_box ty29 (Pc.here _) rfl rfl rb_18 rfl) (mem1 (.head _)) rfl ?_
 intro v9 r9
 refine w_qx (F := fun v_ => (rpP (rpQ (k + 1)) (rpQ (2 * k + 2))).Is h1 v_ (s.1, midQ s.1 s.2)) rfl (ox_build (ps' := [(0, _), (1, _)]) Tryz.underlying31 info31 rfl rfl (places31 Tryz.underlying31) ⟨rfl, rfl, rfl, rfl, trivial⟩ rfl (zr_p (zr_q (by omega)) (zr_q (by omega))) (fx_one rfl (Pc.fst (Pc.here _)) (r8.le (Le.q (l := k + 1) (by omega))) (fx_one rfl (Pc.snd (Pc.here _)) r9 fx_nil))) mem0 rfl ?_
 intro v10 r10
 refine w_qx (F := fun v_ => (rpQ (2 * k + 2)).Is h1 v_ (midQ s.1 s.2)) rfl (ox_load_box ty29 (Pc.here _) rfl rfl rb_18 rfl) (mem1 (.head _)) rfl ?_
 intro v11 r11
 refine w_q rfl (fun h' L' hh hR => (ov_field_addr Tryz.underlying31 rfl Tryz.sizeOf29 rfl).cv (show _ = vP b1 3 from congrArg (vP b1) (by rfl))) rfl (w_qx (F := fun v_ => (rpQ k).Is h1 v_ s.2) rfl (ox_load_box ty29 (Pc.snd (Pc.here _)) rfl rfl rb1 rfl) (mem1 (.tail _ (.tail _ (.head _)))) rfl ?_)
 intro v13 r13
 refine w_qx (F := fun v_ => (rpP (rpQ (2 * k + 2)) (rpQ (k + 1))).Is h1 v_ (midQ s.1 s.2, s.2)) rfl (ox_build (ps' := [(0, _), (1, _)]) Tryz.underlying31 info31 rfl rfl (places31 Tryz.underlying31) ⟨rfl, rfl, rfl, rfl, trivial⟩ rfl (zr_p (zr_q (by omega)) (zr_q (by omega))) (fx_one rfl (Pc.fst (Pc.here _)) r11 (fx_one rfl (Pc.snd (Pc.here _)) (r13.le (Le.q (l := k + 1) (by omega))) fx_nil))) mem0 rfl ?_
 intro v14 r14
 refine w_c rfl ?_
 replace rb2 := rb2.mono hh1
 have rw_19 := (Le.p (Le.q (l := k + 1) (by omega)) (Le.q (l := 2 * k + 2) (by omega))).R rb2
 refine s_updx (A := [_, _]) (F := fun c_ => (rpP (rpQ (k + 1)) (rpQ (2 * k + 2))).R h1 c_ (s.1, midQ s.1 s.2)) (upd_box Tryz.sizeOf31 (Pc.here _) rfl rfl rfl rw_19 r10 rfl) (mem_kept (by simp)) ?_
 intro cs_20 rb_21
 replace rb3 := rb3.mono hh1
 have rw_22 := (Le.p (Le.q (l := 2 * k + 2) (by omega)) (Le.q (l := k + 1) (by omega))).R rb3
 refine w_tx_upd (A := [_]) (F := fun c_ => (rpP (rpQ (2 * k + 2)) (rpQ (k + 1))).R h1 c_ (midQ s.1 s.2, s.2)) rfl (upd_box Tryz.sizeOf31 (Pc.here _) rfl rfl rfl rw_22 r14 rfl) ?_
 intro cs_23 rb_24
 refine w_nil (gq_keep (e' := [(2, _), (3, _)]) ⟨rfl, rfl, trivial⟩ (gq_then (gc_ret (gq_exv (rv_o (t := 2) ty31 (.tail _ (.tail _ (.head _))) rfl rb_21) ?_))))
 intro w_25 hvw_25 rr_26
 refine gq_exv (rv_o (t := 3) ty31 (.tail _ (.head _)) rfl rb_24) ?_
 intro w_27 hvw_27 rr_28
 refine gq_res (fun E S => run_res2 rfl hvw_25 hvw_27 E S) ?_
 refine ⟨_, _, ?_, (Rp.Is.le rr_26 (Le.p (Le.q (l := 2 * k + 2) (by omega)) (Le.refl _))), (Rp.Is.le rr_28 (Le.p (Le.refl _) (Le.q (l := 2 * k + 2) (by omega))))⟩
 rfl

theorem law3_spanreads {w0 : World} {h0 : Mem}  (hs : MLe h0 (mem w0)) {vl : Value} {xsl : List Int} (hl : Is h0 vl xsl) {n : Int} (hn1 : -9223372036854775808 ≤ n) (hn2 : n < 9223372036854775808) {d : Int} (hd1 : -9223372036854775808 ≤ d) (hd2 : d < 9223372036854775808) :
    Calls Tryz.prog 3 #[vl, vI n, vI d] w0 (Ret w0 h0 (fun _ r => r = .bool true)) := by
 have hlenl := hl.lt63
 refine calls_begin (n := 179) (e := [(0, vl), (1, vI n), (2, vI d)]) (vs := [vl, vI n, vI d]) Tryz.func3 rfl rfl (Nat.le_of_ble_eq_true rfl) hs ⟨rfl, rfl, rfl, trivial⟩ (gc_seq (gc_region (asg rfl rfl (gl_nil (gq_then (gc_seq (gc_seq (gc_region (mv rfl rfl ?_)))))))))
 refine gl_call (vs := [_]) rfl rfl rfl rfl Tryz.call6 ⟨rfl, trivial⟩ (fun w hs => made_light hs hl) ?_
 intro v24 h1 hh1 hr24
 subst hr24
 refine gv (ov_not rfl) rfl (gl_nil (gq_then ?_))
 refine gc_cond rfl (fun hc25 => ?_) (fun hc25 => ?_)
 ·
  refine gc_seq (gc_region ?_)
  refine gl_call (vs := []) rfl rfl rfl rfl Tryz.call7 trivial (fun w hs => law3_awake hs) ?_
  intro v26 h2 hh2 hr26
  subst hr26
  refine asg rfl rfl (gl_nil (gq_then (gc_ret (gr_then (gq_body1 rfl rfl ?_)))))
  rfl
 ·
  refine gc_skip (gq_then (gc_seq (gc_region (mv rfl rfl ?_))))
  replace hl := hl.mono hh1
  refine gl_call_own (vs := [_]) rfl rfl rfl rfl Tryz.call8 ⟨rfl, trivial⟩ (fun w hs => made_roll hs hl) ?_
  intro v28 h2 L28 hh2 hr28
  obtain ⟨b28, rfl, rfl⟩ := hr28
  refine asg rfl rfl (gl_nil (gq_then (gc_seq (gc_region (mv rfl rfl ?_)))))
  replace hl := hl.mono hh2
  refine gl_call_mut2 (A := []) (vs := [_]) Tryz.call9 ⟨rfl, trivial⟩ (fun X w hs => o_dice_span hl (by first | omega | exact Nat.zero_le _) hs) rfl ?_
  intro v30 g30 q30 hg30 hr30
  obtain ⟨k30, p30, rfl, hk30, hle30, hr30⟩ := hr30
  refine mv rfl rfl ?_
  replace hl := hl.mono hg30
  refine gl_call_mut2 (A := []) (vs := [_]) Tryz.call9 ⟨rfl, trivial⟩ (fun X w hs => o_dice_span hl (by first | omega | exact Nat.zero_le _) hs) rfl ?_
  intro v32 g32 q32 hg32 hr32
  obtain ⟨k32, p32, rfl, hk32, hle32, hr32⟩ := hr32
  refine mv rfl rfl (mv rfl rfl ?_)
  refine gl_call (vs := [_, _]) rfl rfl rfl rfl Tryz.call10 ⟨rfl, rfl, trivial⟩ (fun w hs => o_made_rat hs (by omega) (by omega) (by omega) (by omega)) ?_
  intro v35 h3 hh3 r35
  change (rpQ 2).Is h3 v35 (ratQ n d) at r35
  refine gl_newop (new_allocx (ρ := (rpP (rpQ 1) (rpQ 1))) (X := ((0 : Rat), (0 : Rat))) info31 rfl rfl (zr_p (zr_q (by decide)) (zr_q (by decide)))) rfl rfl rfl ?_
  intro v8 q8 hq8
  obtain ⟨b8, cs8, rfl, rfl, rb8⟩ := hq8
  refine gl_newop (new_allocx (ρ := (rpP (rpQ 1) (rpQ 1))) (X := ((0 : Rat), (0 : Rat))) info31 rfl rfl (zr_p (zr_q (by decide)) (zr_q (by decide)))) rfl rfl rfl ?_
  intro v9 q9 hq9
  obtain ⟨b9, cs9, rfl, rfl, rb9⟩ := hq9
  refine gl_newop (new_allocx (ρ := (rpQ 1)) (X := (0 : Rat)) info29 rfl rfl (zr_q (by decide))) rfl rfl rfl ?_
  intro v10 q10 hq10
  obtain ⟨b10, cs10, rfl, rfl, rb10⟩ := hq10
  have rw_29 := (Le.p (Le.q (l := 2) (by decide)) (Le.q (l := 2) (by decide))).R rb8
  replace hr30 := hr30.mono (hg32.trans hh3)
  refine gl_updx (A := [_, _]) (F := fun c_ => (rpP (rpQ 2) (rpQ 2)).R h3 c_ p30) (upd_box Tryz.sizeOf31 (Pc.here _) rfl rfl rfl rw_29 hr30 rfl) ?_
  intro cs_30 rb_31
  have rw_32 := (Le.p (Le.q (l := 2) (by decide)) (Le.q (l := 2) (by decide))).R rb9
  replace hr32 := hr32.mono hh3
  refine gl_updx (A := [_]) (F := fun c_ => (rpP (rpQ 2) (rpQ 2)).R h3 c_ p32) (upd_box Tryz.sizeOf31 (Pc.here _) rfl rfl rfl rw_32 hr32 rfl) ?_
  intro cs_33 rb_34
  have rw_35 := (Le.q (l := 2) (by decide)).R rb10
  refine gl_updx (A := []) (F := fun c_ => (rpQ 2).R h3 c_ (ratQ n d)) (upd_box Tryz.sizeOf29 (Pc.here _) rfl rfl rfl rw_35 r35 rfl) ?_
  intro cs_36 rb_37
  refine gl_nil (gq_keep (e' := [(8, _), (9, _), (10, _)]) ⟨rfl, rfl, rfl, trivial⟩ (gq_then (gc_seq (gc_region (gl_x (F := fun v_ => (rpP (rpQ 2) (rpQ 2)).Is h3 v_ p30) (ox_load_box ty31 (Pc.here _) rfl rfl rb_31 rfl) (mem1 (.tail _ (.tail _ (.head _)))) rfl ?_)))))
  intro v37 r37
  refine gl_x (F := fun v_ => (rpP (rpQ 2) (rpQ 2)).Is h3 v_ p32) (ox_load_box ty31 (Pc.here _) rfl rfl rb_34 rfl) (mem1 (.tail _ (.head _))) rfl ?_
  intro v38 r38
  refine gl_call (vs := [_, _]) rfl rfl rfl rfl Tryz.call11 ⟨rfl, rfl, trivial⟩ (fun w hs => o_span_meet hs r37 r38 (by decide)) ?_
  intro v39 h4 hh4 r39
  obtain ⟨v39_0, rfl, r39_0⟩ := r39
  change (rpP (rpQ 2) (rpQ 2)).Is h4 v39_0 (meetS p30 p32) at r39_0
  refine mv rfl rfl (gv (ov_extract (vs := [_, _]) rfl rfl) rfl (gv (ov_extract (vs := [_, _]) rfl rfl) rfl (gl_newop (new_allocx (ρ := (rpP (rpQ 1) (rpQ 1))) (X := ((0 : Rat), (0 : Rat))) info31 rfl rfl (zr_p (zr_q (by decide)) (zr_q (by decide)))) rfl rfl rfl ?_)))
  intro v11 q11 hq11
  obtain ⟨b11, cs11, rfl, rfl, rb11⟩ := hq11
  have rw_38 := (Le.p (Le.q (l := 2) (by decide)) (Le.q (l := 2) (by decide))).R rb11
  refine gl_updx (A := []) (F := fun c_ => (rpP (rpQ 2) (rpQ 2)).R h4 c_ (meetS p30 p32)) (upd_box Tryz.sizeOf31 (Pc.here _) rfl rfl rfl rw_38 r39_0 rfl) ?_
  intro cs_39 rb_40
  refine asg rfl rfl (gl_nil (gq_then (gc_seq (gc_region ?_))))
  replace rb_31 := rb_31.mono hh4
  refine gl_x (F := fun v_ => (rpP (rpQ 2) (rpQ 2)).Is h4 v_ p30) (ox_load_box ty31 (Pc.here _) rfl rfl rb_31 rfl) (mem1 (.tail _ (.tail _ (.tail _ (.head _))))) rfl ?_
  intro v43 r43
  replace rb_34 := rb_34.mono hh4
  refine gl_x (F := fun v_ => (rpP (rpQ 2) (rpQ 2)).Is h4 v_ p32) (ox_load_box ty31 (Pc.here _) rfl rfl rb_34 rfl) (mem1 (.tail _ (.tail _ (.head _)))) rfl ?_
  intro v44 r44
  refine gl_call (vs := [_, _]) rfl rfl rfl rfl Tryz.call12 ⟨rfl, rfl, trivial⟩ (fun w hs => o_sref_meet hs r43 r44 (by decide)) ?_
  intro v45 h5 hh5 r45
  obtain ⟨v45_0, rfl, r45_0⟩ := r45
  change (rpP (rpQ 2) (rpQ 2)).Is h5 v45_0 (meetS p30 p32) at r45_0
  refine mv rfl rfl (gv (ov_extract (vs := [_, _]) rfl rfl) rfl (gv (ov_extract (vs := [_, _]) rfl rfl) rfl (gl_newop (new_allocx (ρ := (rpP (rpQ 1) (rpQ 1))) (X := ((0 : Rat), (0 : Rat))) info31 rfl rfl (zr_p (zr_q (by decide)) (zr_q (by decide)))) rfl rfl rfl ?_)))
  intro v13 q13 hq13
  obtain ⟨b13, cs13, rfl, rfl, rb13⟩ := hq13
  have rw_41 := (Le.p (Le.q (l := 2) (by decide)) (Le.q (l := 2) (by decide))).R rb13
  refine gl_updx (A := []) (F := fun c_ => (rpP (rpQ 2) (rpQ 2)).R h5 c_ (meetS p30 p32)) (upd_box Tryz.sizeOf31 (Pc.here _) rfl rfl rfl rw_41 r45_0 rfl) ?_
  intro cs_42 rb_43
  refine asg rfl rfl (gl_nil (gq_keep (e' := [(8, _), (9, _), (10, _), (11, _), (12, _), (13, _), (14, _)]) ⟨rfl, rfl, rfl, rfl, rfl, rfl, rfl, trivial⟩ (gq_then (gc_seq (gc_region ?_)))))
  replace rb_31 := rb_31.mono hh5
  refine gl_x (F := fun v_ => (rpP (rpQ 2) (rpQ 2)).Is h5 v_ p30) (ox_load_box ty31 (Pc.here _) rfl rfl rb_31 rfl) (mem1 (.tail _ (.tail _ (.tail _ (.tail _ (.head _)))))) rfl ?_
  intro v49 r49
  refine gl_call (vs := [_]) rfl rfl rfl rfl Tryz.call13 ⟨rfl, trivial⟩ (fun w hs => o_span_sign hs r49 (by decide)) ?_
  intro v50 h6 hh6 r50
  obtain rfl := r50
  refine mv rfl rfl (gv (ov_extract (vs := [_, _]) rfl rfl) rfl (gv (ov_extract (vs := [_, _]) rfl rfl) rfl (asg rfl rfl (asg rfl rfl (gl_nil (gq_then (gc_seq (gc_region ?_))))))))
  replace rb_31 := rb_31.mono hh6
  refine gl_x (F := fun v_ => (rpP (rpQ 2) (rpQ 2)).Is h6 v_ p30) (ox_load_box ty31 (Pc.here _) rfl rfl rb_31 rfl) (mem1 (.tail _ (.tail _ (.tail _ (.tail _ (.head _)))))) rfl ?_
  intro v54 r54
  refine gl_call (vs := [_]) rfl rfl rfl rfl Tryz.call14 ⟨rfl, trivial⟩ (fun w hs => o_sref_sign hs r54 (by decide)) ?_
  intro v55 h7 hh7 r55
  obtain rfl := r55
  refine mv rfl rfl (gv (ov_extract (vs := [_, _]) rfl rfl) rfl (gv (ov_extract (vs := [_, _]) rfl rfl) rfl (asg rfl rfl (asg rfl rfl (gl_nil (gq_keep (e' := [(8, _), (9, _), (10, _), (11, _), (12, _), (13, _), (14, _), (15, _), (16, _), (17, _), (18, _)]) ⟨rfl, rfl, rfl, rfl, rfl, rfl, rfl, rfl, rfl, rfl, rfl, trivial⟩ (gq_then (gc_seq (gc_region ?_)))))))))
  replace rb_31 := rb_31.mono hh7
  refine gl_x (F := fun v_ => (rpP (rpQ 2) (rpQ 2)).Is h7 v_ p30) (ox_load_box ty31 (Pc.here _) rfl rfl rb_31 rfl) (mem1 (.tail _ (.tail _ (.tail _ (.tail _ (.head _)))))) rfl ?_
  intro v59 r59
  refine gl_call (vs := [_]) rfl rfl rfl rfl Tryz.call15 ⟨rfl, trivial⟩ (fun w hs => o_span_halves hs r59 (by decide) hle30) ?_
  intro v60 h8 hh8 r60
  obtain ⟨v60_0, v60_1, rfl, r60_0, r60_1⟩ := r60
  change (rpP (rpQ (2 * 2 + 2)) (rpQ (2 * 2 + 2))).Is h8 v60_0 (p30.1, midQ p30.1 p30.2) at r60_0
  replace r60_0 := Rp.Is.le r60_0 (Le.p (Le.q (l := 6) (by omega)) (Le.q (l := 6) (by omega)))
  change (rpP (rpQ (2 * 2 + 2)) (rpQ (2 * 2 + 2))).Is h8 v60_1 (midQ p30.1 p30.2, p30.2) at r60_1
  replace r60_1 := Rp.Is.le r60_1 (Le.p (Le.q (l := 6) (by omega)) (Le.q (l := 6) (by omega)))
  refine mv rfl rfl (gv (ov_extract (vs := [_, _]) rfl rfl) rfl (gv (ov_extract (vs := [_, _]) rfl rfl) rfl (gl_newop (new_allocx (ρ := (rpP (rpQ 1) (rpQ 1))) (X := ((0 : Rat), (0 : Rat))) info31 rfl rfl (zr_p (zr_q (by decide)) (zr_q (by decide)))) rfl rfl rfl ?_)))
  intro v19 q19 hq19
  obtain ⟨b19, cs19, rfl, rfl, rb19⟩ := hq19
  refine gl_newop (new_allocx (ρ := (rpP (rpQ 1) (rpQ 1))) (X := ((0 : Rat), (0 : Rat))) info31 rfl rfl (zr_p (zr_q (by decide)) (zr_q (by decide)))) rfl rfl rfl ?_
  intro v20 q20 hq20
  obtain ⟨b20, cs20, rfl, rfl, rb20⟩ := hq20
  have rw_44 := (Le.p (Le.q (l := 6) (by decide)) (Le.q (l := 6) (by decide))).R rb19
  refine gl_updx (A := [_]) (F := fun c_ => (rpP (rpQ 6) (rpQ 6)).R h8 c_ (p30.1, midQ p30.1 p30.2)) (upd_box Tryz.sizeOf31 (Pc.here _) rfl rfl rfl rw_44 r60_0 rfl) ?_
  intro cs_45 rb_46
  have rw_47 := (Le.p (Le.q (l := 6) (by decide)) (Le.q (l := 6) (by decide))).R rb20
  refine gl_updx (A := []) (F := fun c_ => (rpP (rpQ 6) (rpQ 6)).R h8 c_ (midQ p30.1 p30.2, p30.2)) (upd_box Tryz.sizeOf31 (Pc.here _) rfl rfl rfl rw_47 r60_1 rfl) ?_
  intro cs_48 rb_49
  refine gl_nil (gq_then (gc_seq (gc_region ?_)))
  replace rb_31 := rb_31.mono hh8
  refine gl_x (F := fun v_ => (rpP (rpQ 2) (rpQ 2)).Is h8 v_ p30) (ox_load_box ty31 (Pc.here _) rfl rfl rb_31 rfl) (mem1 (.tail _ (.tail _ (.tail _ (.tail _ (.tail _ (.tail _ (.head _)))))))) rfl ?_
  intro v64 r64
  refine gl_call (vs := [_]) rfl rfl rfl rfl Tryz.call16 ⟨rfl, trivial⟩ (fun w hs => o_sref_halves hs r64 (by decide)) ?_
  intro v65 h9 hh9 r65
  obtain ⟨v65_0, v65_1, rfl, r65_0, r65_1⟩ := r65
  change (rpP (rpQ (2 * 2 + 2)) (rpQ (2 * 2 + 2))).Is h9 v65_0 (p30.1, midQ p30.1 p30.2) at r65_0
  replace r65_0 := Rp.Is.le r65_0 (Le.p (Le.q (l := 6) (by omega)) (Le.q (l := 6) (by omega)))
  change (rpP (rpQ (2 * 2 + 2)) (rpQ (2 * 2 + 2))).Is h9 v65_1 (midQ p30.1 p30.2, p30.2) at r65_1
  replace r65_1 := Rp.Is.le r65_1 (Le.p (Le.q (l := 6) (by omega)) (Le.q (l := 6) (by omega)))
  refine mv rfl rfl (gv (ov_extract (vs := [_, _]) rfl rfl) rfl (gv (ov_extract (vs := [_, _]) rfl rfl) rfl (gl_newop (new_allocx (ρ := (rpP (rpQ 1) (rpQ 1))) (X := ((0 : Rat), (0 : Rat))) info31 rfl rfl (zr_p (zr_q (by decide)) (zr_q (by decide)))) rfl rfl rfl ?_)))
  intro v21 q21 hq21
  obtain ⟨b21, cs21, rfl, rfl, rb21⟩ := hq21
  refine gl_newop (new_allocx (ρ := (rpP (rpQ 1) (rpQ 1))) (X := ((0 : Rat), (0 : Rat))) info31 rfl rfl (zr_p (zr_q (by decide)) (zr_q (by decide)))) rfl rfl rfl ?_
  intro v22 q22 hq22
  obtain ⟨b22, cs22, rfl, rfl, rb22⟩ := hq22
  have rw_50 := (Le.p (Le.q (l := 6) (by decide)) (Le.q (l := 6) (by decide))).R rb21
  refine gl_updx (A := [_]) (F := fun c_ => (rpP (rpQ 6) (rpQ 6)).R h9 c_ (p30.1, midQ p30.1 p30.2)) (upd_box Tryz.sizeOf31 (Pc.here _) rfl rfl rfl rw_50 r65_0 rfl) ?_
  intro cs_51 rb_52
  have rw_53 := (Le.p (Le.q (l := 6) (by decide)) (Le.q (l := 6) (by decide))).R rb22
  refine gl_updx (A := []) (F := fun c_ => (rpP (rpQ 6) (rpQ 6)).R h9 c_ (midQ p30.1 p30.2, p30.2)) (upd_box Tryz.sizeOf31 (Pc.here _) rfl rfl rfl rw_53 r65_1 rfl) ?_
  intro cs_54 rb_55
  refine gl_nil (gq_keep (e' := [(8, _), (9, _), (10, _), (11, _), (12, _), (13, _), (14, _), (15, _), (16, _), (17, _), (18, _), (19, _), (20, _), (21, _), (22, _)]) ⟨rfl, rfl, rfl, rfl, rfl, rfl, rfl, rfl, rfl, rfl, rfl, rfl, rfl, rfl, rfl, trivial⟩ (gq_then (gc_seq ?_)))
  refine gc_draw 112 _ [] [(0, .q), (1, .c), (2, .q), (3, .c), (4, .q), (5, .c), (6, .q), (7, .q), (8, .q), (9, .q), (10, .q), (12, .q), (13, .q), (11, .c), (14, .c), (15, .q), (16, .q), (17, .q), (18, .q), (19, .q), (20, .q), (21, .q), (22, .q), (23, .q), (24, .q), (25, .c), (26, .q), (27, .q), (28, .q), (29, .q), (30, .q), (31, .q), (32, .q), (33, .q), (34, .q), (35, .q), (36, .q), (37, .q), (38, .q), (39, .q), (40, .c), (41, .q), (42, .q), (43, .q), (44, .q), (45, .c), (46, .q), (47, .q), (48, .q), (49, .q), (51, .q), (52, .q), (50, .c), (53, .c), (54, .c), (55, .q), (56, .q), (57, .q), (58, .q), (60, .q), (61, .q), (59, .c), (62, .c), (63, .q), (64, .q), (65, .q), (66, .q), (67, .q), (69, .q), (70, .q), (68, .c), (71, .c), (72, .q), (73, .q), (74, .q), (75, .q), (77, .q), (76, .c), (78, .c), (79, .c), (80, .q), (81, .q), (82, .q), (84, .q), (83, .c), (85, .c), (86, .c), (87, .q), (88, .q), (89, .q), (90, .q), (91, .q), (92, .q), (94, .q), (95, .q), (96, .q), (97, .q), (93, .c), (98, .c), (99, .c), (100, .q), (101, .q), (102, .q), (104, .q), (103, .c), (105, .c), (106, .c), (107, .q), (108, .q), (109, .c), (110, .q), (111, .q)] mixed (fun x hx => by cases hx) (chk_of [0, 1, 2, 4, 12, 28, 36, 68, 160, 256, 256, 1792, 256, 256, 14592, 18688, 33024, 81920, 131072, 131072, 917504, 1179648, 2228224, 4194304, 4194304, 29360128, 37748736, 100663296, 134217728, 134217728, 939524096, 1207959552, 2281701376, 4294967296, 4294967296, 30064771072, 38654705664, 73014444032, 137438953472, 137438953472, 962072674304, 1236950581248, 3298534883328, 4398046511104, 4398046511104, 30786325577728, 39582418599936, 105553116266496, 140737488355328, 140737488355328, 985162418487296, 140737488355328, 140737488355328, 8022036836253696, 10273836649938944, 18155135997837312, 54043195528445952, 72057594037927936, 72057594037927936, 504403158265495552, 72057594037927936, 72057594037927936, 4107282860161892352, 5260204364768739328, 9295429630892703744, 23058430092136939520, 36893488147419103232, 36893488147419103232, 258254417031933722624, 36893488147419103232, 36893488147419103232, 2102928824402888884224, 2693224634761594535936, 4759259971017064316928, 11805916207174113034240, 18889465931478580854784, 56668397794435742564352, 18889465931478580854784, 245563057109221551112192, 396678784561050197950464, 623352375738793168207872, 1813388729421943762059264, 2417851639229258349412352, 7253554917687775048237056, 2417851639229258349412352, 31432071309980358542360576, 50774884423814425337659392, 79789104094565525530607616, 232113757366008801543585792, 309485009821345068724781056, 928455029464035206174343168, 309485009821345068724781056, 2785365088392105618523029504, 6499185206248246443220402176, 309485009821345068724781056, 20116525638387429467110768640, 309485009821345068724781056, 79537647524085682662268731392, 208283411609765231251777650688, 327125655381161737642093576192, 634134785123936045817076383744, 1901475900342344102245054808064, 2535301200456458802993406410752, 7605903601369376408980219232256, 2535301200456458802993406410752, 32958915605933964438914283339776, 53241325209585634862861534625792, 83664939615063140498782411554816, 243388915243820045087367015432192, 324518553658426726783156020576256, 973555660975280180349468061728768, 2596148429267413814265248164610047] [5192296858534827628530496329220095, 5192296858534827628530496329220094, 5192296858534827628530496329220093, 5192296858534827628530496329220091, 5192296858534827628530496329220083, 5192296858534827628530496329220075, 5192296858534827628530496329220059, 5192296858534827628530496329220027, 5192296858534827628530496329219967, 5192296858534827628530496329219839, 5192296858534827628530496329219839, 5192296858534827628530496329218303, 5192296858534827628530496329219839, 5192296858534827628530496329219839, 5192296858534827628530496329207551, 5192296858534827628530496329201407, 5192296858534827628530496329187071, 5192296858534827628530496329154559, 5192296858534827628530496329089023, 5192296858534827628530496329089023, 5192296858534827628530496328302591, 5192296858534827628530496328040447, 5192296858534827628530496327122943, 5192296858534827628530496325025791, 5192296858534827628530496325025791, 5192296858534827628530496299859967, 5192296858534827628530496291471359, 5192296858534827628530496262111231, 5192296858534827628530496195002367, 5192296858534827628530496195002367, 5192296858534827628530495389695999, 5192296858534827628530495121260543, 5192296858534827628530494181736447, 5192296858534827628530492034252799, 5192296858534827628530492034252799, 5192296858534827628530466264449023, 5192296858534827628530457674514431, 5192296858534827628530427609743359, 5192296858534827628530358890266623, 5192296858534827628530358890266623, 5192296858534827628529534256545791, 5192296858534827628529259378638847, 5192296858534827628528297305964543, 5192296858534827628526098282708991, 5192296858534827628526098282708991, 5192296858534827628499710003642367, 5192296858534827628490913910620159, 5192296858534827628460127585042431, 5192296858534827628389758840864767, 5192296858534827628389758840864767, 5192296858534827627545333910732799, 5192296858534827628389758840864767, 5192296858534827628389758840864767, 5192296858534827621634359399809023, 5192296858534827618256659679281151, 5192296858534827610375360331382783, 5192296858534827592501699310256127, 5192296858534827556472902291292159, 5192296858534827556472902291292159, 5192296858534827124127338063724543, 5192296858534827556472902291292159, 5192296858534827556472902291292159, 5192296858534824097708388470751231, 5192296858534822368326131560480767, 5192296858534818333100865436516351, 5192296858534809181786422619668479, 5192296858534790735042348910116863, 5192296858534790735042348910116863, 5192296858534569374113464395497471, 5192296858534790735042348910116863, 5192296858534790735042348910116863, 5192296858533019847611272793161727, 5192296858532134403895734734684159, 5192296858530068368559479264903167, 5192296858525382895564757038792703, 5192296858515938162599017748365311, 5192296858478159230736060586655743, 5192296858515938162599017748365311, 5192296858364822435147189101527039, 5192296858138148843969446131269631, 5192296857911475252791703161012223, 5192296857325901808915867154513919, 5192296856116975989301237979807743, 5192296851281272710842721280983039, 5192296856116975989301237979807743, 5192296836774162875467171184508927, 5192296807759943204716070991560703, 5192296778745723533964970798612479, 5192296703792322717857961966829567, 5192296549049817807185427604439039, 5192295930079798164495290154876927, 5192296549049817807185427604439039, 5192294073169739236424877806190591, 5192290359349621380284053108817919, 5192296549049817807185427604439039, 5192276742009189241101029218451455, 5192296549049817807185427604439039, 5192217320887303542847834060488703, 5192098478643532146341443744563199, 5191969732879446466792854235643903, 5191662723749703692484679252836351, 5191029207934599399128999626014719, 5189761557334371169727502922809343, 5184690954933458252121516109987839, 5189761557334371169727502922809343, 5169479147730719499303555671523327, 5139055533325241993667634794594303, 5108631918919764488031713917665279, 5030037581705614265138918318931967, 4867778304876400901747340308643839, 4218741197559547448181028267491327, 3894222643901120721397872246915071] (by kernel_rfl)) (fun x hx => by cases hx) (fun r hr => hr) ?_
  replace rb_31 := rb_31.mono hh9
  refine w_qx (F := fun v_ => (rpP (rpQ 2) (rpQ 2)).Is h9 v_ p30) rfl (ox_load_box ty31 (Pc.here _) rfl rfl rb_31 rfl) (mem1 (.tail _ (.tail _ (.tail _ (.tail _ (.tail _ (.tail _ (.tail _ (.tail _ (.head _)))))))))) rfl ?_
  intro v68 r68
  refine w_c rfl ?_
  refine s_call (vs := [_]) Tryz.call17 ⟨rfl, trivial⟩ (fun w hs => o_span_valid hs r68 (by decide)) rfl ?_
  intro v69 h10 hh10 r69
  obtain rfl : v69 = .bool true := by rw [show v69 = vB (p30.1 ≤ p30.2) from r69, vB_true (by exact hle30)]
  refine w_q rfl (fun h' L' hh hR => ov_move rfl) rfl ?_
  refine w_c rfl (s_on rfl rfl ?_)
  refine s_call (vs := [vI (1)]) Tryz.call18 ⟨rfl, trivial⟩ (fun w hs => o_rref_int hs (by decide) (by decide)) rfl ?_
  intro v71 h11 hh11 r71
  change (rpQ 2).Is h11 v71 ((1 : Int) : Rat) at r71
  refine w_qx_on (F := fun v_ => (rpP (rpQ 2) (rpQ 1)).Is h11 v_ (((1 : Int) : Rat), (0 : Rat))) rfl rfl rfl (ox_build (ps' := [(0, _)]) Tryz.underlying31 info31 rfl rfl (places31 Tryz.underlying31) ⟨rfl, rfl, trivial⟩ rfl (zr_p (zr_q (by decide)) (zr_q (by decide))) (fx_one rfl (Pc.fst (Pc.here _)) r71 fx_nil)) mem0 rfl ?_
  intro v72 r72
  refine w_c rfl (s_on rfl rfl ?_)
  refine s_call (vs := [_]) Tryz.call17 ⟨rfl, trivial⟩ (fun w hs => o_span_valid hs (r72.le (Le.p (Le.refl _) (Le.q (l := 2) (by decide)))) (by decide)) rfl ?_
  intro v73 h12 hh12 r73
  obtain rfl : v73 = .bool false := by rw [show v73 = vB (((1 : Int) : Rat) ≤ (0 : Rat)) from r73, vB_false (by intro e; exact absurd e (by decide +kernel))]
  refine w_q_on rfl rfl rfl (fun h' L' hh hR => ov_not_b rfl) rfl (w_q rfl (fun h' L' hh hR => ov_pick_t rfl rfl) rfl (w_q rfl (fun h' L' hh hR => ov_move rfl) rfl ?_))
  replace rb_31 := rb_31.mono ((hh10.trans hh11).trans hh12)
  refine w_qx_on (F := fun v_ => (rpP (rpQ 2) (rpQ 2)).Is h12 v_ p30) rfl rfl rfl (ox_load_box ty31 (Pc.here _) rfl rfl rb_31 rfl) (mem1 (.tail _ (.tail _ (.tail _ (.tail _ (.tail _ (.tail _ (.tail _ (.tail _ (.head _)))))))))) rfl ?_
  intro v77 r77
  replace rb_34 := rb_34.mono (((((((hh5.trans hh6).trans hh7).trans hh8).trans hh9).trans hh10).trans hh11).trans hh12)
  refine w_qx_on (F := fun v_ => (rpP (rpQ 2) (rpQ 2)).Is h12 v_ p32) rfl rfl rfl (ox_load_box ty31 (Pc.here _) rfl rfl rb_34 rfl) (mem1 (.tail _ (.tail _ (.tail _ (.tail _ (.tail _ (.tail _ (.tail _ (.head _))))))))) rfl ?_
  intro v78 r78
  refine w_qx_on (F := fun v_ => (rpP (rpQ 2) (rpQ 2)).Is h12 v_ p30) rfl rfl rfl (ox_load_box ty31 (Pc.here _) rfl rfl rb_31 rfl) (mem1 (.tail _ (.tail _ (.tail _ (.tail _ (.tail _ (.tail _ (.tail _ (.tail _ (.head _)))))))))) rfl ?_
  intro v80 r80
  refine w_qx_on (F := fun v_ => (rpP (rpQ 2) (rpQ 2)).Is h12 v_ p32) rfl rfl rfl (ox_load_box ty31 (Pc.here _) rfl rfl rb_34 rfl) (mem1 (.tail _ (.tail _ (.tail _ (.tail _ (.tail _ (.tail _ (.tail _ (.head _))))))))) rfl ?_
  intro v81 r81
  refine w_c rfl (s_on rfl rfl ?_)
  refine s_call (vs := [_, _]) Tryz.call19 ⟨rfl, rfl, trivial⟩ (fun w hs => o_span_same hs r77 r78 (by decide)) rfl ?_
  intro v79 h13 hh13 r79
  obtain rfl : v79 = vB (p30.1 = p32.1 ∧ p30.2 = p32.2) := r79
  refine w_c rfl (s_on rfl rfl ?_)
  replace r80 := r80.mono hh13
  replace r81 := r81.mono hh13
  refine s_call (vs := [_, _]) Tryz.call20 ⟨rfl, rfl, trivial⟩ (fun w hs => o_sref_same hs r80 r81 (by decide)) rfl ?_
  intro v82 h14 hh14 r82
  obtain rfl : v82 = vB (p30.1 = p32.1 ∧ p30.2 = p32.2) := r82
  refine w_q_on rfl rfl rfl (fun h' L' hh hR => OpV.tr (by exact Iff.rfl) (ov_eql_b Tryz.underlying4 rfl rfl)) rfl (w_q rfl (fun h' L' hh hR => ov_pick_t rfl rfl) rfl (w_q rfl (fun h' L' hh hR => ov_move rfl) rfl (w_q_on rfl rfl rfl (fun h' L' hh hR => ov_move rfl) rfl (w_q_on rfl rfl rfl (fun h' L' hh hR => ov_move rfl) rfl (w_q_on rfl rfl rfl (fun h' L' hh hR => OpV.tr (by exact Iff.rfl) (ov_eql_b Tryz.underlying4 rfl rfl)) rfl (w_q rfl (fun h' L' hh hR => ov_pick_t rfl rfl) rfl (w_q rfl (fun h' L' hh hR => ov_move rfl) rfl ?_)))))))
  replace rb_40 := rb_40.mono (((((((((hh5.trans hh6).trans hh7).trans hh8).trans hh9).trans hh10).trans hh11).trans hh12).trans hh13).trans hh14)
  refine w_qx_on (F := fun v_ => (rpP (rpQ 2) (rpQ 2)).Is h14 v_ (meetS p30 p32)) rfl rfl rfl (ox_load_box ty31 (Pc.here _) rfl rfl rb_40 rfl) (mem1 (.tail _ (.tail _ (.tail _ (.tail _ (.tail _ (.head _))))))) rfl ?_
  intro v91 r91
  replace rb_43 := rb_43.mono ((((((((hh6.trans hh7).trans hh8).trans hh9).trans hh10).trans hh11).trans hh12).trans hh13).trans hh14)
  refine w_qx_on (F := fun v_ => (rpP (rpQ 2) (rpQ 2)).Is h14 v_ (meetS p30 p32)) rfl rfl rfl (ox_load_box ty31 (Pc.here _) rfl rfl rb_43 rfl) (mem1 (.tail _ (.tail _ (.tail _ (.tail _ (.head _)))))) rfl ?_
  intro v92 r92
  refine w_c rfl (s_on rfl rfl ?_)
  refine s_call (vs := [_, _]) Tryz.call20 ⟨rfl, rfl, trivial⟩ (fun w hs => o_sref_same hs r91 r92 (by decide)) rfl ?_
  intro v93 h15 hh15 r93
  obtain rfl : v93 = .bool true := by rw [show v93 = vB ((meetS p30 p32).1 = (meetS p30 p32).1 ∧ (meetS p30 p32).2 = (meetS p30 p32).2) from r93, vB_true (by first | rfl | exact Iff.rfl | exact ⟨rfl, rfl⟩ | exact valid_rat _ | assumption)]
  refine w_q rfl (fun h' L' hh hR => ov_pick_t rfl rfl) rfl (w_q rfl (fun h' L' hh hR => ov_move rfl) rfl (w_q_on rfl rfl rfl (fun h' L' hh hR => ov_move rfl) rfl (w_q_on rfl rfl rfl (fun h' L' hh hR => ov_move rfl) rfl (w_q_on rfl rfl rfl (fun h' L' hh hR => OpV.tr (by exact (sign_eq hle30).1) (ov_eql_i rfl rfl)) rfl (w_q rfl (fun h' L' hh hR => ov_pick_t rfl rfl) rfl (w_q rfl (fun h' L' hh hR => ov_move rfl) rfl (w_q_on rfl rfl rfl (fun h' L' hh hR => ov_move rfl) rfl (w_q_on rfl rfl rfl (fun h' L' hh hR => ov_move rfl) rfl (w_q_on rfl rfl rfl (fun h' L' hh hR => OpV.tr (by exact (sign_eq hle30).2) (ov_eql_b Tryz.underlying4 rfl rfl)) rfl (w_q rfl (fun h' L' hh hR => ov_pick_t rfl rfl) rfl (w_q rfl (fun h' L' hh hR => ov_move rfl) rfl ?_)))))))))))
  replace rb_46 := rb_46.mono ((((((hh9.trans hh10).trans hh11).trans hh12).trans hh13).trans hh14).trans hh15)
  refine w_qx_on (F := fun v_ => (rpP (rpQ 6) (rpQ 6)).Is h15 v_ (p30.1, midQ p30.1 p30.2)) rfl rfl rfl (ox_load_box ty31 (Pc.here _) rfl rfl rb_46 rfl) (mem1 (.tail _ (.tail _ (.tail _ (.head _))))) rfl ?_
  intro v106 r106
  replace rb_52 := rb_52.mono (((((hh10.trans hh11).trans hh12).trans hh13).trans hh14).trans hh15)
  refine w_qx_on (F := fun v_ => (rpP (rpQ 6) (rpQ 6)).Is h15 v_ (p30.1, midQ p30.1 p30.2)) rfl rfl rfl (ox_load_box ty31 (Pc.here _) rfl rfl rb_52 rfl) (mem1 (.tail _ (.head _))) rfl ?_
  intro v107 r107
  refine w_c rfl (s_on rfl rfl ?_)
  refine s_call (vs := [_, _]) Tryz.call20 ⟨rfl, rfl, trivial⟩ (fun w hs => o_sref_same hs r106 r107 (by decide)) rfl ?_
  intro v108 h16 hh16 r108
  obtain rfl : v108 = .bool true := by rw [show v108 = vB (p30.1 = p30.1 ∧ (midQ p30.1 p30.2) = (midQ p30.1 p30.2)) from r108, vB_true (by first | rfl | exact Iff.rfl | exact ⟨rfl, rfl⟩ | exact valid_rat _ | assumption)]
  refine w_q rfl (fun h' L' hh hR => ov_pick_t rfl rfl) rfl (w_q rfl (fun h' L' hh hR => ov_move rfl) rfl ?_)
  replace rb_49 := rb_49.mono (((((((hh9.trans hh10).trans hh11).trans hh12).trans hh13).trans hh14).trans hh15).trans hh16)
  refine w_qx_on (F := fun v_ => (rpP (rpQ 6) (rpQ 6)).Is h16 v_ (midQ p30.1 p30.2, p30.2)) rfl rfl rfl (ox_load_box ty31 (Pc.here _) rfl rfl rb_49 rfl) (mem1 (.tail _ (.tail _ (.head _)))) rfl ?_
  intro v111 r111
  replace rb_55 := rb_55.mono ((((((hh10.trans hh11).trans hh12).trans hh13).trans hh14).trans hh15).trans hh16)
  refine w_qx_on (F := fun v_ => (rpP (rpQ 6) (rpQ 6)).Is h16 v_ (midQ p30.1 p30.2, p30.2)) rfl rfl rfl (ox_load_box ty31 (Pc.here _) rfl rfl rb_55 rfl) (mem1 (.head _)) rfl ?_
  intro v112 r112
  refine w_c rfl (s_on rfl rfl ?_)
  refine s_call (vs := [_, _]) Tryz.call20 ⟨rfl, rfl, trivial⟩ (fun w hs => o_sref_same hs r111 r112 (by decide)) rfl ?_
  intro v113 h17 hh17 r113
  obtain rfl : v113 = .bool true := by rw [show v113 = vB ((midQ p30.1 p30.2) = (midQ p30.1 p30.2) ∧ p30.2 = p30.2) from r113, vB_true (by first | rfl | exact Iff.rfl | exact ⟨rfl, rfl⟩ | exact valid_rat _ | assumption)]
  refine w_q rfl (fun h' L' hh hR => ov_pick_t rfl rfl) rfl (w_q rfl (fun h' L' hh hR => ov_move rfl) rfl ?_)
  replace rb_31 := rb_31.mono ((((hh13.trans hh14).trans hh15).trans hh16).trans hh17)
  refine w_qx_on (F := fun v_ => (rpP (rpQ 2) (rpQ 2)).Is h17 v_ p30) rfl rfl rfl (ox_load_box ty31 (Pc.here _) rfl rfl rb_31 rfl) (mem1 (.tail _ (.tail _ (.tail _ (.tail _ (.tail _ (.tail _ (.tail _ (.tail _ (.head _)))))))))) rfl ?_
  intro v116 r116
  replace rb_34 := rb_34.mono ((((hh13.trans hh14).trans hh15).trans hh16).trans hh17)
  refine w_qx_on (F := fun v_ => (rpP (rpQ 2) (rpQ 2)).Is h17 v_ p32) rfl rfl rfl (ox_load_box ty31 (Pc.here _) rfl rfl rb_34 rfl) (mem1 (.tail _ (.tail _ (.tail _ (.tail _ (.tail _ (.tail _ (.tail _ (.head _))))))))) rfl ?_
  intro v117 r117
  refine w_qx_on (F := fun v_ => (rpP (rpQ 2) (rpQ 2)).Is h17 v_ p30) rfl rfl rfl (ox_load_box ty31 (Pc.here _) rfl rfl rb_31 rfl) (mem1 (.tail _ (.tail _ (.tail _ (.tail _ (.tail _ (.tail _ (.tail _ (.tail _ (.head _)))))))))) rfl ?_
  intro v119 r119
  refine w_qx_on (F := fun v_ => (rpP (rpQ 2) (rpQ 2)).Is h17 v_ p32) rfl rfl rfl (ox_load_box ty31 (Pc.here _) rfl rfl rb_34 rfl) (mem1 (.tail _ (.tail _ (.tail _ (.tail _ (.tail _ (.tail _ (.tail _ (.head _))))))))) rfl ?_
  intro v120 r120
  refine w_c rfl (s_on rfl rfl ?_)
  refine s_call (vs := [_, _]) Tryz.call21 ⟨rfl, rfl, trivial⟩ (fun w hs => o_span_hull hs r116 r117 (by decide)) rfl ?_
  intro v118 h18 hh18 r118
  change (rpP (rpQ 2) (rpQ 2)).Is h18 v118 (hullS p30 p32) at r118
  refine w_c rfl (s_on rfl rfl ?_)
  replace r119 := r119.mono hh18
  replace r120 := r120.mono hh18
  refine s_call (vs := [_, _]) Tryz.call22 ⟨rfl, rfl, trivial⟩ (fun w hs => o_sref_hull hs r119 r120 (by decide)) rfl ?_
  intro v121 h19 hh19 r121
  change (rpP (rpQ 2) (rpQ 2)).Is h19 v121 (hullS p30 p32) at r121
  refine w_c rfl (s_on rfl rfl ?_)
  replace r118 := r118.mono hh19
  refine s_call (vs := [_, _]) Tryz.call20 ⟨rfl, rfl, trivial⟩ (fun w hs => o_sref_same hs r118 r121 (by decide)) rfl ?_
  intro v122 h20 hh20 r122
  obtain rfl : v122 = .bool true := by rw [show v122 = vB ((hullS p30 p32).1 = (hullS p30 p32).1 ∧ (hullS p30 p32).2 = (hullS p30 p32).2) from r122, vB_true (by first | rfl | exact Iff.rfl | exact ⟨rfl, rfl⟩ | exact valid_rat _ | assumption)]
  refine w_q rfl (fun h' L' hh hR => ov_pick_t rfl rfl) rfl (w_q rfl (fun h' L' hh hR => ov_move rfl) rfl ?_)
  replace rb_31 := rb_31.mono ((hh18.trans hh19).trans hh20)
  refine w_qx_on (F := fun v_ => (rpP (rpQ 2) (rpQ 2)).Is h20 v_ p30) rfl rfl rfl (ox_load_box ty31 (Pc.here _) rfl rfl rb_31 rfl) (mem1 (.tail _ (.tail _ (.tail _ (.tail _ (.tail _ (.tail _ (.tail _ (.tail _ (.head _)))))))))) rfl ?_
  intro v125 r125
  replace rb_37 := rb_37.mono ((((((((((((((((hh4.trans hh5).trans hh6).trans hh7).trans hh8).trans hh9).trans hh10).trans hh11).trans hh12).trans hh13).trans hh14).trans hh15).trans hh16).trans hh17).trans hh18).trans hh19).trans hh20)
  refine w_qx_on (F := fun v_ => (rpQ 2).Is h20 v_ (ratQ n d)) rfl rfl rfl (ox_load_box ty29 (Pc.here _) rfl rfl rb_37 rfl) (mem1 (.tail _ (.tail _ (.tail _ (.tail _ (.tail _ (.tail _ (.head _)))))))) rfl ?_
  intro v126 r126
  refine w_qx_on (F := fun v_ => (rpP (rpQ 2) (rpQ 2)).Is h20 v_ p30) rfl rfl rfl (ox_load_box ty31 (Pc.here _) rfl rfl rb_31 rfl) (mem1 (.tail _ (.tail _ (.tail _ (.tail _ (.tail _ (.tail _ (.tail _ (.tail _ (.head _)))))))))) rfl ?_
  intro v128 r128
  refine w_qx_on (F := fun v_ => (rpQ 2).Is h20 v_ (ratQ n d)) rfl rfl rfl (ox_load_box ty29 (Pc.here _) rfl rfl rb_37 rfl) (mem1 (.tail _ (.tail _ (.tail _ (.tail _ (.tail _ (.tail _ (.head _)))))))) rfl ?_
  intro v129 r129
  refine w_c rfl (s_on rfl rfl ?_)
  refine s_call (vs := [_, _]) Tryz.call23 ⟨rfl, rfl, trivial⟩ (fun w hs => o_span_has hs r125 r126 (by decide)) rfl ?_
  intro v127 h21 hh21 r127
  obtain rfl : v127 = vB (hasP p30.1 p30.2 (ratQ n d)) := r127
  refine w_c rfl (s_on rfl rfl ?_)
  replace r128 := r128.mono hh21
  replace r129 := r129.mono hh21
  refine s_call (vs := [_, _]) Tryz.call24 ⟨rfl, rfl, trivial⟩ (fun w hs => o_sref_has hs r128 r129 (by decide)) rfl ?_
  intro v130 h22 hh22 r130
  obtain rfl : v130 = vB (hasP p30.1 p30.2 (ratQ n d)) := r130
  refine w_q_on rfl rfl rfl (fun h' L' hh hR => OpV.tr (by first | rfl | exact Iff.rfl | exact ⟨rfl, rfl⟩ | exact valid_rat _ | assumption) (ov_eql_b Tryz.underlying4 rfl rfl)) rfl (w_q rfl (fun h' L' hh hR => ov_pick_t rfl rfl) rfl (w_q rfl (fun h' L' hh hR => ov_move rfl) rfl ?_))
  replace rb_31 := rb_31.mono (hh21.trans hh22)
  refine w_qx_on (F := fun v_ => (rpP (rpQ 2) (rpQ 2)).Is h22 v_ p30) rfl rfl rfl (ox_load_box ty31 (Pc.here _) rfl rfl rb_31 rfl) (mem1 (.tail _ (.tail _ (.tail _ (.tail _ (.tail _ (.tail _ (.tail _ (.tail _ (.head _)))))))))) rfl ?_
  intro v134 r134
  replace rb_34 := rb_34.mono ((((hh18.trans hh19).trans hh20).trans hh21).trans hh22)
  refine w_qx_on (F := fun v_ => (rpP (rpQ 2) (rpQ 2)).Is h22 v_ p32) rfl rfl rfl (ox_load_box ty31 (Pc.here _) rfl rfl rb_34 rfl) (mem1 (.tail _ (.tail _ (.tail _ (.tail _ (.tail _ (.tail _ (.tail _ (.head _))))))))) rfl ?_
  intro v135 r135
  refine w_qx_on (F := fun v_ => (rpP (rpQ 2) (rpQ 2)).Is h22 v_ p30) rfl rfl rfl (ox_load_box ty31 (Pc.here _) rfl rfl rb_31 rfl) (mem1 (.tail _ (.tail _ (.tail _ (.tail _ (.tail _ (.tail _ (.tail _ (.tail _ (.head _)))))))))) rfl ?_
  intro v137 r137
  refine w_qx_on (F := fun v_ => (rpP (rpQ 2) (rpQ 2)).Is h22 v_ p32) rfl rfl rfl (ox_load_box ty31 (Pc.here _) rfl rfl rb_34 rfl) (mem1 (.tail _ (.tail _ (.tail _ (.tail _ (.tail _ (.tail _ (.tail _ (.head _))))))))) rfl ?_
  intro v138 r138
  refine w_c rfl (s_on rfl rfl ?_)
  refine s_call (vs := [_, _]) Tryz.call25 ⟨rfl, rfl, trivial⟩ (fun w hs => o_span_inside hs r134 r135 (by decide)) rfl ?_
  intro v136 h23 hh23 r136
  obtain rfl : v136 = vB (hasP p32.1 p32.2 p30.1 ∧ hasP p32.1 p32.2 p30.2) := r136
  refine w_c rfl (s_on rfl rfl ?_)
  replace r137 := r137.mono hh23
  replace r138 := r138.mono hh23
  refine s_call (vs := [_, _]) Tryz.call26 ⟨rfl, rfl, trivial⟩ (fun w hs => o_sref_inside hs r137 r138 (by decide)) rfl ?_
  intro v139 h24 hh24 r139
  obtain rfl : v139 = vB (hasP p32.1 p32.2 p30.1 ∧ hasP p32.1 p32.2 p30.2) := r139
  refine w_q_on rfl rfl rfl (fun h' L' hh hR => OpV.tr (by first | rfl | exact Iff.rfl | exact ⟨rfl, rfl⟩ | exact valid_rat _ | assumption) (ov_eql_b Tryz.underlying4 rfl rfl)) rfl (w_q rfl (fun h' L' hh hR => ov_pick_t rfl rfl) rfl (w_q rfl (fun h' L' hh hR => ov_move rfl) rfl ?_))
  replace rb_31 := rb_31.mono (hh23.trans hh24)
  refine w_qx_on (F := fun v_ => (rpP (rpQ 2) (rpQ 2)).Is h24 v_ p30) rfl rfl rfl (ox_load_box ty31 (Pc.here _) rfl rfl rb_31 rfl) (mem1 (.tail _ (.tail _ (.tail _ (.tail _ (.tail _ (.tail _ (.tail _ (.tail _ (.head _)))))))))) rfl ?_
  intro v143 r143
  refine w_qx_on (F := fun v_ => (rpP (rpQ 2) (rpQ 2)).Is h24 v_ p30) rfl rfl rfl (ox_load_box ty31 (Pc.here _) rfl rfl rb_31 rfl) (mem1 (.tail _ (.tail _ (.tail _ (.tail _ (.tail _ (.tail _ (.tail _ (.tail _ (.head _)))))))))) rfl ?_
  intro v145 r145
  refine w_c rfl (s_on rfl rfl ?_)
  refine s_call (vs := [_]) Tryz.call28 ⟨rfl, trivial⟩ (fun w hs => o_span_width hs r143 (by decide)) rfl ?_
  intro v144 h25 hh25 r144
  change (rpQ (2 + 2 + 1)).Is h25 v144 (p30.2 - p30.1) at r144
  replace r144 := Rp.Is.le r144 (Le.q (l := 5) (by omega))
  refine w_c rfl (s_on rfl rfl ?_)
  replace r145 := r145.mono hh25
  refine s_call (vs := [_]) Tryz.call29 ⟨rfl, trivial⟩ (fun w hs => o_sref_width hs r145 (by decide)) rfl ?_
  intro v146 h26 hh26 r146
  change (rpQ (2 + 2 + 1)).Is h26 v146 (p30.2 - p30.1) at r146
  replace r146 := Rp.Is.le r146 (Le.q (l := 5) (by omega))
  refine w_c rfl (s_on rfl rfl ?_)
  replace r144 := r144.mono hh26
  refine s_call (vs := [_, _]) Tryz.call27 ⟨rfl, rfl, trivial⟩ (fun w hs => o_rref_same hs r144 r146 (by decide)) rfl ?_
  intro v147 h27 hh27 r147
  obtain rfl : v147 = .bool true := by rw [show v147 = vB ((p30.2 - p30.1) = (p30.2 - p30.1)) from r147, vB_true (by first | rfl | exact Iff.rfl | exact ⟨rfl, rfl⟩ | exact valid_rat _ | assumption)]
  refine w_q rfl (fun h' L' hh hR => ov_pick_t rfl rfl) rfl (w_q rfl (fun h' L' hh hR => ov_move rfl) rfl ?_)
  replace rb_31 := rb_31.mono ((hh25.trans hh26).trans hh27)
  refine w_qx_on (F := fun v_ => (rpP (rpQ 2) (rpQ 2)).Is h27 v_ p30) rfl rfl rfl (ox_load_box ty31 (Pc.here _) rfl rfl rb_31 rfl) (mem1 (.tail _ (.tail _ (.tail _ (.tail _ (.tail _ (.tail _ (.tail _ (.tail _ (.head _)))))))))) rfl ?_
  intro v150 r150
  refine w_qx_on (F := fun v_ => (rpP (rpQ 2) (rpQ 2)).Is h27 v_ p30) rfl rfl rfl (ox_load_box ty31 (Pc.here _) rfl rfl rb_31 rfl) (mem1 (.tail _ (.tail _ (.tail _ (.tail _ (.tail _ (.tail _ (.tail _ (.tail _ (.head _)))))))))) rfl ?_
  intro v152 r152
  refine w_c rfl (s_on rfl rfl ?_)
  refine s_call (vs := [_]) Tryz.call30 ⟨rfl, trivial⟩ (fun w hs => o_span_mid hs r150 (by decide)) rfl ?_
  intro v151 h28 hh28 r151
  change (rpQ (2 + 2 + 2)).Is h28 v151 (midQ p30.1 p30.2) at r151
  replace r151 := Rp.Is.le r151 (Le.q (l := 6) (by omega))
  refine w_c rfl (s_on rfl rfl ?_)
  replace r152 := r152.mono hh28
  refine s_call (vs := [_]) Tryz.call31 ⟨rfl, trivial⟩ (fun w hs => o_sref_mid hs r152 (by decide)) rfl ?_
  intro v153 h29 hh29 r153
  change (rpQ (2 + 2 + 2)).Is h29 v153 (midQ p30.1 p30.2) at r153
  replace r153 := Rp.Is.le r153 (Le.q (l := 6) (by omega))
  refine w_c rfl (s_on rfl rfl ?_)
  replace r151 := r151.mono hh29
  refine s_call (vs := [_, _]) Tryz.call27 ⟨rfl, rfl, trivial⟩ (fun w hs => o_rref_same hs r151 r153 (by decide)) rfl ?_
  intro v154 h30 hh30 r154
  obtain rfl : v154 = .bool true := by rw [show v154 = vB ((midQ p30.1 p30.2) = (midQ p30.1 p30.2)) from r154, vB_true (by first | rfl | exact Iff.rfl | exact ⟨rfl, rfl⟩ | exact valid_rat _ | assumption)]
  refine w_q rfl (fun h' L' hh hR => ov_pick_t rfl rfl) rfl (w_q rfl (fun h' L' hh hR => ov_move rfl) rfl (w_q_on rfl rfl rfl (fun h' L' hh hR => (ov_field_addr Tryz.underlying31 rfl Tryz.sizeOf29 rfl).cv (show _ = vP b8 3 from congrArg (vP b8) (by rfl))) rfl ?_))
  replace rb_31 := rb_31.mono ((hh28.trans hh29).trans hh30)
  refine w_qx_on (F := fun v_ => (rpQ 2).Is h30 v_ p30.2) rfl rfl rfl (ox_load_box ty29 (Pc.snd (Pc.here _)) rfl rfl rb_31 rfl) (mem1 (.tail _ (.tail _ (.tail _ (.tail _ (.tail _ (.tail _ (.tail _ (.tail _ (.head _)))))))))) rfl ?_
  intro v158 r158
  refine w_q_on rfl rfl rfl (fun h' L' hh hR => (ov_field_addr Tryz.underlying31 rfl Tryz.sizeOf29 rfl).cv (show _ = vP b9 0 from congrArg (vP b9) (by rfl))) rfl ?_
  replace rb_34 := rb_34.mono (((((((hh23.trans hh24).trans hh25).trans hh26).trans hh27).trans hh28).trans hh29).trans hh30)
  refine w_qx_on (F := fun v_ => (rpQ 2).Is h30 v_ p32.1) rfl rfl rfl (ox_load_box ty29 (Pc.fst (Pc.here _)) rfl rfl rb_34 rfl) (mem1 (.tail _ (.tail _ (.tail _ (.tail _ (.tail _ (.tail _ (.tail _ (.head _))))))))) rfl ?_
  intro v160 r160
  refine w_q_on rfl rfl rfl (fun h' L' hh hR => (ov_field_addr Tryz.underlying31 rfl Tryz.sizeOf29 rfl).cv (show _ = vP b8 3 from congrArg (vP b8) (by rfl))) rfl (w_qx_on (F := fun v_ => (rpQ 2).Is h30 v_ p30.2) rfl rfl rfl (ox_load_box ty29 (Pc.snd (Pc.here _)) rfl rfl rb_31 rfl) (mem1 (.tail _ (.tail _ (.tail _ (.tail _ (.tail _ (.tail _ (.tail _ (.tail _ (.head _)))))))))) rfl ?_)
  intro v163 r163
  refine w_q_on rfl rfl rfl (fun h' L' hh hR => (ov_field_addr Tryz.underlying31 rfl Tryz.sizeOf29 rfl).cv (show _ = vP b9 0 from congrArg (vP b9) (by rfl))) rfl (w_qx_on (F := fun v_ => (rpQ 2).Is h30 v_ p32.1) rfl rfl rfl (ox_load_box ty29 (Pc.fst (Pc.here _)) rfl rfl rb_34 rfl) (mem1 (.tail _ (.tail _ (.tail _ (.tail _ (.tail _ (.tail _ (.tail _ (.head _))))))))) rfl ?_)
  intro v165 r165
  refine w_c rfl (s_on rfl rfl ?_)
  refine s_call (vs := [_, _]) Tryz.call32 ⟨rfl, rfl, trivial⟩ (fun w hs => o_span_of hs r158 r160 (by decide)) rfl ?_
  intro v161 h31 hh31 r161
  change (rpP (rpQ 2) (rpQ 2)).Is h31 v161 (ofS p30.2 p32.1) at r161
  refine w_c rfl (s_on rfl rfl ?_)
  replace r163 := r163.mono hh31
  replace r165 := r165.mono hh31
  refine s_call (vs := [_, _]) Tryz.call33 ⟨rfl, rfl, trivial⟩ (fun w hs => o_sref_of hs r163 r165 (by decide)) rfl ?_
  intro v166 h32 hh32 r166
  change (rpP (rpQ 2) (rpQ 2)).Is h32 v166 (ofS p30.2 p32.1) at r166
  refine w_c rfl (s_on rfl rfl ?_)
  replace r161 := r161.mono hh32
  refine s_call (vs := [_, _]) Tryz.call20 ⟨rfl, rfl, trivial⟩ (fun w hs => o_sref_same hs r161 r166 (by decide)) rfl ?_
  intro v167 h33 hh33 r167
  obtain rfl : v167 = .bool true := by rw [show v167 = vB ((ofS p30.2 p32.1).1 = (ofS p30.2 p32.1).1 ∧ (ofS p30.2 p32.1).2 = (ofS p30.2 p32.1).2) from r167, vB_true (by first | rfl | exact Iff.rfl | exact ⟨rfl, rfl⟩ | exact valid_rat _ | assumption)]
  refine w_q rfl (fun h' L' hh hR => ov_pick_t rfl rfl) rfl (w_q rfl (fun h' L' hh hR => ov_move rfl) rfl ?_)
  replace rb_37 := rb_37.mono ((((((((((((hh21.trans hh22).trans hh23).trans hh24).trans hh25).trans hh26).trans hh27).trans hh28).trans hh29).trans hh30).trans hh31).trans hh32).trans hh33)
  refine w_qx_on (F := fun v_ => (rpQ 2).Is h33 v_ (ratQ n d)) rfl rfl rfl (ox_load_box ty29 (Pc.here _) rfl rfl rb_37 rfl) (mem1 (.tail _ (.tail _ (.tail _ (.tail _ (.tail _ (.tail _ (.head _)))))))) rfl ?_
  intro v170 r170
  refine w_qx_on (F := fun v_ => (rpQ 2).Is h33 v_ (ratQ n d)) rfl rfl rfl (ox_load_box ty29 (Pc.here _) rfl rfl rb_37 rfl) (mem1 (.tail _ (.tail _ (.tail _ (.tail _ (.tail _ (.tail _ (.head _)))))))) rfl ?_
  intro v172 r172
  refine w_c rfl (s_on rfl rfl ?_)
  refine s_call (vs := [_]) Tryz.call34 ⟨rfl, trivial⟩ (fun w hs => o_span_point hs r170 (by decide)) rfl ?_
  intro v171 h34 hh34 r171
  change (rpP (rpQ 2) (rpQ 2)).Is h34 v171 ((ratQ n d), (ratQ n d)) at r171
  refine w_c rfl (s_on rfl rfl ?_)
  replace r172 := r172.mono hh34
  refine s_call (vs := [_]) Tryz.call35 ⟨rfl, trivial⟩ (fun w hs => o_sref_point hs r172 (by decide)) rfl ?_
  intro v173 h35 hh35 r173
  change (rpP (rpQ 2) (rpQ 2)).Is h35 v173 ((ratQ n d), (ratQ n d)) at r173
  refine w_c rfl (s_on rfl rfl ?_)
  replace r171 := r171.mono hh35
  refine s_call (vs := [_, _]) Tryz.call20 ⟨rfl, rfl, trivial⟩ (fun w hs => o_sref_same hs r171 r173 (by decide)) rfl ?_
  intro v174 h36 hh36 r174
  obtain rfl : v174 = .bool true := by rw [show v174 = vB (((ratQ n d), (ratQ n d)).1 = ((ratQ n d), (ratQ n d)).1 ∧ ((ratQ n d), (ratQ n d)).2 = ((ratQ n d), (ratQ n d)).2) from r174, vB_true (by first | rfl | exact Iff.rfl | exact ⟨rfl, rfl⟩ | exact valid_rat _ | assumption)]
  refine w_q rfl (fun h' L' hh hR => ov_pick_t rfl rfl) rfl (w_q rfl (fun h' L' hh hR => ov_move rfl) rfl ?_)
  refine w_c rfl (s_on rfl rfl ?_)
  refine s_call (vs := []) Tryz.call7 trivial (fun w hs => law3_awake hs) rfl ?_
  intro v177 h37 hh37 hr177
  subst hr177
  refine w_q rfl (fun h' L' hh hR => ov_pick_t rfl rfl) rfl (w_q rfl (fun h' L' hh hR => ov_assign rfl) rfl (w_nil (gq_keep (e' := [(6, _)]) ⟨rfl, trivial⟩ (gq_then (gc_ret (gq_body1 rfl rfl ?_))))))
  rfl

end Go.Proofs.YtkdmphehabpcfaaGreat
