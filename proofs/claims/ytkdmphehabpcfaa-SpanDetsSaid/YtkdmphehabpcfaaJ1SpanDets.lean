/- Texts that the proof needs, part 1. -/
import Derived.Test.YtkdmphehabpcfaaK5

namespace Go.Proofs.Ytkdmphehabpcfaa
open Bk Go
set_option linter.unusedVariables false
set_option linter.unusedSimpArgs false
set_option maxRecDepth 10000

theorem o_span_det2 {w0 : World} {h0 : Mem}  (hs : MLe h0 (mem w0)) {k : Nat} {vm : Value} {m : (List (List (Rat × Rat)))} (rm : (rpA 2 (rpA 2 (rpP (rpQ k) (rpQ k)))).Is h0 vm m) (hcd0 : k ≤ 100000000)  :
    Calls Try.prog 19 #[vm] w0 (Ret w0 h0 (fun h r => (rpP (rpQ (4 * k + 1)) (rpQ (4 * k + 1))).Is h r (det2L m))) := by
 refine calls_begin (n := 18) (e := [(0, vm)]) (vs := [vm]) Try.func19 rfl rfl (Nat.le_of_ble_eq_true rfl) hs ⟨rfl, trivial⟩ (gc_seq (gc_region (gl_newop (new_boxx (ρ := (rpA 2 (rpA 2 (rpP (rpQ k) (rpQ k))))) rfl rm) rfl rfl rfl ?_)))
 intro v1 q1 hq1
 obtain ⟨b1, cs1, rfl, rfl, rb1⟩ := hq1
 refine gl_newop (new_allocx (ρ := (rpP (rpQ (4 * k + 1)) (rpQ (4 * k + 1)))) (X := ((0 : Rat), (0 : Rat))) info29 rfl rfl (zr_p (zr_q (by omega)) (zr_q (by omega)))) rfl rfl rfl ?_
 intro v2 q2 hq2
 obtain ⟨b2, cs2, rfl, rfl, rb2⟩ := hq2
 refine gl_nil (gq_then (gc_seq ?_))
 refine gc_draw 15 _ [] [(0, .q), (1, .q), (2, .q), (3, .q), (4, .q), (5, .q), (7, .q), (8, .q), (9, .q), (10, .q), (11, .q), (12, .q), (6, .c), (13, .c), (14, .c), (15, .t)] mixed (fun x hx => by cases hx) (by kernel_rfl) (fun x hx => by cases hx) (fun r hr => hr) (w_q rfl (fun h' L' hh hR => (ov_index_arr (sz := 12) (q := 0) 0 Try.underlying43 Try.sizeOf42 rfl rfl rfl (by decide)).cv (show _ = vP b1 0 from congrArg (vP b1) (by rfl))) rfl (w_q rfl (fun h' L' hh hR => (ov_index_arr (sz := 6) (q := 0) 0 Try.underlying42 Try.sizeOf29 rfl rfl rfl (by decide)).cv (show _ = vP b1 0 from congrArg (vP b1) (by rfl))) rfl (w_qx (F := fun v_ => (rpP (rpQ k) (rpQ k)).Is h0 v_ ((m.getD 0 (List.replicate 2 ((0 : Rat), (0 : Rat)))).getD 0 ((0 : Rat), (0 : Rat)))) rfl (ox_load_box ty29 (Pc.arr (Pc.arr (Pc.here _) ((0 : Rat), (0 : Rat)) 0 (by decide)) (List.replicate 2 ((0 : Rat), (0 : Rat))) 0 (by decide)) rfl rfl rb1 rfl) (mem1 (.tail _ (.head _))) rfl ?_)))
 intro v5 r5
 refine w_q rfl (fun h' L' hh hR => (ov_index_arr (sz := 12) (q := 1) 1 Try.underlying43 Try.sizeOf42 rfl rfl rfl (by decide)).cv (show _ = vP b1 12 from congrArg (vP b1) (by rfl))) rfl (w_q rfl (fun h' L' hh hR => (ov_index_arr (sz := 6) (q := 1) 1 Try.underlying42 Try.sizeOf29 rfl rfl rfl (by decide)).cv (show _ = vP b1 18 from congrArg (vP b1) (by rfl))) rfl (w_qx (F := fun v_ => (rpP (rpQ k) (rpQ k)).Is h0 v_ ((m.getD 1 (List.replicate 2 ((0 : Rat), (0 : Rat)))).getD 1 ((0 : Rat), (0 : Rat)))) rfl (ox_load_box ty29 (Pc.arr (Pc.arr (Pc.here _) ((0 : Rat), (0 : Rat)) 1 (by decide)) (List.replicate 2 ((0 : Rat), (0 : Rat))) 1 (by decide)) rfl rfl rb1 rfl) (mem1 (.tail _ (.head _))) rfl ?_))
 intro v8 r8
 refine w_q rfl (fun h' L' hh hR => (ov_index_arr (sz := 12) (q := 0) 0 Try.underlying43 Try.sizeOf42 rfl rfl rfl (by decide)).cv (show _ = vP b1 0 from congrArg (vP b1) (by rfl))) rfl (w_q rfl (fun h' L' hh hR => (ov_index_arr (sz := 6) (q := 1) 1 Try.underlying42 Try.sizeOf29 rfl rfl rfl (by decide)).cv (show _ = vP b1 6 from congrArg (vP b1) (by rfl))) rfl (w_qx (F := fun v_ => (rpP (rpQ k) (rpQ k)).Is h0 v_ ((m.getD 0 (List.replicate 2 ((0 : Rat), (0 : Rat)))).getD 1 ((0 : Rat), (0 : Rat)))) rfl (ox_load_box ty29 (Pc.arr (Pc.arr (Pc.here _) ((0 : Rat), (0 : Rat)) 1 (by decide)) (List.replicate 2 ((0 : Rat), (0 : Rat))) 0 (by decide)) rfl rfl rb1 rfl) (mem1 (.tail _ (.head _))) rfl ?_))
 intro v12 r12
 refine w_q rfl (fun h' L' hh hR => (ov_index_arr (sz := 12) (q := 1) 1 Try.underlying43 Try.sizeOf42 rfl rfl rfl (by decide)).cv (show _ = vP b1 12 from congrArg (vP b1) (by rfl))) rfl (w_q rfl (fun h' L' hh hR => (ov_index_arr (sz := 6) (q := 0) 0 Try.underlying42 Try.sizeOf29 rfl rfl rfl (by decide)).cv (show _ = vP b1 12 from congrArg (vP b1) (by rfl))) rfl (w_qx (F := fun v_ => (rpP (rpQ k) (rpQ k)).Is h0 v_ ((m.getD 1 (List.replicate 2 ((0 : Rat), (0 : Rat)))).getD 0 ((0 : Rat), (0 : Rat)))) rfl (ox_load_box ty29 (Pc.arr (Pc.arr (Pc.here _) ((0 : Rat), (0 : Rat)) 0 (by decide)) (List.replicate 2 ((0 : Rat), (0 : Rat))) 1 (by decide)) rfl rfl rb1 rfl) (mem1 (.tail _ (.head _))) rfl ?_))
 intro v15 r15
 refine w_c rfl ?_
 refine s_call (vs := [_, _]) Try.call30 ⟨rfl, rfl, trivial⟩ (fun w hs => o_span_mul hs r5 r8 (by omega)) rfl ?_
 intro v9 h1 hh1 r9
 change (rpP (rpQ (k + k)) (rpQ (k + k))).Is h1 v9 (mulS ((m.getD 0 (List.replicate 2 ((0 : Rat), (0 : Rat)))).getD 0 ((0 : Rat), (0 : Rat))) ((m.getD 1 (List.replicate 2 ((0 : Rat), (0 : Rat)))).getD 1 ((0 : Rat), (0 : Rat)))) at r9
 replace r9 := Rp.Is.le r9 (Le.p (Le.q (l := 2 * k) (by omega)) (Le.q (l := 2 * k) (by omega)))
 refine w_c rfl ?_
 replace r12 := r12.mono hh1
 replace r15 := r15.mono hh1
 refine s_call (vs := [_, _]) Try.call30 ⟨rfl, rfl, trivial⟩ (fun w hs => o_span_mul hs r12 r15 (by omega)) rfl ?_
 intro v16 h2 hh2 r16
 change (rpP (rpQ (k + k)) (rpQ (k + k))).Is h2 v16 (mulS ((m.getD 0 (List.replicate 2 ((0 : Rat), (0 : Rat)))).getD 1 ((0 : Rat), (0 : Rat))) ((m.getD 1 (List.replicate 2 ((0 : Rat), (0 : Rat)))).getD 0 ((0 : Rat), (0 : Rat)))) at r16
 replace r16 := Rp.Is.le r16 (Le.p (Le.q (l := 2 * k) (by omega)) (Le.q (l := 2 * k) (by omega)))
 refine w_c rfl ?_
 replace r9 := r9.mono hh2
 refine s_call (vs := [_, _]) Try.call57 ⟨rfl, rfl, trivial⟩ (fun w hs => o_span_sub hs r9 r16 (by omega)) rfl ?_
 intro v17 h3 hh3 r17
 change (rpP (rpQ ((2 * k) + (2 * k) + 1)) (rpQ ((2 * k) + (2 * k) + 1))).Is h3 v17 (subS (mulS ((m.getD 0 (List.replicate 2 ((0 : Rat), (0 : Rat)))).getD 0 ((0 : Rat), (0 : Rat))) ((m.getD 1 (List.replicate 2 ((0 : Rat), (0 : Rat)))).getD 1 ((0 : Rat), (0 : Rat)))) (mulS ((m.getD 0 (List.replicate 2 ((0 : Rat), (0 : Rat)))).getD 1 ((0 : Rat), (0 : Rat))) ((m.getD 1 (List.replicate 2 ((0 : Rat), (0 : Rat)))).getD 0 ((0 : Rat), (0 : Rat))))) at r17
 replace r17 := Rp.Is.le r17 (Le.p (Le.q (l := 4 * k + 1) (by omega)) (Le.q (l := 4 * k + 1) (by omega)))
 replace rb2 := rb2.mono ((hh1.trans hh2).trans hh3)
 refine w_tx_upd (A := []) (F := fun c_ => (rpP (rpQ (4 * k + 1)) (rpQ (4 * k + 1))).R h3 c_ (subS (mulS ((m.getD 0 (List.replicate 2 ((0 : Rat), (0 : Rat)))).getD 0 ((0 : Rat), (0 : Rat))) ((m.getD 1 (List.replicate 2 ((0 : Rat), (0 : Rat)))).getD 1 ((0 : Rat), (0 : Rat)))) (mulS ((m.getD 0 (List.replicate 2 ((0 : Rat), (0 : Rat)))).getD 1 ((0 : Rat), (0 : Rat))) ((m.getD 1 (List.replicate 2 ((0 : Rat), (0 : Rat)))).getD 0 ((0 : Rat), (0 : Rat)))))) rfl (upd_box Try.sizeOf29 (Pc.here _) rfl rfl rfl rb2 r17 rfl) ?_
 intro cs_1 rb_2
 refine w_nil (gq_keep (e' := [(2, _)]) ⟨rfl, trivial⟩ (gq_then (gc_ret (gq_exv (rv_o (t := 2) ty29 (.head _) rfl rb_2) ?_))))
 intro w_3 hvw_3 rr_4
 refine gq_res (fun E S => run_res1 rfl hvw_3 E S) ?_
 exact rr_4

theorem o_sref_det2 {w0 : World} {h0 : Mem}  (hs : MLe h0 (mem w0)) {k : Nat} {vm : Value} {m : (List (List (Rat × Rat)))} (rm : (rpA 2 (rpA 2 (rpP (rpQ k) (rpQ k)))).Is h0 vm m) (hcd0 : k ≤ 100000000)  :
    Calls Try.prog 20 #[vm] w0 (Ret w0 h0 (fun h r => (rpP (rpQ (4 * k + 1)) (rpQ (4 * k + 1))).Is h r (det2L m))) := by
 refine calls_begin (n := 18) (e := [(0, vm)]) (vs := [vm]) Try.func20 rfl rfl (Nat.le_of_ble_eq_true rfl) hs ⟨rfl, trivial⟩ (gc_seq (gc_region (gl_newop (new_boxx (ρ := (rpA 2 (rpA 2 (rpP (rpQ k) (rpQ k))))) rfl rm) rfl rfl rfl ?_)))
 intro v1 q1 hq1
 obtain ⟨b1, cs1, rfl, rfl, rb1⟩ := hq1
 refine gl_newop (new_allocx (ρ := (rpP (rpQ (4 * k + 1)) (rpQ (4 * k + 1)))) (X := ((0 : Rat), (0 : Rat))) info29 rfl rfl (zr_p (zr_q (by omega)) (zr_q (by omega)))) rfl rfl rfl ?_
 intro v2 q2 hq2
 obtain ⟨b2, cs2, rfl, rfl, rb2⟩ := hq2
 refine gl_nil (gq_then (gc_seq ?_))
 refine gc_draw 15 _ [] [(0, .q), (1, .q), (2, .q), (3, .q), (4, .q), (5, .q), (7, .q), (8, .q), (9, .q), (10, .q), (11, .q), (12, .q), (6, .c), (13, .c), (14, .c), (15, .t)] mixed (fun x hx => by cases hx) (by kernel_rfl) (fun x hx => by cases hx) (fun r hr => hr) (w_q rfl (fun h' L' hh hR => (ov_index_arr (sz := 12) (q := 0) 0 Try.underlying43 Try.sizeOf42 rfl rfl rfl (by decide)).cv (show _ = vP b1 0 from congrArg (vP b1) (by rfl))) rfl (w_q rfl (fun h' L' hh hR => (ov_index_arr (sz := 6) (q := 0) 0 Try.underlying42 Try.sizeOf29 rfl rfl rfl (by decide)).cv (show _ = vP b1 0 from congrArg (vP b1) (by rfl))) rfl (w_qx (F := fun v_ => (rpP (rpQ k) (rpQ k)).Is h0 v_ ((m.getD 0 (List.replicate 2 ((0 : Rat), (0 : Rat)))).getD 0 ((0 : Rat), (0 : Rat)))) rfl (ox_load_box ty29 (Pc.arr (Pc.arr (Pc.here _) ((0 : Rat), (0 : Rat)) 0 (by decide)) (List.replicate 2 ((0 : Rat), (0 : Rat))) 0 (by decide)) rfl rfl rb1 rfl) (mem1 (.tail _ (.head _))) rfl ?_)))
 intro v5 r5
 refine w_q rfl (fun h' L' hh hR => (ov_index_arr (sz := 12) (q := 1) 1 Try.underlying43 Try.sizeOf42 rfl rfl rfl (by decide)).cv (show _ = vP b1 12 from congrArg (vP b1) (by rfl))) rfl (w_q rfl (fun h' L' hh hR => (ov_index_arr (sz := 6) (q := 1) 1 Try.underlying42 Try.sizeOf29 rfl rfl rfl (by decide)).cv (show _ = vP b1 18 from congrArg (vP b1) (by rfl))) rfl (w_qx (F := fun v_ => (rpP (rpQ k) (rpQ k)).Is h0 v_ ((m.getD 1 (List.replicate 2 ((0 : Rat), (0 : Rat)))).getD 1 ((0 : Rat), (0 : Rat)))) rfl (ox_load_box ty29 (Pc.arr (Pc.arr (Pc.here _) ((0 : Rat), (0 : Rat)) 1 (by decide)) (List.replicate 2 ((0 : Rat), (0 : Rat))) 1 (by decide)) rfl rfl rb1 rfl) (mem1 (.tail _ (.head _))) rfl ?_))
 intro v8 r8
 refine w_q rfl (fun h' L' hh hR => (ov_index_arr (sz := 12) (q := 0) 0 Try.underlying43 Try.sizeOf42 rfl rfl rfl (by decide)).cv (show _ = vP b1 0 from congrArg (vP b1) (by rfl))) rfl (w_q rfl (fun h' L' hh hR => (ov_index_arr (sz := 6) (q := 1) 1 Try.underlying42 Try.sizeOf29 rfl rfl rfl (by decide)).cv (show _ = vP b1 6 from congrArg (vP b1) (by rfl))) rfl (w_qx (F := fun v_ => (rpP (rpQ k) (rpQ k)).Is h0 v_ ((m.getD 0 (List.replicate 2 ((0 : Rat), (0 : Rat)))).getD 1 ((0 : Rat), (0 : Rat)))) rfl (ox_load_box ty29 (Pc.arr (Pc.arr (Pc.here _) ((0 : Rat), (0 : Rat)) 1 (by decide)) (List.replicate 2 ((0 : Rat), (0 : Rat))) 0 (by decide)) rfl rfl rb1 rfl) (mem1 (.tail _ (.head _))) rfl ?_))
 intro v12 r12
 refine w_q rfl (fun h' L' hh hR => (ov_index_arr (sz := 12) (q := 1) 1 Try.underlying43 Try.sizeOf42 rfl rfl rfl (by decide)).cv (show _ = vP b1 12 from congrArg (vP b1) (by rfl))) rfl (w_q rfl (fun h' L' hh hR => (ov_index_arr (sz := 6) (q := 0) 0 Try.underlying42 Try.sizeOf29 rfl rfl rfl (by decide)).cv (show _ = vP b1 12 from congrArg (vP b1) (by rfl))) rfl (w_qx (F := fun v_ => (rpP (rpQ k) (rpQ k)).Is h0 v_ ((m.getD 1 (List.replicate 2 ((0 : Rat), (0 : Rat)))).getD 0 ((0 : Rat), (0 : Rat)))) rfl (ox_load_box ty29 (Pc.arr (Pc.arr (Pc.here _) ((0 : Rat), (0 : Rat)) 0 (by decide)) (List.replicate 2 ((0 : Rat), (0 : Rat))) 1 (by decide)) rfl rfl rb1 rfl) (mem1 (.tail _ (.head _))) rfl ?_))
 intro v15 r15
 refine w_c rfl ?_
 refine s_call (vs := [_, _]) Try.call60 ⟨rfl, rfl, trivial⟩ (fun w hs => o_sref_mul hs r5 r8 (by omega)) rfl ?_
 intro v9 h1 hh1 r9
 change (rpP (rpQ (k + k)) (rpQ (k + k))).Is h1 v9 (mulS ((m.getD 0 (List.replicate 2 ((0 : Rat), (0 : Rat)))).getD 0 ((0 : Rat), (0 : Rat))) ((m.getD 1 (List.replicate 2 ((0 : Rat), (0 : Rat)))).getD 1 ((0 : Rat), (0 : Rat)))) at r9
 replace r9 := Rp.Is.le r9 (Le.p (Le.q (l := 2 * k) (by omega)) (Le.q (l := 2 * k) (by omega)))
 refine w_c rfl ?_
 replace r12 := r12.mono hh1
 replace r15 := r15.mono hh1
 refine s_call (vs := [_, _]) Try.call60 ⟨rfl, rfl, trivial⟩ (fun w hs => o_sref_mul hs r12 r15 (by omega)) rfl ?_
 intro v16 h2 hh2 r16
 change (rpP (rpQ (k + k)) (rpQ (k + k))).Is h2 v16 (mulS ((m.getD 0 (List.replicate 2 ((0 : Rat), (0 : Rat)))).getD 1 ((0 : Rat), (0 : Rat))) ((m.getD 1 (List.replicate 2 ((0 : Rat), (0 : Rat)))).getD 0 ((0 : Rat), (0 : Rat)))) at r16
 replace r16 := Rp.Is.le r16 (Le.p (Le.q (l := 2 * k) (by omega)) (Le.q (l := 2 * k) (by omega)))
 refine w_c rfl ?_
 replace r9 := r9.mono hh2
 refine s_call (vs := [_, _]) Try.call59 ⟨rfl, rfl, trivial⟩ (fun w hs => o_sref_sub hs r9 r16 (by omega)) rfl ?_
 intro v17 h3 hh3 r17
 change (rpP (rpQ ((2 * k) + (2 * k) + 1)) (rpQ ((2 * k) + (2 * k) + 1))).Is h3 v17 (subS (mulS ((m.getD 0 (List.replicate 2 ((0 : Rat), (0 : Rat)))).getD 0 ((0 : Rat), (0 : Rat))) ((m.getD 1 (List.replicate 2 ((0 : Rat), (0 : Rat)))).getD 1 ((0 : Rat), (0 : Rat)))) (mulS ((m.getD 0 (List.replicate 2 ((0 : Rat), (0 : Rat)))).getD 1 ((0 : Rat), (0 : Rat))) ((m.getD 1 (List.replicate 2 ((0 : Rat), (0 : Rat)))).getD 0 ((0 : Rat), (0 : Rat))))) at r17
 replace r17 := Rp.Is.le r17 (Le.p (Le.q (l := 4 * k + 1) (by omega)) (Le.q (l := 4 * k + 1) (by omega)))
 replace rb2 := rb2.mono ((hh1.trans hh2).trans hh3)
 refine w_tx_upd (A := []) (F := fun c_ => (rpP (rpQ (4 * k + 1)) (rpQ (4 * k + 1))).R h3 c_ (subS (mulS ((m.getD 0 (List.replicate 2 ((0 : Rat), (0 : Rat)))).getD 0 ((0 : Rat), (0 : Rat))) ((m.getD 1 (List.replicate 2 ((0 : Rat), (0 : Rat)))).getD 1 ((0 : Rat), (0 : Rat)))) (mulS ((m.getD 0 (List.replicate 2 ((0 : Rat), (0 : Rat)))).getD 1 ((0 : Rat), (0 : Rat))) ((m.getD 1 (List.replicate 2 ((0 : Rat), (0 : Rat)))).getD 0 ((0 : Rat), (0 : Rat)))))) rfl (upd_box Try.sizeOf29 (Pc.here _) rfl rfl rfl rb2 r17 rfl) ?_
 intro cs_5 rb_6
 refine w_nil (gq_keep (e' := [(2, _)]) ⟨rfl, trivial⟩ (gq_then (gc_ret (gq_exv (rv_o (t := 2) ty29 (.head _) rfl rb_6) ?_))))
 intro w_7 hvw_7 rr_8
 refine gq_res (fun E S => run_res1 rfl hvw_7 E S) ?_
 exact rr_8

theorem o_sref_det3 {w0 : World} {h0 : Mem}  (hs : MLe h0 (mem w0)) {k : Nat} {vm : Value} {m : (T3 (T3 (Rat × Rat)))} (rm : (rpT (rpT (rpP (rpQ k) (rpQ k)))).Is h0 vm m) (hcd0 : k ≤ 10000000)  :
    Calls Try.prog 18 #[vm] w0 (Ret w0 h0 (fun h r => (rpP (rpQ (15 * k + 20)) (rpQ (15 * k + 20))).Is h r (det3S m))) := by
 refine calls_begin (n := 71) (e := [(0, vm)]) (vs := [vm]) Try.func18 rfl rfl (Nat.le_of_ble_eq_true rfl) hs ⟨rfl, trivial⟩ (gc_seq (gc_region (gl_newop (new_boxx (ρ := (rpT (rpT (rpP (rpQ k) (rpQ k))))) rfl rm) rfl rfl rfl ?_)))
 intro v1 q1 hq1
 obtain ⟨b1, cs1, rfl, rfl, rb1⟩ := hq1
 refine gl_newop (new_allocx (ρ := (rpP (rpQ (15 * k + 20)) (rpQ (15 * k + 20)))) (X := ((0 : Rat), (0 : Rat))) info29 rfl rfl (zr_p (zr_q (by omega)) (zr_q (by omega)))) rfl rfl rfl ?_
 intro v2 q2 hq2
 obtain ⟨b2, cs2, rfl, rfl, rb2⟩ := hq2
 refine gl_nil (gq_then (gc_seq (gc_region (gv ((ov_index_arr (sz := 18) (q := 1) 1 Try.underlying40 Try.sizeOf39 rfl rfl rfl (by decide)).cv (show _ = vP b1 18 from congrArg (vP b1) (by rfl))) rfl (gv ((ov_index_arr (sz := 6) (q := 1) 1 Try.underlying39 Try.sizeOf29 rfl rfl rfl (by decide)).cv (show _ = vP b1 24 from congrArg (vP b1) (by rfl))) rfl (gl_x (F := fun v_ => (rpP (rpQ k) (rpQ k)).Is h0 v_ m.y.y) (ox_load_box ty29 (Pc.ty (Pc.ty (Pc.here _))) rfl rfl rb1 rfl) (mem1 (.tail _ (.head _))) rfl ?_))))))
 intro v8 r8
 refine gv ((ov_index_arr (sz := 18) (q := 1) 1 Try.underlying40 Try.sizeOf39 rfl rfl rfl (by decide)).cv (show _ = vP b1 18 from congrArg (vP b1) (by rfl))) rfl (gv ((ov_index_arr (sz := 6) (q := 2) 2 Try.underlying39 Try.sizeOf29 rfl rfl rfl (by decide)).cv (show _ = vP b1 30 from congrArg (vP b1) (by rfl))) rfl (gl_x (F := fun v_ => (rpP (rpQ k) (rpQ k)).Is h0 v_ m.y.z) (ox_load_box ty29 (Pc.ty (Pc.tz (Pc.here _))) rfl rfl rb1 rfl) (mem1 (.tail _ (.head _))) rfl ?_))
 intro v11 r11
 refine gl_x (F := fun v_ => (rpA 2 (rpP (rpQ (k + 1)) (rpQ (k + 1)))).Is h0 v_ [m.y.y, m.y.z]) (ox_build_arr (ps' := [(0, _), (1, _)]) Try.underlying42 info42 rfl rfl Try.sizeOf29 ⟨rfl, rfl, rfl, rfl, trivial⟩ rfl (zr_a 2 (zr_p (zr_q (by omega)) (zr_q (by omega)))) (fx_one rfl (Pc.arr (Pc.here _) ((0 : Rat), (0 : Rat)) 0 (by decide)) (r8.le (Le.p (Le.q (l := k + 1) (by omega)) (Le.q (l := k + 1) (by omega)))) (fx_one rfl (Pc.arr (Pc.here _) ((0 : Rat), (0 : Rat)) 1 (by decide)) (r11.le (Le.p (Le.q (l := k + 1) (by omega)) (Le.q (l := k + 1) (by omega)))) fx_nil))) mem0 rfl ?_
 intro v12 r12
 refine gv ((ov_index_arr (sz := 18) (q := 2) 2 Try.underlying40 Try.sizeOf39 rfl rfl rfl (by decide)).cv (show _ = vP b1 36 from congrArg (vP b1) (by rfl))) rfl (gv ((ov_index_arr (sz := 6) (q := 1) 1 Try.underlying39 Try.sizeOf29 rfl rfl rfl (by decide)).cv (show _ = vP b1 42 from congrArg (vP b1) (by rfl))) rfl (gl_x (F := fun v_ => (rpP (rpQ k) (rpQ k)).Is h0 v_ m.z.y) (ox_load_box ty29 (Pc.tz (Pc.ty (Pc.here _))) rfl rfl rb1 rfl) (mem1 (.tail _ (.head _))) rfl ?_))
 intro v15 r15
 refine gv ((ov_index_arr (sz := 18) (q := 2) 2 Try.underlying40 Try.sizeOf39 rfl rfl rfl (by decide)).cv (show _ = vP b1 36 from congrArg (vP b1) (by rfl))) rfl (gv ((ov_index_arr (sz := 6) (q := 2) 2 Try.underlying39 Try.sizeOf29 rfl rfl rfl (by decide)).cv (show _ = vP b1 48 from congrArg (vP b1) (by rfl))) rfl (gl_x (F := fun v_ => (rpP (rpQ k) (rpQ k)).Is h0 v_ m.z.z) (ox_load_box ty29 (Pc.tz (Pc.tz (Pc.here _))) rfl rfl rb1 rfl) (mem1 (.tail _ (.head _))) rfl ?_))
 intro v18 r18
 refine gl_x (F := fun v_ => (rpA 2 (rpP (rpQ (k + 1)) (rpQ (k + 1)))).Is h0 v_ [m.z.y, m.z.z]) (ox_build_arr (ps' := [(0, _), (1, _)]) Try.underlying42 info42 rfl rfl Try.sizeOf29 ⟨rfl, rfl, rfl, rfl, trivial⟩ rfl (zr_a 2 (zr_p (zr_q (by omega)) (zr_q (by omega)))) (fx_one rfl (Pc.arr (Pc.here _) ((0 : Rat), (0 : Rat)) 0 (by decide)) (r15.le (Le.p (Le.q (l := k + 1) (by omega)) (Le.q (l := k + 1) (by omega)))) (fx_one rfl (Pc.arr (Pc.here _) ((0 : Rat), (0 : Rat)) 1 (by decide)) (r18.le (Le.p (Le.q (l := k + 1) (by omega)) (Le.q (l := k + 1) (by omega)))) fx_nil))) mem0 rfl ?_
 intro v19 r19
 refine gl_x (F := fun v_ => (rpA 2 (rpA 2 (rpP (rpQ (k + 1)) (rpQ (k + 1))))).Is h0 v_ [[m.y.y, m.y.z], [m.z.y, m.z.z]]) (ox_build_arr (ps' := [(0, _), (1, _)]) Try.underlying43 info43 rfl rfl Try.sizeOf42 ⟨rfl, rfl, rfl, rfl, trivial⟩ rfl (zr_a 2 (zr_a 2 (zr_p (zr_q (by omega)) (zr_q (by omega))))) (fx_one rfl (Pc.arr (Pc.here _) (List.replicate 2 ((0 : Rat), (0 : Rat))) 0 (by decide)) r12 (fx_one rfl (Pc.arr (Pc.here _) (List.replicate 2 ((0 : Rat), (0 : Rat))) 1 (by decide)) r19 fx_nil))) mem0 rfl ?_
 intro v20 r20
 refine gl_call (vs := [_]) rfl rfl rfl rfl Try.call20 ⟨rfl, trivial⟩ (fun w hs => o_sref_det2 hs r20 (by omega)) ?_
 intro v21 h1 hh1 r21
 change (rpP (rpQ (4 * (k + 1) + 1)) (rpQ (4 * (k + 1) + 1))).Is h1 v21 (det2L [[m.y.y, m.y.z], [m.z.y, m.z.z]]) at r21
 replace r21 := Rp.Is.le r21 (Le.p (Le.q (l := 4 * k + 5) (by omega)) (Le.q (l := 4 * k + 5) (by omega)))
 replace r21 := Rp.Is.cast (y := minorS m 1 2) r21 (by rfl)
 refine gl_newop (new_allocx (ρ := (rpP (rpQ (4 * k + 5)) (rpQ (4 * k + 5)))) (X := ((0 : Rat), (0 : Rat))) info29 rfl rfl (zr_p (zr_q (by omega)) (zr_q (by omega)))) rfl rfl rfl ?_
 intro v3 q3 hq3
 obtain ⟨b3, cs3, rfl, rfl, rb3⟩ := hq3
 refine gl_updx (A := []) (F := fun c_ => (rpP (rpQ (4 * k + 5)) (rpQ (4 * k + 5))).R h1 c_ (minorS m 1 2)) (upd_box Try.sizeOf29 (Pc.here _) rfl rfl rfl rb3 r21 rfl) ?_
 intro cs_9 rb_10
 refine gl_nil (gq_keep (e' := [(1, _), (2, _), (3, _)]) ⟨rfl, rfl, rfl, trivial⟩ (gq_then (gc_seq (gc_region (gv ((ov_index_arr (sz := 18) (q := 1) 1 Try.underlying40 Try.sizeOf39 rfl rfl rfl (by decide)).cv (show _ = vP b1 18 from congrArg (vP b1) (by rfl))) rfl (gv ((ov_index_arr (sz := 6) (q := 0) 0 Try.underlying39 Try.sizeOf29 rfl rfl rfl (by decide)).cv (show _ = vP b1 18 from congrArg (vP b1) (by rfl))) rfl ?_))))))
 replace rb1 := rb1.mono hh1
 refine gl_x (F := fun v_ => (rpP (rpQ k) (rpQ k)).Is h1 v_ m.y.x) (ox_load_box ty29 (Pc.ty (Pc.tx (Pc.here _))) rfl rfl rb1 rfl) (mem1 (.tail _ (.tail _ (.head _)))) rfl ?_
 intro v24 r24
 refine gv ((ov_index_arr (sz := 18) (q := 1) 1 Try.underlying40 Try.sizeOf39 rfl rfl rfl (by decide)).cv (show _ = vP b1 18 from congrArg (vP b1) (by rfl))) rfl (gv ((ov_index_arr (sz := 6) (q := 2) 2 Try.underlying39 Try.sizeOf29 rfl rfl rfl (by decide)).cv (show _ = vP b1 30 from congrArg (vP b1) (by rfl))) rfl (gl_x (F := fun v_ => (rpP (rpQ k) (rpQ k)).Is h1 v_ m.y.z) (ox_load_box ty29 (Pc.ty (Pc.tz (Pc.here _))) rfl rfl rb1 rfl) (mem1 (.tail _ (.tail _ (.head _)))) rfl ?_))
 intro v27 r27
 refine gl_x (F := fun v_ => (rpA 2 (rpP (rpQ (k + 1)) (rpQ (k + 1)))).Is h1 v_ [m.y.x, m.y.z]) (ox_build_arr (ps' := [(0, _), (1, _)]) Try.underlying42 info42 rfl rfl Try.sizeOf29 ⟨rfl, rfl, rfl, rfl, trivial⟩ rfl (zr_a 2 (zr_p (zr_q (by omega)) (zr_q (by omega)))) (fx_one rfl (Pc.arr (Pc.here _) ((0 : Rat), (0 : Rat)) 0 (by decide)) (r24.le (Le.p (Le.q (l := k + 1) (by omega)) (Le.q (l := k + 1) (by omega)))) (fx_one rfl (Pc.arr (Pc.here _) ((0 : Rat), (0 : Rat)) 1 (by decide)) (r27.le (Le.p (Le.q (l := k + 1) (by omega)) (Le.q (l := k + 1) (by omega)))) fx_nil))) mem0 rfl ?_
 intro v28 r28
 refine gv ((ov_index_arr (sz := 18) (q := 2) 2 Try.underlying40 Try.sizeOf39 rfl rfl rfl (by decide)).cv (show _ = vP b1 36 from congrArg (vP b1) (by rfl))) rfl (gv ((ov_index_arr (sz := 6) (q := 0) 0 Try.underlying39 Try.sizeOf29 rfl rfl rfl (by decide)).cv (show _ = vP b1 36 from congrArg (vP b1) (by rfl))) rfl (gl_x (F := fun v_ => (rpP (rpQ k) (rpQ k)).Is h1 v_ m.z.x) (ox_load_box ty29 (Pc.tz (Pc.tx (Pc.here _))) rfl rfl rb1 rfl) (mem1 (.tail _ (.tail _ (.head _)))) rfl ?_))
 intro v31 r31
 refine gv ((ov_index_arr (sz := 18) (q := 2) 2 Try.underlying40 Try.sizeOf39 rfl rfl rfl (by decide)).cv (show _ = vP b1 36 from congrArg (vP b1) (by rfl))) rfl (gv ((ov_index_arr (sz := 6) (q := 2) 2 Try.underlying39 Try.sizeOf29 rfl rfl rfl (by decide)).cv (show _ = vP b1 48 from congrArg (vP b1) (by rfl))) rfl (gl_x (F := fun v_ => (rpP (rpQ k) (rpQ k)).Is h1 v_ m.z.z) (ox_load_box ty29 (Pc.tz (Pc.tz (Pc.here _))) rfl rfl rb1 rfl) (mem1 (.tail _ (.tail _ (.head _)))) rfl ?_))
 intro v34 r34
 refine gl_x (F := fun v_ => (rpA 2 (rpP (rpQ (k + 1)) (rpQ (k + 1)))).Is h1 v_ [m.z.x, m.z.z]) (ox_build_arr (ps' := [(0, _), (1, _)]) Try.underlying42 info42 rfl rfl Try.sizeOf29 ⟨rfl, rfl, rfl, rfl, trivial⟩ rfl (zr_a 2 (zr_p (zr_q (by omega)) (zr_q (by omega)))) (fx_one rfl (Pc.arr (Pc.here _) ((0 : Rat), (0 : Rat)) 0 (by decide)) (r31.le (Le.p (Le.q (l := k + 1) (by omega)) (Le.q (l := k + 1) (by omega)))) (fx_one rfl (Pc.arr (Pc.here _) ((0 : Rat), (0 : Rat)) 1 (by decide)) (r34.le (Le.p (Le.q (l := k + 1) (by omega)) (Le.q (l := k + 1) (by omega)))) fx_nil))) mem0 rfl ?_
 intro v35 r35
 refine gl_x (F := fun v_ => (rpA 2 (rpA 2 (rpP (rpQ (k + 1)) (rpQ (k + 1))))).Is h1 v_ [[m.y.x, m.y.z], [m.z.x, m.z.z]]) (ox_build_arr (ps' := [(0, _), (1, _)]) Try.underlying43 info43 rfl rfl Try.sizeOf42 ⟨rfl, rfl, rfl, rfl, trivial⟩ rfl (zr_a 2 (zr_a 2 (zr_p (zr_q (by omega)) (zr_q (by omega))))) (fx_one rfl (Pc.arr (Pc.here _) (List.replicate 2 ((0 : Rat), (0 : Rat))) 0 (by decide)) r28 (fx_one rfl (Pc.arr (Pc.here _) (List.replicate 2 ((0 : Rat), (0 : Rat))) 1 (by decide)) r35 fx_nil))) mem0 rfl ?_
 intro v36 r36
 refine gl_call (vs := [_]) rfl rfl rfl rfl Try.call20 ⟨rfl, trivial⟩ (fun w hs => o_sref_det2 hs r36 (by omega)) ?_
 intro v37 h2 hh2 r37
 change (rpP (rpQ (4 * (k + 1) + 1)) (rpQ (4 * (k + 1) + 1))).Is h2 v37 (det2L [[m.y.x, m.y.z], [m.z.x, m.z.z]]) at r37
 replace r37 := Rp.Is.le r37 (Le.p (Le.q (l := 4 * k + 5) (by omega)) (Le.q (l := 4 * k + 5) (by omega)))
 replace r37 := Rp.Is.cast (y := minorS m 0 2) r37 (by rfl)
 refine gl_newop (new_allocx (ρ := (rpP (rpQ (4 * k + 5)) (rpQ (4 * k + 5)))) (X := ((0 : Rat), (0 : Rat))) info29 rfl rfl (zr_p (zr_q (by omega)) (zr_q (by omega)))) rfl rfl rfl ?_
 intro v4 q4 hq4
 obtain ⟨b4, cs4, rfl, rfl, rb4⟩ := hq4
 refine gl_updx (A := []) (F := fun c_ => (rpP (rpQ (4 * k + 5)) (rpQ (4 * k + 5))).R h2 c_ (minorS m 0 2)) (upd_box Try.sizeOf29 (Pc.here _) rfl rfl rfl rb4 r37 rfl) ?_
 intro cs_11 rb_12
 refine gl_nil (gq_keep (e' := [(1, _), (2, _), (3, _), (4, _)]) ⟨rfl, rfl, rfl, rfl, trivial⟩ (gq_then (gc_seq (gc_region (gv ((ov_index_arr (sz := 18) (q := 1) 1 Try.underlying40 Try.sizeOf39 rfl rfl rfl (by decide)).cv (show _ = vP b1 18 from congrArg (vP b1) (by rfl))) rfl (gv ((ov_index_arr (sz := 6) (q := 0) 0 Try.underlying39 Try.sizeOf29 rfl rfl rfl (by decide)).cv (show _ = vP b1 18 from congrArg (vP b1) (by rfl))) rfl ?_))))))
 replace rb1 := rb1.mono hh2
 refine gl_x (F := fun v_ => (rpP (rpQ k) (rpQ k)).Is h2 v_ m.y.x) (ox_load_box ty29 (Pc.ty (Pc.tx (Pc.here _))) rfl rfl rb1 rfl) (mem1 (.tail _ (.tail _ (.tail _ (.head _))))) rfl ?_
 intro v40 r40
 refine gv ((ov_index_arr (sz := 18) (q := 1) 1 Try.underlying40 Try.sizeOf39 rfl rfl rfl (by decide)).cv (show _ = vP b1 18 from congrArg (vP b1) (by rfl))) rfl (gv ((ov_index_arr (sz := 6) (q := 1) 1 Try.underlying39 Try.sizeOf29 rfl rfl rfl (by decide)).cv (show _ = vP b1 24 from congrArg (vP b1) (by rfl))) rfl (gl_x (F := fun v_ => (rpP (rpQ k) (rpQ k)).Is h2 v_ m.y.y) (ox_load_box ty29 (Pc.ty (Pc.ty (Pc.here _))) rfl rfl rb1 rfl) (mem1 (.tail _ (.tail _ (.tail _ (.head _))))) rfl ?_))
 intro v43 r43
 refine gl_x (F := fun v_ => (rpA 2 (rpP (rpQ (k + 1)) (rpQ (k + 1)))).Is h2 v_ [m.y.x, m.y.y]) (ox_build_arr (ps' := [(0, _), (1, _)]) Try.underlying42 info42 rfl rfl Try.sizeOf29 ⟨rfl, rfl, rfl, rfl, trivial⟩ rfl (zr_a 2 (zr_p (zr_q (by omega)) (zr_q (by omega)))) (fx_one rfl (Pc.arr (Pc.here _) ((0 : Rat), (0 : Rat)) 0 (by decide)) (r40.le (Le.p (Le.q (l := k + 1) (by omega)) (Le.q (l := k + 1) (by omega)))) (fx_one rfl (Pc.arr (Pc.here _) ((0 : Rat), (0 : Rat)) 1 (by decide)) (r43.le (Le.p (Le.q (l := k + 1) (by omega)) (Le.q (l := k + 1) (by omega)))) fx_nil))) mem0 rfl ?_
 intro v44 r44
 refine gv ((ov_index_arr (sz := 18) (q := 2) 2 Try.underlying40 Try.sizeOf39 rfl rfl rfl (by decide)).cv (show _ = vP b1 36 from congrArg (vP b1) (by rfl))) rfl (gv ((ov_index_arr (sz := 6) (q := 0) 0 Try.underlying39 Try.sizeOf29 rfl rfl rfl (by decide)).cv (show _ = vP b1 36 from congrArg (vP b1) (by rfl))) rfl (gl_x (F := fun v_ => (rpP (rpQ k) (rpQ k)).Is h2 v_ m.z.x) (ox_load_box ty29 (Pc.tz (Pc.tx (Pc.here _))) rfl rfl rb1 rfl) (mem1 (.tail _ (.tail _ (.tail _ (.head _))))) rfl ?_))
 intro v47 r47
 refine gv ((ov_index_arr (sz := 18) (q := 2) 2 Try.underlying40 Try.sizeOf39 rfl rfl rfl (by decide)).cv (show _ = vP b1 36 from congrArg (vP b1) (by rfl))) rfl (gv ((ov_index_arr (sz := 6) (q := 1) 1 Try.underlying39 Try.sizeOf29 rfl rfl rfl (by decide)).cv (show _ = vP b1 42 from congrArg (vP b1) (by rfl))) rfl (gl_x (F := fun v_ => (rpP (rpQ k) (rpQ k)).Is h2 v_ m.z.y) (ox_load_box ty29 (Pc.tz (Pc.ty (Pc.here _))) rfl rfl rb1 rfl) (mem1 (.tail _ (.tail _ (.tail _ (.head _))))) rfl ?_))
 intro v50 r50
 refine gl_x (F := fun v_ => (rpA 2 (rpP (rpQ (k + 1)) (rpQ (k + 1)))).Is h2 v_ [m.z.x, m.z.y]) (ox_build_arr (ps' := [(0, _), (1, _)]) Try.underlying42 info42 rfl rfl Try.sizeOf29 ⟨rfl, rfl, rfl, rfl, trivial⟩ rfl (zr_a 2 (zr_p (zr_q (by omega)) (zr_q (by omega)))) (fx_one rfl (Pc.arr (Pc.here _) ((0 : Rat), (0 : Rat)) 0 (by decide)) (r47.le (Le.p (Le.q (l := k + 1) (by omega)) (Le.q (l := k + 1) (by omega)))) (fx_one rfl (Pc.arr (Pc.here _) ((0 : Rat), (0 : Rat)) 1 (by decide)) (r50.le (Le.p (Le.q (l := k + 1) (by omega)) (Le.q (l := k + 1) (by omega)))) fx_nil))) mem0 rfl ?_
 intro v51 r51
 refine gl_x (F := fun v_ => (rpA 2 (rpA 2 (rpP (rpQ (k + 1)) (rpQ (k + 1))))).Is h2 v_ [[m.y.x, m.y.y], [m.z.x, m.z.y]]) (ox_build_arr (ps' := [(0, _), (1, _)]) Try.underlying43 info43 rfl rfl Try.sizeOf42 ⟨rfl, rfl, rfl, rfl, trivial⟩ rfl (zr_a 2 (zr_a 2 (zr_p (zr_q (by omega)) (zr_q (by omega))))) (fx_one rfl (Pc.arr (Pc.here _) (List.replicate 2 ((0 : Rat), (0 : Rat))) 0 (by decide)) r44 (fx_one rfl (Pc.arr (Pc.here _) (List.replicate 2 ((0 : Rat), (0 : Rat))) 1 (by decide)) r51 fx_nil))) mem0 rfl ?_
 intro v52 r52
 refine gl_call (vs := [_]) rfl rfl rfl rfl Try.call20 ⟨rfl, trivial⟩ (fun w hs => o_sref_det2 hs r52 (by omega)) ?_
 intro v53 h3 hh3 r53
 change (rpP (rpQ (4 * (k + 1) + 1)) (rpQ (4 * (k + 1) + 1))).Is h3 v53 (det2L [[m.y.x, m.y.y], [m.z.x, m.z.y]]) at r53
 replace r53 := Rp.Is.le r53 (Le.p (Le.q (l := 4 * k + 5) (by omega)) (Le.q (l := 4 * k + 5) (by omega)))
 replace r53 := Rp.Is.cast (y := minorS m 0 1) r53 (by rfl)
 refine gl_newop (new_allocx (ρ := (rpP (rpQ (4 * k + 5)) (rpQ (4 * k + 5)))) (X := ((0 : Rat), (0 : Rat))) info29 rfl rfl (zr_p (zr_q (by omega)) (zr_q (by omega)))) rfl rfl rfl ?_
 intro v5 q5 hq5
 obtain ⟨b5, cs5, rfl, rfl, rb5⟩ := hq5
 refine gl_updx (A := []) (F := fun c_ => (rpP (rpQ (4 * k + 5)) (rpQ (4 * k + 5))).R h3 c_ (minorS m 0 1)) (upd_box Try.sizeOf29 (Pc.here _) rfl rfl rfl rb5 r53 rfl) ?_
 intro cs_13 rb_14
 refine gl_nil (gq_keep (e' := [(1, _), (2, _), (3, _), (4, _), (5, _)]) ⟨rfl, rfl, rfl, rfl, rfl, trivial⟩ (gq_then (gc_seq ?_)))
 refine gc_draw 17 _ [] [(0, .q), (1, .q), (2, .q), (3, .q), (5, .q), (6, .q), (7, .q), (8, .q), (11, .q), (12, .q), (13, .q), (14, .q), (4, .c), (9, .c), (10, .c), (15, .c), (16, .c), (17, .t)] mixed (fun x hx => by cases hx) (by kernel_rfl) (fun x hx => by cases hx) (fun r hr => hr) (w_q rfl (fun h' L' hh hR => (ov_index_arr (sz := 18) (q := 0) 0 Try.underlying40 Try.sizeOf39 rfl rfl rfl (by decide)).cv (show _ = vP b1 0 from congrArg (vP b1) (by rfl))) rfl (w_q rfl (fun h' L' hh hR => (ov_index_arr (sz := 6) (q := 0) 0 Try.underlying39 Try.sizeOf29 rfl rfl rfl (by decide)).cv (show _ = vP b1 0 from congrArg (vP b1) (by rfl))) rfl ?_))
 replace rb1 := rb1.mono hh3
 refine w_qx (F := fun v_ => (rpP (rpQ k) (rpQ k)).Is h3 v_ m.x.x) rfl (ox_load_box ty29 (Pc.tx (Pc.tx (Pc.here _))) rfl rfl rb1 rfl) (mem1 (.tail _ (.tail _ (.tail _ (.tail _ (.head _)))))) rfl ?_
 intro v56 r56
 replace rb_10 := rb_10.mono (hh2.trans hh3)
 refine w_qx (F := fun v_ => (rpP (rpQ (4 * k + 5)) (rpQ (4 * k + 5))).Is h3 v_ (minorS m 1 2)) rfl (ox_load_box ty29 (Pc.here _) rfl rfl rb_10 rfl) (mem1 (.tail _ (.tail _ (.head _)))) rfl ?_
 intro v57 r57
 refine w_q rfl (fun h' L' hh hR => (ov_index_arr (sz := 18) (q := 0) 0 Try.underlying40 Try.sizeOf39 rfl rfl rfl (by decide)).cv (show _ = vP b1 0 from congrArg (vP b1) (by rfl))) rfl (w_q rfl (fun h' L' hh hR => (ov_index_arr (sz := 6) (q := 1) 1 Try.underlying39 Try.sizeOf29 rfl rfl rfl (by decide)).cv (show _ = vP b1 6 from congrArg (vP b1) (by rfl))) rfl (w_qx (F := fun v_ => (rpP (rpQ k) (rpQ k)).Is h3 v_ m.x.y) rfl (ox_load_box ty29 (Pc.tx (Pc.ty (Pc.here _))) rfl rfl rb1 rfl) (mem1 (.tail _ (.tail _ (.tail _ (.tail _ (.head _)))))) rfl ?_))
 intro v61 r61
 replace rb_12 := rb_12.mono hh3
 refine w_qx (F := fun v_ => (rpP (rpQ (4 * k + 5)) (rpQ (4 * k + 5))).Is h3 v_ (minorS m 0 2)) rfl (ox_load_box ty29 (Pc.here _) rfl rfl rb_12 rfl) (mem1 (.tail _ (.head _))) rfl ?_
 intro v62 r62
 refine w_q rfl (fun h' L' hh hR => (ov_index_arr (sz := 18) (q := 0) 0 Try.underlying40 Try.sizeOf39 rfl rfl rfl (by decide)).cv (show _ = vP b1 0 from congrArg (vP b1) (by rfl))) rfl (w_q rfl (fun h' L' hh hR => (ov_index_arr (sz := 6) (q := 2) 2 Try.underlying39 Try.sizeOf29 rfl rfl rfl (by decide)).cv (show _ = vP b1 12 from congrArg (vP b1) (by rfl))) rfl (w_qx (F := fun v_ => (rpP (rpQ k) (rpQ k)).Is h3 v_ m.x.z) rfl (ox_load_box ty29 (Pc.tx (Pc.tz (Pc.here _))) rfl rfl rb1 rfl) (mem1 (.tail _ (.tail _ (.tail _ (.tail _ (.head _)))))) rfl ?_))
 intro v67 r67
 refine w_qx (F := fun v_ => (rpP (rpQ (4 * k + 5)) (rpQ (4 * k + 5))).Is h3 v_ (minorS m 0 1)) rfl (ox_load_box ty29 (Pc.here _) rfl rfl rb_14 rfl) (mem1 (.head _)) rfl ?_
 intro v68 r68
 refine w_c rfl ?_
 refine s_call (vs := [_, _]) Try.call60 ⟨rfl, rfl, trivial⟩ (fun w hs => o_sref_mul hs r56 r57 (by omega)) rfl ?_
 intro v58 h4 hh4 r58
 change (rpP (rpQ (k + (4 * k + 5))) (rpQ (k + (4 * k + 5)))).Is h4 v58 (mulS m.x.x (minorS m 1 2)) at r58
 replace r58 := Rp.Is.le r58 (Le.p (Le.q (l := 5 * k + 5) (by omega)) (Le.q (l := 5 * k + 5) (by omega)))
 refine w_c rfl ?_
 replace r61 := r61.mono hh4
 replace r62 := r62.mono hh4
 refine s_call (vs := [_, _]) Try.call60 ⟨rfl, rfl, trivial⟩ (fun w hs => o_sref_mul hs r61 r62 (by omega)) rfl ?_
 intro v63 h5 hh5 r63
 change (rpP (rpQ (k + (4 * k + 5))) (rpQ (k + (4 * k + 5)))).Is h5 v63 (mulS m.x.y (minorS m 0 2)) at r63
 replace r63 := Rp.Is.le r63 (Le.p (Le.q (l := 5 * k + 5) (by omega)) (Le.q (l := 5 * k + 5) (by omega)))
 refine w_c rfl ?_
 replace r58 := r58.mono hh5
 refine s_call (vs := [_, _]) Try.call59 ⟨rfl, rfl, trivial⟩ (fun w hs => o_sref_sub hs r58 r63 (by omega)) rfl ?_
 intro v64 h6 hh6 r64
 change (rpP (rpQ ((5 * k + 5) + (5 * k + 5) + 1)) (rpQ ((5 * k + 5) + (5 * k + 5) + 1))).Is h6 v64 (subS (mulS m.x.x (minorS m 1 2)) (mulS m.x.y (minorS m 0 2))) at r64
 replace r64 := Rp.Is.le r64 (Le.p (Le.q (l := 10 * k + 11) (by omega)) (Le.q (l := 10 * k + 11) (by omega)))
 refine w_c rfl ?_
 replace r67 := r67.mono ((hh4.trans hh5).trans hh6)
 replace r68 := r68.mono ((hh4.trans hh5).trans hh6)
 refine s_call (vs := [_, _]) Try.call60 ⟨rfl, rfl, trivial⟩ (fun w hs => o_sref_mul hs r67 r68 (by omega)) rfl ?_
 intro v69 h7 hh7 r69
 change (rpP (rpQ (k + (4 * k + 5))) (rpQ (k + (4 * k + 5)))).Is h7 v69 (mulS m.x.z (minorS m 0 1)) at r69
 replace r69 := Rp.Is.le r69 (Le.p (Le.q (l := 5 * k + 5) (by omega)) (Le.q (l := 5 * k + 5) (by omega)))
 refine w_c rfl ?_
 replace r64 := r64.mono hh7
 refine s_call (vs := [_, _]) Try.call58 ⟨rfl, rfl, trivial⟩ (fun w hs => o_sref_add hs r64 r69 (by omega)) rfl ?_
 intro v70 h8 hh8 r70
 change (rpP (rpQ ((10 * k + 11) + (5 * k + 5) + 1)) (rpQ ((10 * k + 11) + (5 * k + 5) + 1))).Is h8 v70 (addS (subS (mulS m.x.x (minorS m 1 2)) (mulS m.x.y (minorS m 0 2))) (mulS m.x.z (minorS m 0 1))) at r70
 replace r70 := Rp.Is.le r70 (Le.p (Le.q (l := 15 * k + 17) (by omega)) (Le.q (l := 15 * k + 17) (by omega)))
 replace rb2 := rb2.mono (((((((hh1.trans hh2).trans hh3).trans hh4).trans hh5).trans hh6).trans hh7).trans hh8)
 refine w_tx_upd (A := [_, _, _]) (F := fun c_ => (rpP (rpQ (15 * k + 20)) (rpQ (15 * k + 20))).R h8 c_ (addS (subS (mulS m.x.x (minorS m 1 2)) (mulS m.x.y (minorS m 0 2))) (mulS m.x.z (minorS m 0 1)))) rfl (upd_box Try.sizeOf29 (Pc.here _) rfl rfl rfl rb2 (r70.le (Le.p (Le.q (l := 15 * k + 20) (by omega)) (Le.q (l := 15 * k + 20) (by omega)))) rfl) ?_
 intro cs_15 rb_16
 refine w_nil (gq_keep (e' := [(2, _)]) ⟨rfl, trivial⟩ (gq_then (gc_ret (gq_exv (rv_o (t := 2) ty29 (.tail _ (.tail _ (.tail _ (.head _)))) rfl rb_16) ?_))))
 intro w_17 hvw_17 rr_18
 refine gq_res (fun E S => run_res1 rfl hvw_17 E S) ?_
 exact rr_18

theorem o_span_minor {w0 w : World} {h0 h : Mem} {k : Nat} {b : Nat} {cs : List Value} {i : Int} (hi1 : -9223372036854775808 ≤ i) (hi2 : i < 9223372036854775808) {j : Int} (hj1 : -9223372036854775808 ≤ j) (hj2 : j < 9223372036854775808) {m : (T3 (T3 (Rat × Rat)))} (rb : (rpT (rpT (rpP (rpQ k) (rpQ k)))).R h cs m) (hcd0 : k ≤ 10000000) (hcd1 : 0 ≤ i) (hcd2 : i < 3) (hcd3 : 0 ≤ j) (hcd4 : j < 3)  {L : List Res} (hs : St w0 h0 (.var b 40 cs :: L) h w) :
    Calls Try.prog 56 #[vI i, vI j, vP b 0] w (RetMut w0 h0 h L (fun g r q' => q' = .var b 40 cs ∧ (rpP (rpQ (4 * k + 5)) (rpQ (4 * k + 5))).Is g r (minorS m i.toNat j.toNat))) := by
 refine calls_begin_st (n := 26) (e := [(0, vI i), (1, vI j), (2, vP b 0)]) (vs := [vI i, vI j, vP b 0]) Try.func56 rfl rfl (Nat.le_of_ble_eq_true rfl) hs ⟨rfl, rfl, rfl, trivial⟩ (gc_seq (gc_region (gl_newop (new_allocx (ρ := (rpP (rpQ (4 * k + 5)) (rpQ (4 * k + 5)))) (X := ((0 : Rat), (0 : Rat))) info29 rfl rfl (zr_p (zr_q (by omega)) (zr_q (by omega)))) rfl rfl rfl ?_)))
 intro v5 q5 hq5
 obtain ⟨b5, cs5, rfl, rfl, rb5⟩ := hq5
 refine gl_nil (gq_then (gc_seq ?_))
 refine gc_draw 20 _ [] [(0, .q), (1, .q), (2, .q), (3, .q), (4, .q), (5, .q), (6, .q), (7, .q), (8, .q), (9, .q), (10, .q), (11, .q), (12, .q), (13, .q), (14, .q), (15, .q), (16, .q), (17, .q), (18, .q), (19, .c), (20, .t)] mixed (fun x hx => by cases hx) (by kernel_rfl) (fun x hx => by cases hx) (fun r hr => hr) (w_q rfl (fun h' L' hh hR => ov_move rfl) rfl (w_q rfl (fun h' L' hh hR => (ov_index_arr (sz := 18) (q := 1) 1 Try.underlying40 Try.sizeOf39 rfl rfl rfl (by decide)).cv (show _ = vP b 18 from congrArg (vP b) (by rfl))) rfl (w_q rfl (fun h' L' hh hR => (ov_index_arr (sz := 6) i.toNat Try.underlying39 Try.sizeOf29 rfl rfl (by omega) (by omega)).cv (show _ = vP b ((18 + (i.toNat * 6 + 0))) from congrArg (vP b) (by omega))) rfl (w_qx (F := fun v_ => (rpP (rpQ k) (rpQ k)).Is h v_ (m.y.at i.toNat)) rfl (ox_load_box ty29 (Pc.ty (Pc.ta (Pc.here _) i.toNat (by omega))) rfl rfl rb rfl) (mem1 (.tail _ (.head _))) rfl ?_))))
 intro v9 r9
 refine w_q rfl (fun h' L' hh hR => ov_move rfl) rfl (w_q rfl (fun h' L' hh hR => (ov_index_arr (sz := 18) (q := 1) 1 Try.underlying40 Try.sizeOf39 rfl rfl rfl (by decide)).cv (show _ = vP b 18 from congrArg (vP b) (by rfl))) rfl (w_q rfl (fun h' L' hh hR => (ov_index_arr (sz := 6) j.toNat Try.underlying39 Try.sizeOf29 rfl rfl (by omega) (by omega)).cv (show _ = vP b ((18 + (j.toNat * 6 + 0))) from congrArg (vP b) (by omega))) rfl (w_qx (F := fun v_ => (rpP (rpQ k) (rpQ k)).Is h v_ (m.y.at j.toNat)) rfl (ox_load_box ty29 (Pc.ty (Pc.ta (Pc.here _) j.toNat (by omega))) rfl rfl rb rfl) (mem1 (.tail _ (.head _))) rfl ?_)))
 intro v13 r13
 refine w_qx (F := fun v_ => (rpA 2 (rpP (rpQ (k + 1)) (rpQ (k + 1)))).Is h v_ [(m.y.at i.toNat), (m.y.at j.toNat)]) rfl (ox_build_arr (ps' := [(0, _), (1, _)]) Try.underlying42 info42 rfl rfl Try.sizeOf29 ⟨rfl, rfl, rfl, rfl, trivial⟩ rfl (zr_a 2 (zr_p (zr_q (by omega)) (zr_q (by omega)))) (fx_one rfl (Pc.arr (Pc.here _) ((0 : Rat), (0 : Rat)) 0 (by decide)) (r9.le (Le.p (Le.q (l := k + 1) (by omega)) (Le.q (l := k + 1) (by omega)))) (fx_one rfl (Pc.arr (Pc.here _) ((0 : Rat), (0 : Rat)) 1 (by decide)) (r13.le (Le.p (Le.q (l := k + 1) (by omega)) (Le.q (l := k + 1) (by omega)))) fx_nil))) mem0 rfl ?_
 intro v14 r14
 refine w_q rfl (fun h' L' hh hR => ov_move rfl) rfl (w_q rfl (fun h' L' hh hR => (ov_index_arr (sz := 18) (q := 2) 2 Try.underlying40 Try.sizeOf39 rfl rfl rfl (by decide)).cv (show _ = vP b 36 from congrArg (vP b) (by rfl))) rfl (w_q rfl (fun h' L' hh hR => (ov_index_arr (sz := 6) i.toNat Try.underlying39 Try.sizeOf29 rfl rfl (by omega) (by omega)).cv (show _ = vP b ((18 + (18 + (i.toNat * 6 + 0)))) from congrArg (vP b) (by omega))) rfl (w_qx (F := fun v_ => (rpP (rpQ k) (rpQ k)).Is h v_ (m.z.at i.toNat)) rfl (ox_load_box ty29 (Pc.tz (Pc.ta (Pc.here _) i.toNat (by omega))) rfl rfl rb rfl) (mem1 (.tail _ (.head _))) rfl ?_)))
 intro v18 r18
 refine w_q rfl (fun h' L' hh hR => ov_move rfl) rfl (w_q rfl (fun h' L' hh hR => (ov_index_arr (sz := 18) (q := 2) 2 Try.underlying40 Try.sizeOf39 rfl rfl rfl (by decide)).cv (show _ = vP b 36 from congrArg (vP b) (by rfl))) rfl (w_q rfl (fun h' L' hh hR => (ov_index_arr (sz := 6) j.toNat Try.underlying39 Try.sizeOf29 rfl rfl (by omega) (by omega)).cv (show _ = vP b ((18 + (18 + (j.toNat * 6 + 0)))) from congrArg (vP b) (by omega))) rfl (w_qx (F := fun v_ => (rpP (rpQ k) (rpQ k)).Is h v_ (m.z.at j.toNat)) rfl (ox_load_box ty29 (Pc.tz (Pc.ta (Pc.here _) j.toNat (by omega))) rfl rfl rb rfl) (mem1 (.tail _ (.head _))) rfl ?_)))
 intro v22 r22
 refine w_qx (F := fun v_ => (rpA 2 (rpP (rpQ (k + 1)) (rpQ (k + 1)))).Is h v_ [(m.z.at i.toNat), (m.z.at j.toNat)]) rfl (ox_build_arr (ps' := [(0, _), (1, _)]) Try.underlying42 info42 rfl rfl Try.sizeOf29 ⟨rfl, rfl, rfl, rfl, trivial⟩ rfl (zr_a 2 (zr_p (zr_q (by omega)) (zr_q (by omega)))) (fx_one rfl (Pc.arr (Pc.here _) ((0 : Rat), (0 : Rat)) 0 (by decide)) (r18.le (Le.p (Le.q (l := k + 1) (by omega)) (Le.q (l := k + 1) (by omega)))) (fx_one rfl (Pc.arr (Pc.here _) ((0 : Rat), (0 : Rat)) 1 (by decide)) (r22.le (Le.p (Le.q (l := k + 1) (by omega)) (Le.q (l := k + 1) (by omega)))) fx_nil))) mem0 rfl ?_
 intro v23 r23
 refine w_qx (F := fun v_ => (rpA 2 (rpA 2 (rpP (rpQ (k + 1)) (rpQ (k + 1))))).Is h v_ [[(m.y.at i.toNat), (m.y.at j.toNat)], [(m.z.at i.toNat), (m.z.at j.toNat)]]) rfl (ox_build_arr (ps' := [(0, _), (1, _)]) Try.underlying43 info43 rfl rfl Try.sizeOf42 ⟨rfl, rfl, rfl, rfl, trivial⟩ rfl (zr_a 2 (zr_a 2 (zr_p (zr_q (by omega)) (zr_q (by omega))))) (fx_one rfl (Pc.arr (Pc.here _) (List.replicate 2 ((0 : Rat), (0 : Rat))) 0 (by decide)) r14 (fx_one rfl (Pc.arr (Pc.here _) (List.replicate 2 ((0 : Rat), (0 : Rat))) 1 (by decide)) r23 fx_nil))) mem0 rfl ?_
 intro v24 r24
 refine w_c rfl ?_
 refine s_call (vs := [_]) Try.call19 ⟨rfl, trivial⟩ (fun w hs => o_span_det2 hs r24 (by omega)) rfl ?_
 intro v25 h1 hh1 r25
 change (rpP (rpQ (4 * (k + 1) + 1)) (rpQ (4 * (k + 1) + 1))).Is h1 v25 (det2L [[(m.y.at i.toNat), (m.y.at j.toNat)], [(m.z.at i.toNat), (m.z.at j.toNat)]]) at r25
 replace r25 := Rp.Is.le r25 (Le.p (Le.q (l := 4 * k + 5) (by omega)) (Le.q (l := 4 * k + 5) (by omega)))
 replace rb5 := rb5.mono hh1
 refine w_tx_upd (A := []) (F := fun c_ => (rpP (rpQ (4 * k + 5)) (rpQ (4 * k + 5))).R h1 c_ (det2L [[(m.y.at i.toNat), (m.y.at j.toNat)], [(m.z.at i.toNat), (m.z.at j.toNat)]])) rfl (upd_box Try.sizeOf29 (Pc.here _) rfl rfl rfl rb5 r25 rfl) ?_
 intro cs_19 rb_20
 refine w_nil (gq_keep (e' := [(5, _)]) ⟨rfl, trivial⟩ (gq_then (gc_ret (gq_exv (rv_o (t := 5) ty29 (.head _) rfl rb_20) ?_))))
 intro w_21 hvw_21 rr_22
 refine gq_res_own (fun E S => run_res1 rfl hvw_21 E S) ?_
 exact ⟨_, (.cons _ (List.Sublist.refl _)), hh1, rfl, rr_22⟩

theorem o_span_det3 {w0 : World} {h0 : Mem}  (hs : MLe h0 (mem w0)) {k : Nat} {vm : Value} {m : (T3 (T3 (Rat × Rat)))} (rm : (rpT (rpT (rpP (rpQ k) (rpQ k)))).Is h0 vm m) (hcd0 : k ≤ 10000000)  :
    Calls Try.prog 17 #[vm] w0 (Ret w0 h0 (fun h r => (rpP (rpQ (15 * k + 20)) (rpQ (15 * k + 20))).Is h r (det3S m))) := by
 refine calls_begin (n := 25) (e := [(0, vm)]) (vs := [vm]) Try.func17 rfl rfl (Nat.le_of_ble_eq_true rfl) hs ⟨rfl, trivial⟩ (gc_seq (gc_region (gl_newop (new_boxx (ρ := (rpT (rpT (rpP (rpQ k) (rpQ k))))) rfl rm) rfl rfl rfl ?_)))
 intro v1 q1 hq1
 obtain ⟨b1, cs1, rfl, rfl, rb1⟩ := hq1
 refine gl_newop (new_allocx (ρ := (rpP (rpQ (15 * k + 20)) (rpQ (15 * k + 20)))) (X := ((0 : Rat), (0 : Rat))) info29 rfl rfl (zr_p (zr_q (by omega)) (zr_q (by omega)))) rfl rfl rfl ?_
 intro v2 q2 hq2
 obtain ⟨b2, cs2, rfl, rfl, rb2⟩ := hq2
 refine gl_nil (gq_then (gc_seq (gc_region (gv (ov_makefunc (f := 56) (vs := [_]) ⟨rfl, trivial⟩) rfl (asg rfl rfl (gl_nil (gq_then (gc_seq ?_))))))))
 refine gc_draw 20 _ [] [(0, .q), (1, .q), (2, .q), (3, .q), (6, .q), (7, .q), (8, .q), (9, .q), (13, .q), (14, .q), (15, .q), (16, .q), (4, .c), (5, .c), (10, .c), (11, .c), (12, .c), (17, .c), (18, .c), (19, .c), (20, .t)] mixed (fun x hx => by cases hx) (by kernel_rfl) (fun x hx => by cases hx) (fun r hr => hr) (w_q rfl (fun h' L' hh hR => (ov_index_arr (sz := 18) (q := 0) 0 Try.underlying40 Try.sizeOf39 rfl rfl rfl (by decide)).cv (show _ = vP b1 0 from congrArg (vP b1) (by rfl))) rfl (w_q rfl (fun h' L' hh hR => (ov_index_arr (sz := 6) (q := 0) 0 Try.underlying39 Try.sizeOf29 rfl rfl rfl (by decide)).cv (show _ = vP b1 0 from congrArg (vP b1) (by rfl))) rfl (w_qx (F := fun v_ => (rpP (rpQ k) (rpQ k)).Is h0 v_ m.x.x) rfl (ox_load_box ty29 (Pc.tx (Pc.tx (Pc.here _))) rfl rfl rb1 rfl) (mem1 (.tail _ (.head _))) rfl ?_)))
 intro v7 r7
 refine w_q rfl (fun h' L' hh hR => ov_move rfl) rfl (w_q rfl (fun h' L' hh hR => (ov_index_arr (sz := 18) (q := 0) 0 Try.underlying40 Try.sizeOf39 rfl rfl rfl (by decide)).cv (show _ = vP b1 0 from congrArg (vP b1) (by rfl))) rfl (w_q rfl (fun h' L' hh hR => (ov_index_arr (sz := 6) (q := 1) 1 Try.underlying39 Try.sizeOf29 rfl rfl rfl (by decide)).cv (show _ = vP b1 6 from congrArg (vP b1) (by rfl))) rfl (w_qx (F := fun v_ => (rpP (rpQ k) (rpQ k)).Is h0 v_ m.x.y) rfl (ox_load_box ty29 (Pc.tx (Pc.ty (Pc.here _))) rfl rfl rb1 rfl) (mem1 (.tail _ (.head _))) rfl ?_)))
 intro v13 r13
 refine w_q rfl (fun h' L' hh hR => ov_move rfl) rfl (w_q rfl (fun h' L' hh hR => (ov_index_arr (sz := 18) (q := 0) 0 Try.underlying40 Try.sizeOf39 rfl rfl rfl (by decide)).cv (show _ = vP b1 0 from congrArg (vP b1) (by rfl))) rfl (w_q rfl (fun h' L' hh hR => (ov_index_arr (sz := 6) (q := 2) 2 Try.underlying39 Try.sizeOf29 rfl rfl rfl (by decide)).cv (show _ = vP b1 12 from congrArg (vP b1) (by rfl))) rfl (w_qx (F := fun v_ => (rpP (rpQ k) (rpQ k)).Is h0 v_ m.x.z) rfl (ox_load_box ty29 (Pc.tx (Pc.tz (Pc.here _))) rfl rfl rb1 rfl) (mem1 (.tail _ (.head _))) rfl ?_)))
 intro v20 r20
 refine w_q rfl (fun h' L' hh hR => ov_move rfl) rfl ?_
 refine w_c rfl (s_enter_keep (A := [_]) (enters_v (vs := [vI (1), vI (2)]) Try.call56 rfl ⟨rfl, rfl, trivial⟩) (fun X w hs => o_span_minor (by decide) (by decide) (by decide) (by decide) rb1 (by omega) (by omega) (by omega) (by omega) (by omega) hs) rfl ?_)
 intro v9 h1 hh1 r9
 change (rpP (rpQ (4 * k + 5)) (rpQ (4 * k + 5))).Is h1 v9 (minorS m (1 : Int).toNat (2 : Int).toNat) at r9
 replace r9 := Rp.Is.cast (y := minorS m 1 2) r9 (by rfl)
 refine w_c rfl ?_
 replace r7 := r7.mono hh1
 refine s_call (vs := [_, _]) Try.call30 ⟨rfl, rfl, trivial⟩ (fun w hs => o_span_mul hs r7 r9 (by omega)) rfl ?_
 intro v10 h2 hh2 r10
 change (rpP (rpQ (k + (4 * k + 5))) (rpQ (k + (4 * k + 5)))).Is h2 v10 (mulS m.x.x (minorS m 1 2)) at r10
 replace r10 := Rp.Is.le r10 (Le.p (Le.q (l := 5 * k + 5) (by omega)) (Le.q (l := 5 * k + 5) (by omega)))
 refine w_c rfl ?_
 replace rb1 := rb1.mono (hh1.trans hh2)
 refine s_enter_keep (A := [_]) (enters_v (vs := [vI (0), vI (2)]) Try.call56 rfl ⟨rfl, rfl, trivial⟩) (fun X w hs => o_span_minor (by decide) (by decide) (by decide) (by decide) rb1 (by omega) (by omega) (by omega) (by omega) (by omega) hs) rfl ?_
 intro v15 h3 hh3 r15
 change (rpP (rpQ (4 * k + 5)) (rpQ (4 * k + 5))).Is h3 v15 (minorS m (0 : Int).toNat (2 : Int).toNat) at r15
 replace r15 := Rp.Is.cast (y := minorS m 0 2) r15 (by rfl)
 refine w_c rfl ?_
 replace r13 := r13.mono ((hh1.trans hh2).trans hh3)
 refine s_call (vs := [_, _]) Try.call30 ⟨rfl, rfl, trivial⟩ (fun w hs => o_span_mul hs r13 r15 (by omega)) rfl ?_
 intro v16 h4 hh4 r16
 change (rpP (rpQ (k + (4 * k + 5))) (rpQ (k + (4 * k + 5)))).Is h4 v16 (mulS m.x.y (minorS m 0 2)) at r16
 replace r16 := Rp.Is.le r16 (Le.p (Le.q (l := 5 * k + 5) (by omega)) (Le.q (l := 5 * k + 5) (by omega)))
 refine w_c rfl ?_
 replace r10 := r10.mono (hh3.trans hh4)
 refine s_call (vs := [_, _]) Try.call57 ⟨rfl, rfl, trivial⟩ (fun w hs => o_span_sub hs r10 r16 (by omega)) rfl ?_
 intro v17 h5 hh5 r17
 change (rpP (rpQ ((5 * k + 5) + (5 * k + 5) + 1)) (rpQ ((5 * k + 5) + (5 * k + 5) + 1))).Is h5 v17 (subS (mulS m.x.x (minorS m 1 2)) (mulS m.x.y (minorS m 0 2))) at r17
 replace r17 := Rp.Is.le r17 (Le.p (Le.q (l := 10 * k + 11) (by omega)) (Le.q (l := 10 * k + 11) (by omega)))
 refine w_c rfl ?_
 replace rb1 := rb1.mono ((hh3.trans hh4).trans hh5)
 refine s_enter_keep (A := [_]) (enters_v (vs := [vI (0), vI (1)]) Try.call56 rfl ⟨rfl, rfl, trivial⟩) (fun X w hs => o_span_minor (by decide) (by decide) (by decide) (by decide) rb1 (by omega) (by omega) (by omega) (by omega) (by omega) hs) rfl ?_
 intro v22 h6 hh6 r22
 change (rpP (rpQ (4 * k + 5)) (rpQ (4 * k + 5))).Is h6 v22 (minorS m (0 : Int).toNat (1 : Int).toNat) at r22
 replace r22 := Rp.Is.cast (y := minorS m 0 1) r22 (by rfl)
 refine w_c rfl ?_
 replace r20 := r20.mono (((((hh1.trans hh2).trans hh3).trans hh4).trans hh5).trans hh6)
 refine s_call (vs := [_, _]) Try.call30 ⟨rfl, rfl, trivial⟩ (fun w hs => o_span_mul hs r20 r22 (by omega)) rfl ?_
 intro v23 h7 hh7 r23
 change (rpP (rpQ (k + (4 * k + 5))) (rpQ (k + (4 * k + 5)))).Is h7 v23 (mulS m.x.z (minorS m 0 1)) at r23
 replace r23 := Rp.Is.le r23 (Le.p (Le.q (l := 5 * k + 5) (by omega)) (Le.q (l := 5 * k + 5) (by omega)))
 refine w_c rfl ?_
 replace r17 := r17.mono (hh6.trans hh7)
 refine s_call (vs := [_, _]) Try.call29 ⟨rfl, rfl, trivial⟩ (fun w hs => o_span_add hs r17 r23 (by omega)) rfl ?_
 intro v24 h8 hh8 r24
 change (rpP (rpQ ((10 * k + 11) + (5 * k + 5) + 1)) (rpQ ((10 * k + 11) + (5 * k + 5) + 1))).Is h8 v24 (addS (subS (mulS m.x.x (minorS m 1 2)) (mulS m.x.y (minorS m 0 2))) (mulS m.x.z (minorS m 0 1))) at r24
 replace r24 := Rp.Is.le r24 (Le.p (Le.q (l := 15 * k + 17) (by omega)) (Le.q (l := 15 * k + 17) (by omega)))
 replace rb2 := rb2.mono (((((((hh1.trans hh2).trans hh3).trans hh4).trans hh5).trans hh6).trans hh7).trans hh8)
 refine w_tx_upd (A := []) (F := fun c_ => (rpP (rpQ (15 * k + 20)) (rpQ (15 * k + 20))).R h8 c_ (addS (subS (mulS m.x.x (minorS m 1 2)) (mulS m.x.y (minorS m 0 2))) (mulS m.x.z (minorS m 0 1)))) rfl (upd_box Try.sizeOf29 (Pc.here _) rfl rfl rfl rb2 (r24.le (Le.p (Le.q (l := 15 * k + 20) (by omega)) (Le.q (l := 15 * k + 20) (by omega)))) rfl) ?_
 intro cs_23 rb_24
 refine w_nil (gq_keep (e' := [(2, _)]) ⟨rfl, trivial⟩ (gq_then (gc_ret (gq_exv (rv_o (t := 2) ty29 (.head _) rfl rb_24) ?_))))
 intro w_25 hvw_25 rr_26
 refine gq_res (fun E S => run_res1 rfl hvw_25 E S) ?_
 exact rr_26

theorem o_law_det {w0 : World} {h0 : Mem}  (hs : MLe h0 (mem w0)) {k : Nat} {vn : Value} {n : (T3 (T3 Rat))} (rn : (rpT (rpT (rpQ k))).Is h0 vn n) (hcd0 : k ≤ 10000000)  :
    Calls Try.prog 23 #[vn] w0 (Ret w0 h0 (fun h r => (rpQ (18 * k + 40)).Is h r (detR n))) := by
 refine calls_begin (n := 45) (e := [(0, vn)]) (vs := [vn]) Try.func23 rfl rfl (Nat.le_of_ble_eq_true rfl) hs ⟨rfl, trivial⟩ (gc_seq (gc_region (gl_newop (new_boxx (ρ := (rpT (rpT (rpQ k)))) rfl rn) rfl rfl rfl ?_)))
 intro v1 q1 hq1
 obtain ⟨b1, cs1, rfl, rfl, rb1⟩ := hq1
 refine gl_newop (new_allocx (ρ := (rpQ (18 * k + 40))) (X := (0 : Rat)) info27 rfl rfl (zr_q (by omega))) rfl rfl rfl ?_
 intro v2 q2 hq2
 obtain ⟨b2, cs2, rfl, rfl, rb2⟩ := hq2
 refine gl_nil (gq_then (gc_seq (gc_region (gl_newop (new_allocx (ρ := (rpQ 1)) (X := (0 : Rat)) info27 rfl rfl (zr_q (by decide))) rfl rfl rfl ?_))))
 intro v3 q3 hq3
 obtain ⟨b3, cs3, rfl, rfl, rb3⟩ := hq3
 refine gl_nil (gq_then (gc_seq (gc_seq (gc_region (asg (v := vI (0)) rfl rfl (gl_nil (gq_then (gc_block (gc_loop1 (gc_seq (gc_seq (gc_region (mv rfl rfl ?_)))))))))))))
 refine gv (OpV.tr (by decide) (ov_lss_i (q := 3) rfl rfl)) rfl (gl_nil (gq_then (gc_cond_t rfl (gc_skip (gq_then (gc_seq (gc_block (gc_seq (gc_region ?_)))))))))
 refine gl_call (vs := [vI (1)]) rfl rfl rfl rfl Try.call32 ⟨rfl, trivial⟩ (fun w hs => o_rref_int hs (by decide) (by decide)) ?_
 intro v12u1 h1 hh1 r12u1
 change (rpQ 2).Is h1 v12u1 ((1 : Int) : Rat) at r12u1
 refine gl_call (vs := [vI (1)]) rfl rfl rfl rfl Try.call32 ⟨rfl, trivial⟩ (fun w hs => o_rref_int hs (by decide) (by decide)) ?_
 intro v13u1 h2 hh2 r13u1
 change (rpQ 2).Is h2 v13u1 ((1 : Int) : Rat) at r13u1
 refine gl_newop (new_allocx (ρ := (rpQ 1)) (X := (0 : Rat)) info27 rfl rfl (zr_q (by decide))) rfl rfl rfl ?_
 intro v5u1 q5u1 hq5u1
 obtain ⟨b5u1, cs5u1, rfl, rfl, rb5u1⟩ := hq5u1
 refine gl_newop (new_allocx (ρ := (rpQ 1)) (X := (0 : Rat)) info27 rfl rfl (zr_q (by decide))) rfl rfl rfl ?_
 intro v6u1 q6u1 hq6u1
 obtain ⟨b6u1, cs6u1, rfl, rfl, rb6u1⟩ := hq6u1
 have rw_27 := (Le.q (l := 2) (by decide)).R rb5u1
 replace r12u1 := r12u1.mono hh2
 refine gl_updx (A := [_]) (F := fun c_ => (rpQ 2).R h2 c_ ((1 : Int) : Rat)) (upd_box Try.sizeOf27 (Pc.here _) rfl rfl rfl rw_27 r12u1 rfl) ?_
 intro cs_28 rb_29
 have rw_30 := (Le.q (l := 2) (by decide)).R rb6u1
 refine gl_updx (A := []) (F := fun c_ => (rpQ 2).R h2 c_ ((1 : Int) : Rat)) (upd_box Try.sizeOf27 (Pc.here _) rfl rfl rfl rw_30 r13u1 rfl) ?_
 intro cs_31 rb_32
 refine gl_nil (gq_then (gc_seq (gc_seq (gc_region (asg (v := vI (0)) rfl rfl (gl_nil (gq_then (gc_block (gc_loop1 (gc_seq (gc_seq (gc_region (mv rfl rfl ?_)))))))))))))
 refine gv (OpV.tr (by decide) (ov_lss_i (q := 3) rfl rfl)) rfl (gl_nil (gq_then (gc_cond_t rfl (gc_skip (gq_then (gc_seq (gc_block (gc_seq ?_))))))))
 refine gc_draw 10 _ [] [(0, .q), (1, .q), (2, .q), (3, .q), (4, .q), (5, .q), (6, .q), (7, .q), (8, .q), (9, .c), (10, .t)] mixed (fun x hx => by cases hx) (by kernel_rfl) (fun x hx => by cases hx) (fun r hr => hr) (w_qx (F := fun v_ => (rpQ 2).Is h2 v_ ((1 : Int) : Rat)) rfl (ox_load_box ty27 (Pc.here _) rfl rfl rb_29 rfl) (mem1 (.tail _ (.head _))) rfl ?_)
 intro v18u2 r18u2
 refine w_q rfl (fun h' L' hh hR => ov_move rfl) rfl (w_q rfl (fun h' L' hh hR => ov_move rfl) rfl (w_q rfl (fun h' L' hh hR => ov_move rfl) rfl (w_q rfl (fun h' L' hh hR => (ov_add_i rfl rfl (by omega) (by omega)).cv (show _ = vI (0) from rfl)) rfl (w_q rfl (fun h' L' hh hR => (ov_rem_i (q := 3) rfl rfl (by omega) (by omega)).cv (show _ = vI (0) from rfl)) rfl (w_q rfl (fun h' L' hh hR => (ov_index_arr (sz := 9) 0 Try.underlying48 Try.sizeOf47 rfl rfl rfl (by decide)).cv (show _ = vP b1 0 from congrArg (vP b1) (by rfl))) rfl (w_q rfl (fun h' L' hh hR => (ov_index_arr (sz := 3) 0 Try.underlying47 Try.sizeOf27 rfl rfl rfl (by decide)).cv (show _ = vP b1 0 from congrArg (vP b1) (by rfl))) rfl ?_))))))
 replace rb1 := rb1.mono (hh1.trans hh2)
 refine w_qx (F := fun v_ => (rpQ k).Is h2 v_ n.x.x) rfl (ox_load_box ty27 (Pc.tx (Pc.tx (Pc.here _))) rfl rfl rb1 rfl) (mem1 (.tail _ (.tail _ (.tail _ (.tail _ (.head _)))))) rfl ?_
 intro v26u2 r26u2
 refine w_c rfl ?_
 refine s_call (vs := [_, _]) Try.call53 ⟨rfl, rfl, trivial⟩ (fun w hs => o_rref_mul hs r18u2 r26u2 (by omega)) rfl ?_
 intro v27u2 h3 hh3 r27u2
 change (rpQ (2 + k)).Is h3 v27u2 (((1 : Int) : Rat) * n.x.x) at r27u2
 replace r27u2 := Rp.Is.le r27u2 (Le.q (l := k + 2) (by omega))
 replace rb_29 := rb_29.mono hh3
 have rw_33 := (Le.q (l := k + 2) (by omega)).R rb_29
 refine w_tx_upd (A := [_]) (F := fun c_ => (rpQ (k + 2)).R h3 c_ (((1 : Int) : Rat) * n.x.x)) rfl (upd_box Try.sizeOf27 (Pc.here _) rfl rfl rfl rw_33 r27u2 rfl) ?_
 intro cs_34 rb_35
 refine w_nil (gq_keep (e' := [(1, _), (2, _), (3, _), (4, _), (5, _), (6, _), (7, _)]) ⟨rfl, rfl, rfl, rfl, rfl, rfl, rfl, trivial⟩ (gq_then ?_))
 refine gc_draw 11 _ [] [(0, .q), (1, .q), (2, .q), (3, .q), (4, .q), (5, .q), (6, .q), (7, .q), (8, .q), (9, .q), (10, .c), (11, .t)] mixed (fun x hx => by cases hx) (by kernel_rfl) (fun x hx => by cases hx) (fun r hr => hr) ?_
 replace rb_32 := rb_32.mono hh3
 refine w_qx (F := fun v_ => (rpQ 2).Is h3 v_ ((1 : Int) : Rat)) rfl (ox_load_box ty27 (Pc.here _) rfl rfl rb_32 rfl) (mem1 (.head _)) rfl ?_
 intro v28u2 r28u2
 refine w_q rfl (fun h' L' hh hR => ov_move rfl) rfl (w_q rfl (fun h' L' hh hR => ov_move rfl) rfl (w_q rfl (fun h' L' hh hR => ov_move rfl) rfl (w_q rfl (fun h' L' hh hR => (ov_mul_i (p := 2) rfl rfl (by omega) (by omega)).cv (show _ = vI (0) from rfl)) rfl (w_q rfl (fun h' L' hh hR => (ov_add_i rfl rfl (by omega) (by omega)).cv (show _ = vI (0) from rfl)) rfl (w_q rfl (fun h' L' hh hR => (ov_rem_i (q := 3) rfl rfl (by omega) (by omega)).cv (show _ = vI (0) from rfl)) rfl (w_q rfl (fun h' L' hh hR => (ov_index_arr (sz := 9) 0 Try.underlying48 Try.sizeOf47 rfl rfl rfl (by decide)).cv (show _ = vP b1 0 from congrArg (vP b1) (by rfl))) rfl (w_q rfl (fun h' L' hh hR => (ov_index_arr (sz := 3) 0 Try.underlying47 Try.sizeOf27 rfl rfl rfl (by decide)).cv (show _ = vP b1 0 from congrArg (vP b1) (by rfl))) rfl ?_)))))))
 replace rb1 := rb1.mono hh3
 refine w_qx (F := fun v_ => (rpQ k).Is h3 v_ n.x.x) rfl (ox_load_box ty27 (Pc.tx (Pc.tx (Pc.here _))) rfl rfl rb1 rfl) (mem1 (.tail _ (.tail _ (.tail _ (.tail _ (.head _)))))) rfl ?_
 intro v37u2 r37u2
 refine w_c rfl ?_
 refine s_call (vs := [_, _]) Try.call53 ⟨rfl, rfl, trivial⟩ (fun w hs => o_rref_mul hs r28u2 r37u2 (by omega)) rfl ?_
 intro v38u2 h4 hh4 r38u2
 change (rpQ (2 + k)).Is h4 v38u2 (((1 : Int) : Rat) * n.x.x) at r38u2
 replace r38u2 := Rp.Is.le r38u2 (Le.q (l := k + 2) (by omega))
 replace rb_32 := rb_32.mono hh4
 have rw_36 := (Le.q (l := k + 2) (by omega)).R rb_32
 refine w_tx_upd (A := []) (F := fun c_ => (rpQ (k + 2)).R h4 c_ (((1 : Int) : Rat) * n.x.x)) rfl (upd_box Try.sizeOf27 (Pc.here _) rfl rfl rfl rw_36 r38u2 rfl) ?_
 intro cs_37 rb_38
 refine w_nil (gq_in (gq_keep (e' := [(1, _), (2, _), (3, _), (4, _), (5, _), (6, _), (7, _)]) ⟨rfl, rfl, rfl, rfl, rfl, rfl, rfl, trivial⟩ (gq_then (gc_region (mv rfl rfl (gv ((ov_add_i (q := 1) rfl rfl (by omega) (by omega)).cv (show _ = vI (1) from rfl)) rfl (asg rfl rfl (gl_nil (gq_loop1 (gc_seq (gc_seq (gc_region (mv rfl rfl ?_)))))))))))))
 refine gv (OpV.tr (by decide) (ov_lss_i (q := 3) rfl rfl)) rfl (gl_nil (gq_then (gc_cond_t rfl (gc_skip (gq_then (gc_seq (gc_block (gc_seq ?_))))))))
 refine gc_draw 10 _ [] [(0, .q), (1, .q), (2, .q), (3, .q), (4, .q), (5, .q), (6, .q), (7, .q), (8, .q), (9, .c), (10, .t)] mixed (fun x hx => by cases hx) (by kernel_rfl) (fun x hx => by cases hx) (fun r hr => hr) ?_
 replace rb_35 := rb_35.mono hh4
 refine w_qx (F := fun v_ => (rpQ (k + 2)).Is h4 v_ (((1 : Int) : Rat) * n.x.x)) rfl (ox_load_box ty27 (Pc.here _) rfl rfl rb_35 rfl) (mem1 (.tail _ (.head _))) rfl ?_
 intro v18u3 r18u3
 refine w_q rfl (fun h' L' hh hR => ov_move rfl) rfl (w_q rfl (fun h' L' hh hR => ov_move rfl) rfl (w_q rfl (fun h' L' hh hR => ov_move rfl) rfl (w_q rfl (fun h' L' hh hR => (ov_add_i rfl rfl (by omega) (by omega)).cv (show _ = vI (1) from rfl)) rfl (w_q rfl (fun h' L' hh hR => (ov_rem_i (q := 3) rfl rfl (by omega) (by omega)).cv (show _ = vI (1) from rfl)) rfl (w_q rfl (fun h' L' hh hR => (ov_index_arr (sz := 9) 1 Try.underlying48 Try.sizeOf47 rfl rfl rfl (by decide)).cv (show _ = vP b1 9 from congrArg (vP b1) (by rfl))) rfl (w_q rfl (fun h' L' hh hR => (ov_index_arr (sz := 3) 1 Try.underlying47 Try.sizeOf27 rfl rfl rfl (by decide)).cv (show _ = vP b1 12 from congrArg (vP b1) (by rfl))) rfl ?_))))))
 replace rb1 := rb1.mono hh4
 refine w_qx (F := fun v_ => (rpQ k).Is h4 v_ n.y.y) rfl (ox_load_box ty27 (Pc.ty (Pc.ty (Pc.here _))) rfl rfl rb1 rfl) (mem1 (.tail _ (.tail _ (.tail _ (.tail _ (.head _)))))) rfl ?_
 intro v26u3 r26u3
 refine w_c rfl ?_
 refine s_call (vs := [_, _]) Try.call53 ⟨rfl, rfl, trivial⟩ (fun w hs => o_rref_mul hs r18u3 r26u3 (by omega)) rfl ?_
 intro v27u3 h5 hh5 r27u3
 change (rpQ ((k + 2) + k)).Is h5 v27u3 ((((1 : Int) : Rat) * n.x.x) * n.y.y) at r27u3
 replace r27u3 := Rp.Is.le r27u3 (Le.q (l := 2 * k + 2) (by omega))
 replace rb_35 := rb_35.mono hh5
 have rw_39 := (Le.q (l := 2 * k + 2) (by omega)).R rb_35
 refine w_tx_upd (A := [_]) (F := fun c_ => (rpQ (2 * k + 2)).R h5 c_ ((((1 : Int) : Rat) * n.x.x) * n.y.y)) rfl (upd_box Try.sizeOf27 (Pc.here _) rfl rfl rfl rw_39 r27u3 rfl) ?_
 intro cs_40 rb_41
 refine w_nil (gq_keep (e' := [(1, _), (2, _), (3, _), (4, _), (5, _), (6, _), (7, _)]) ⟨rfl, rfl, rfl, rfl, rfl, rfl, rfl, trivial⟩ (gq_then ?_))
 refine gc_draw 11 _ [] [(0, .q), (1, .q), (2, .q), (3, .q), (4, .q), (5, .q), (6, .q), (7, .q), (8, .q), (9, .q), (10, .c), (11, .t)] mixed (fun x hx => by cases hx) (by kernel_rfl) (fun x hx => by cases hx) (fun r hr => hr) ?_
 replace rb_38 := rb_38.mono hh5
 refine w_qx (F := fun v_ => (rpQ (k + 2)).Is h5 v_ (((1 : Int) : Rat) * n.x.x)) rfl (ox_load_box ty27 (Pc.here _) rfl rfl rb_38 rfl) (mem1 (.head _)) rfl ?_
 intro v28u3 r28u3
 refine w_q rfl (fun h' L' hh hR => ov_move rfl) rfl (w_q rfl (fun h' L' hh hR => ov_move rfl) rfl (w_q rfl (fun h' L' hh hR => ov_move rfl) rfl (w_q rfl (fun h' L' hh hR => (ov_mul_i (p := 2) rfl rfl (by omega) (by omega)).cv (show _ = vI (2) from rfl)) rfl (w_q rfl (fun h' L' hh hR => (ov_add_i rfl rfl (by omega) (by omega)).cv (show _ = vI (2) from rfl)) rfl (w_q rfl (fun h' L' hh hR => (ov_rem_i (q := 3) rfl rfl (by omega) (by omega)).cv (show _ = vI (2) from rfl)) rfl (w_q rfl (fun h' L' hh hR => (ov_index_arr (sz := 9) 1 Try.underlying48 Try.sizeOf47 rfl rfl rfl (by decide)).cv (show _ = vP b1 9 from congrArg (vP b1) (by rfl))) rfl (w_q rfl (fun h' L' hh hR => (ov_index_arr (sz := 3) 2 Try.underlying47 Try.sizeOf27 rfl rfl rfl (by decide)).cv (show _ = vP b1 15 from congrArg (vP b1) (by rfl))) rfl ?_)))))))
 replace rb1 := rb1.mono hh5
 refine w_qx (F := fun v_ => (rpQ k).Is h5 v_ n.y.z) rfl (ox_load_box ty27 (Pc.ty (Pc.tz (Pc.here _))) rfl rfl rb1 rfl) (mem1 (.tail _ (.tail _ (.tail _ (.tail _ (.head _)))))) rfl ?_
 intro v37u3 r37u3
 refine w_c rfl ?_
 refine s_call (vs := [_, _]) Try.call53 ⟨rfl, rfl, trivial⟩ (fun w hs => o_rref_mul hs r28u3 r37u3 (by omega)) rfl ?_
 intro v38u3 h6 hh6 r38u3
 change (rpQ ((k + 2) + k)).Is h6 v38u3 ((((1 : Int) : Rat) * n.x.x) * n.y.z) at r38u3
 replace r38u3 := Rp.Is.le r38u3 (Le.q (l := 2 * k + 2) (by omega))
 replace rb_38 := rb_38.mono hh6
 have rw_42 := (Le.q (l := 2 * k + 2) (by omega)).R rb_38
 refine w_tx_upd (A := []) (F := fun c_ => (rpQ (2 * k + 2)).R h6 c_ ((((1 : Int) : Rat) * n.x.x) * n.y.z)) rfl (upd_box Try.sizeOf27 (Pc.here _) rfl rfl rfl rw_42 r38u3 rfl) ?_
 intro cs_43 rb_44
 refine w_nil (gq_in (gq_keep (e' := [(1, _), (2, _), (3, _), (4, _), (5, _), (6, _), (7, _)]) ⟨rfl, rfl, rfl, rfl, rfl, rfl, rfl, trivial⟩ (gq_then (gc_region (mv rfl rfl (gv ((ov_add_i (q := 1) rfl rfl (by omega) (by omega)).cv (show _ = vI (2) from rfl)) rfl (asg rfl rfl (gl_nil (gq_loop1 (gc_seq (gc_seq (gc_region (mv rfl rfl ?_)))))))))))))
 refine gv (OpV.tr (by decide) (ov_lss_i (q := 3) rfl rfl)) rfl (gl_nil (gq_then (gc_cond_t rfl (gc_skip (gq_then (gc_seq (gc_block (gc_seq ?_))))))))
 refine gc_draw 10 _ [] [(0, .q), (1, .q), (2, .q), (3, .q), (4, .q), (5, .q), (6, .q), (7, .q), (8, .q), (9, .c), (10, .t)] mixed (fun x hx => by cases hx) (by kernel_rfl) (fun x hx => by cases hx) (fun r hr => hr) ?_
 replace rb_41 := rb_41.mono hh6
 refine w_qx (F := fun v_ => (rpQ (2 * k + 2)).Is h6 v_ ((((1 : Int) : Rat) * n.x.x) * n.y.y)) rfl (ox_load_box ty27 (Pc.here _) rfl rfl rb_41 rfl) (mem1 (.tail _ (.head _))) rfl ?_
 intro v18u4 r18u4
 refine w_q rfl (fun h' L' hh hR => ov_move rfl) rfl (w_q rfl (fun h' L' hh hR => ov_move rfl) rfl (w_q rfl (fun h' L' hh hR => ov_move rfl) rfl (w_q rfl (fun h' L' hh hR => (ov_add_i rfl rfl (by omega) (by omega)).cv (show _ = vI (2) from rfl)) rfl (w_q rfl (fun h' L' hh hR => (ov_rem_i (q := 3) rfl rfl (by omega) (by omega)).cv (show _ = vI (2) from rfl)) rfl (w_q rfl (fun h' L' hh hR => (ov_index_arr (sz := 9) 2 Try.underlying48 Try.sizeOf47 rfl rfl rfl (by decide)).cv (show _ = vP b1 18 from congrArg (vP b1) (by rfl))) rfl (w_q rfl (fun h' L' hh hR => (ov_index_arr (sz := 3) 2 Try.underlying47 Try.sizeOf27 rfl rfl rfl (by decide)).cv (show _ = vP b1 24 from congrArg (vP b1) (by rfl))) rfl ?_))))))
 replace rb1 := rb1.mono hh6
 refine w_qx (F := fun v_ => (rpQ k).Is h6 v_ n.z.z) rfl (ox_load_box ty27 (Pc.tz (Pc.tz (Pc.here _))) rfl rfl rb1 rfl) (mem1 (.tail _ (.tail _ (.tail _ (.tail _ (.head _)))))) rfl ?_
 intro v26u4 r26u4
 refine w_c rfl ?_
 refine s_call (vs := [_, _]) Try.call53 ⟨rfl, rfl, trivial⟩ (fun w hs => o_rref_mul hs r18u4 r26u4 (by omega)) rfl ?_
 intro v27u4 h7 hh7 r27u4
 change (rpQ ((2 * k + 2) + k)).Is h7 v27u4 (((((1 : Int) : Rat) * n.x.x) * n.y.y) * n.z.z) at r27u4
 replace r27u4 := Rp.Is.le r27u4 (Le.q (l := 3 * k + 2) (by omega))
 replace rb_41 := rb_41.mono hh7
 have rw_45 := (Le.q (l := 3 * k + 2) (by omega)).R rb_41
 refine w_tx_upd (A := [_]) (F := fun c_ => (rpQ (3 * k + 2)).R h7 c_ (((((1 : Int) : Rat) * n.x.x) * n.y.y) * n.z.z)) rfl (upd_box Try.sizeOf27 (Pc.here _) rfl rfl rfl rw_45 r27u4 rfl) ?_
 intro cs_46 rb_47
 refine w_nil (gq_keep (e' := [(1, _), (2, _), (3, _), (4, _), (5, _), (6, _), (7, _)]) ⟨rfl, rfl, rfl, rfl, rfl, rfl, rfl, trivial⟩ (gq_then ?_))
 refine gc_draw 11 _ [] [(0, .q), (1, .q), (2, .q), (3, .q), (4, .q), (5, .q), (6, .q), (7, .q), (8, .q), (9, .q), (10, .c), (11, .t)] mixed (fun x hx => by cases hx) (by kernel_rfl) (fun x hx => by cases hx) (fun r hr => hr) ?_
 replace rb_44 := rb_44.mono hh7
 refine w_qx (F := fun v_ => (rpQ (2 * k + 2)).Is h7 v_ ((((1 : Int) : Rat) * n.x.x) * n.y.z)) rfl (ox_load_box ty27 (Pc.here _) rfl rfl rb_44 rfl) (mem1 (.head _)) rfl ?_
 intro v28u4 r28u4
 refine w_q rfl (fun h' L' hh hR => ov_move rfl) rfl (w_q rfl (fun h' L' hh hR => ov_move rfl) rfl (w_q rfl (fun h' L' hh hR => ov_move rfl) rfl (w_q rfl (fun h' L' hh hR => (ov_mul_i (p := 2) rfl rfl (by omega) (by omega)).cv (show _ = vI (4) from rfl)) rfl (w_q rfl (fun h' L' hh hR => (ov_add_i rfl rfl (by omega) (by omega)).cv (show _ = vI (4) from rfl)) rfl (w_q rfl (fun h' L' hh hR => (ov_rem_i (q := 3) rfl rfl (by omega) (by omega)).cv (show _ = vI (1) from rfl)) rfl (w_q rfl (fun h' L' hh hR => (ov_index_arr (sz := 9) 2 Try.underlying48 Try.sizeOf47 rfl rfl rfl (by decide)).cv (show _ = vP b1 18 from congrArg (vP b1) (by rfl))) rfl (w_q rfl (fun h' L' hh hR => (ov_index_arr (sz := 3) 1 Try.underlying47 Try.sizeOf27 rfl rfl rfl (by decide)).cv (show _ = vP b1 21 from congrArg (vP b1) (by rfl))) rfl ?_)))))))
 replace rb1 := rb1.mono hh7
 refine w_qx (F := fun v_ => (rpQ k).Is h7 v_ n.z.y) rfl (ox_load_box ty27 (Pc.tz (Pc.ty (Pc.here _))) rfl rfl rb1 rfl) (mem1 (.tail _ (.tail _ (.tail _ (.tail _ (.head _)))))) rfl ?_
 intro v37u4 r37u4
 refine w_c rfl ?_
 refine s_call (vs := [_, _]) Try.call53 ⟨rfl, rfl, trivial⟩ (fun w hs => o_rref_mul hs r28u4 r37u4 (by omega)) rfl ?_
 intro v38u4 h8 hh8 r38u4
 change (rpQ ((2 * k + 2) + k)).Is h8 v38u4 (((((1 : Int) : Rat) * n.x.x) * n.y.z) * n.z.y) at r38u4
 replace r38u4 := Rp.Is.le r38u4 (Le.q (l := 3 * k + 2) (by omega))
 replace rb_44 := rb_44.mono hh8
 have rw_48 := (Le.q (l := 3 * k + 2) (by omega)).R rb_44
 refine w_tx_upd (A := []) (F := fun c_ => (rpQ (3 * k + 2)).R h8 c_ (((((1 : Int) : Rat) * n.x.x) * n.y.z) * n.z.y)) rfl (upd_box Try.sizeOf27 (Pc.here _) rfl rfl rfl rw_48 r38u4 rfl) ?_
 intro cs_49 rb_50
 refine w_nil (gq_in (gq_keep (e' := [(1, _), (2, _), (3, _), (4, _), (5, _), (6, _), (7, _)]) ⟨rfl, rfl, rfl, rfl, rfl, rfl, rfl, trivial⟩ (gq_then (gc_region (mv rfl rfl (gv ((ov_add_i (q := 1) rfl rfl (by omega) (by omega)).cv (show _ = vI (3) from rfl)) rfl (asg rfl rfl (gl_nil (gq_loop1 (gc_seq (gc_seq (gc_region (mv rfl rfl ?_)))))))))))))
 refine gv (OpV.fa (by decide) (ov_lss_i (q := 3) rfl rfl)) rfl (gl_nil (gq_then (gc_cond_f rfl (gc_exit (gx_then (gx_then (gx_here (gq_then ?_))))))))
 refine gc_draw 5 _ [] [(0, .q), (1, .q), (2, .q), (3, .c), (4, .c), (5, .t)] mixed (fun x hx => by cases hx) (by kernel_rfl) (fun x hx => by cases hx) (fun r hr => hr) ?_
 replace rb3 := rb3.mono (((((((hh1.trans hh2).trans hh3).trans hh4).trans hh5).trans hh6).trans hh7).trans hh8)
 refine w_qx (F := fun v_ => (rpQ 1).Is h8 v_ (0 : Rat)) rfl (ox_load_box ty27 (Pc.here _) rfl rfl rb3 rfl) (mem1 (.tail _ (.tail _ (.head _)))) rfl ?_
 intro v39u5 r39u5
 replace rb_47 := rb_47.mono hh8
 refine w_qx (F := fun v_ => (rpQ (3 * k + 2)).Is h8 v_ (((((1 : Int) : Rat) * n.x.x) * n.y.y) * n.z.z)) rfl (ox_load_box ty27 (Pc.here _) rfl rfl rb_47 rfl) (mem1 (.tail _ (.head _))) rfl ?_
 intro v40u5 r40u5
 refine w_qx (F := fun v_ => (rpQ (3 * k + 2)).Is h8 v_ (((((1 : Int) : Rat) * n.x.x) * n.y.z) * n.z.y)) rfl (ox_load_box ty27 (Pc.here _) rfl rfl rb_50 rfl) (mem1 (.head _)) rfl ?_
 intro v41u5 r41u5
 refine w_c rfl ?_
 refine s_call (vs := [_, _]) Try.call62 ⟨rfl, rfl, trivial⟩ (fun w hs => o_rref_sub hs r40u5 r41u5 (by omega)) rfl ?_
 intro v42u5 h9 hh9 r42u5
 change (rpQ ((3 * k + 2) + (3 * k + 2) + 1)).Is h9 v42u5 ((((((1 : Int) : Rat) * n.x.x) * n.y.y) * n.z.z) - (((((1 : Int) : Rat) * n.x.x) * n.y.z) * n.z.y)) at r42u5
 replace r42u5 := Rp.Is.le r42u5 (Le.q (l := 6 * k + 5) (by omega))
 refine w_c rfl ?_
 replace r39u5 := r39u5.mono hh9
 refine s_call (vs := [_, _]) Try.call54 ⟨rfl, rfl, trivial⟩ (fun w hs => o_rref_add hs r39u5 r42u5 (by omega)) rfl ?_
 intro v43u5 h10 hh10 r43u5
 change (rpQ (1 + (6 * k + 5) + 1)).Is h10 v43u5 ((0 : Rat) + ((((((1 : Int) : Rat) * n.x.x) * n.y.y) * n.z.z) - (((((1 : Int) : Rat) * n.x.x) * n.y.z) * n.z.y))) at r43u5
 replace r43u5 := Rp.Is.le r43u5 (Le.q (l := 6 * k + 7) (by omega))
 replace rb3 := rb3.mono (hh9.trans hh10)
 have rw_51 := (Le.q (l := 6 * k + 7) (by omega)).R rb3
 refine w_tx_upd (A := [_, _]) (F := fun c_ => (rpQ (6 * k + 7)).R h10 c_ ((0 : Rat) + ((((((1 : Int) : Rat) * n.x.x) * n.y.y) * n.z.z) - (((((1 : Int) : Rat) * n.x.x) * n.y.z) * n.z.y)))) rfl (upd_box Try.sizeOf27 (Pc.here _) rfl rfl rfl rw_51 r43u5 rfl) ?_
 intro cs_52 rb_53
 refine w_nil (gq_in (gq_keep (e' := [(1, _), (2, _), (3, _), (4, _)]) ⟨rfl, rfl, rfl, rfl, trivial⟩ (gq_then (gc_region (mv rfl rfl (gv ((ov_add_i (q := 1) rfl rfl (by omega) (by omega)).cv (show _ = vI (1) from rfl)) rfl (asg rfl rfl (gl_nil (gq_loop1 (gc_seq (gc_seq (gc_region (mv rfl rfl ?_)))))))))))))
 refine gv (OpV.tr (by decide) (ov_lss_i (q := 3) rfl rfl)) rfl (gl_nil (gq_then (gc_cond_t rfl (gc_skip (gq_then (gc_seq (gc_block (gc_seq (gc_region ?_)))))))))
 refine gl_call (vs := [vI (1)]) rfl rfl rfl rfl Try.call32 ⟨rfl, trivial⟩ (fun w hs => o_rref_int hs (by decide) (by decide)) ?_
 intro v12u6 h11 hh11 r12u6
 change (rpQ 2).Is h11 v12u6 ((1 : Int) : Rat) at r12u6
 refine gl_call (vs := [vI (1)]) rfl rfl rfl rfl Try.call32 ⟨rfl, trivial⟩ (fun w hs => o_rref_int hs (by decide) (by decide)) ?_
 intro v13u6 h12 hh12 r13u6
 change (rpQ 2).Is h12 v13u6 ((1 : Int) : Rat) at r13u6
 refine gl_newop (new_allocx (ρ := (rpQ 1)) (X := (0 : Rat)) info27 rfl rfl (zr_q (by decide))) rfl rfl rfl ?_
 intro v5u6 q5u6 hq5u6
 obtain ⟨b5u6, cs5u6, rfl, rfl, rb5u6⟩ := hq5u6
 refine gl_newop (new_allocx (ρ := (rpQ 1)) (X := (0 : Rat)) info27 rfl rfl (zr_q (by decide))) rfl rfl rfl ?_
 intro v6u6 q6u6 hq6u6
 obtain ⟨b6u6, cs6u6, rfl, rfl, rb6u6⟩ := hq6u6
 have rw_54 := (Le.q (l := 2) (by decide)).R rb5u6
 replace r12u6 := r12u6.mono hh12
 refine gl_updx (A := [_]) (F := fun c_ => (rpQ 2).R h12 c_ ((1 : Int) : Rat)) (upd_box Try.sizeOf27 (Pc.here _) rfl rfl rfl rw_54 r12u6 rfl) ?_
 intro cs_55 rb_56
 have rw_57 := (Le.q (l := 2) (by decide)).R rb6u6
 refine gl_updx (A := []) (F := fun c_ => (rpQ 2).R h12 c_ ((1 : Int) : Rat)) (upd_box Try.sizeOf27 (Pc.here _) rfl rfl rfl rw_57 r13u6 rfl) ?_
 intro cs_58 rb_59
 refine gl_nil (gq_then (gc_seq (gc_seq (gc_region (asg (v := vI (0)) rfl rfl (gl_nil (gq_then (gc_block (gc_loop1 (gc_seq (gc_seq (gc_region (mv rfl rfl ?_)))))))))))))
 refine gv (OpV.tr (by decide) (ov_lss_i (q := 3) rfl rfl)) rfl (gl_nil (gq_then (gc_cond_t rfl (gc_skip (gq_then (gc_seq (gc_block (gc_seq ?_))))))))
 refine gc_draw 10 _ [] [(0, .q), (1, .q), (2, .q), (3, .q), (4, .q), (5, .q), (6, .q), (7, .q), (8, .q), (9, .c), (10, .t)] mixed (fun x hx => by cases hx) (by kernel_rfl) (fun x hx => by cases hx) (fun r hr => hr) (w_qx (F := fun v_ => (rpQ 2).Is h12 v_ ((1 : Int) : Rat)) rfl (ox_load_box ty27 (Pc.here _) rfl rfl rb_56 rfl) (mem1 (.tail _ (.head _))) rfl ?_)
 intro v18u7 r18u7
 refine w_q rfl (fun h' L' hh hR => ov_move rfl) rfl (w_q rfl (fun h' L' hh hR => ov_move rfl) rfl (w_q rfl (fun h' L' hh hR => ov_move rfl) rfl (w_q rfl (fun h' L' hh hR => (ov_add_i rfl rfl (by omega) (by omega)).cv (show _ = vI (1) from rfl)) rfl (w_q rfl (fun h' L' hh hR => (ov_rem_i (q := 3) rfl rfl (by omega) (by omega)).cv (show _ = vI (1) from rfl)) rfl (w_q rfl (fun h' L' hh hR => (ov_index_arr (sz := 9) 0 Try.underlying48 Try.sizeOf47 rfl rfl rfl (by decide)).cv (show _ = vP b1 0 from congrArg (vP b1) (by rfl))) rfl (w_q rfl (fun h' L' hh hR => (ov_index_arr (sz := 3) 1 Try.underlying47 Try.sizeOf27 rfl rfl rfl (by decide)).cv (show _ = vP b1 3 from congrArg (vP b1) (by rfl))) rfl ?_))))))
 replace rb1 := rb1.mono ((((hh8.trans hh9).trans hh10).trans hh11).trans hh12)
 refine w_qx (F := fun v_ => (rpQ k).Is h12 v_ n.x.y) rfl (ox_load_box ty27 (Pc.tx (Pc.ty (Pc.here _))) rfl rfl rb1 rfl) (mem1 (.tail _ (.tail _ (.tail _ (.tail _ (.tail _ (.tail _ (.head _)))))))) rfl ?_
 intro v26u7 r26u7
 refine w_c rfl ?_
 refine s_call (vs := [_, _]) Try.call53 ⟨rfl, rfl, trivial⟩ (fun w hs => o_rref_mul hs r18u7 r26u7 (by omega)) rfl ?_
 intro v27u7 h13 hh13 r27u7
 change (rpQ (2 + k)).Is h13 v27u7 (((1 : Int) : Rat) * n.x.y) at r27u7
 replace r27u7 := Rp.Is.le r27u7 (Le.q (l := k + 2) (by omega))
 replace rb_56 := rb_56.mono hh13
 have rw_60 := (Le.q (l := k + 2) (by omega)).R rb_56
 refine w_tx_upd (A := [_]) (F := fun c_ => (rpQ (k + 2)).R h13 c_ (((1 : Int) : Rat) * n.x.y)) rfl (upd_box Try.sizeOf27 (Pc.here _) rfl rfl rfl rw_60 r27u7 rfl) ?_
 intro cs_61 rb_62
 refine w_nil (gq_keep (e' := [(1, _), (2, _), (3, _), (4, _), (5, _), (6, _), (7, _)]) ⟨rfl, rfl, rfl, rfl, rfl, rfl, rfl, trivial⟩ (gq_then ?_))
 refine gc_draw 11 _ [] [(0, .q), (1, .q), (2, .q), (3, .q), (4, .q), (5, .q), (6, .q), (7, .q), (8, .q), (9, .q), (10, .c), (11, .t)] mixed (fun x hx => by cases hx) (by kernel_rfl) (fun x hx => by cases hx) (fun r hr => hr) ?_
 replace rb_59 := rb_59.mono hh13
 refine w_qx (F := fun v_ => (rpQ 2).Is h13 v_ ((1 : Int) : Rat)) rfl (ox_load_box ty27 (Pc.here _) rfl rfl rb_59 rfl) (mem1 (.head _)) rfl ?_
 intro v28u7 r28u7
 refine w_q rfl (fun h' L' hh hR => ov_move rfl) rfl (w_q rfl (fun h' L' hh hR => ov_move rfl) rfl (w_q rfl (fun h' L' hh hR => ov_move rfl) rfl (w_q rfl (fun h' L' hh hR => (ov_mul_i (p := 2) rfl rfl (by omega) (by omega)).cv (show _ = vI (0) from rfl)) rfl (w_q rfl (fun h' L' hh hR => (ov_add_i rfl rfl (by omega) (by omega)).cv (show _ = vI (1) from rfl)) rfl (w_q rfl (fun h' L' hh hR => (ov_rem_i (q := 3) rfl rfl (by omega) (by omega)).cv (show _ = vI (1) from rfl)) rfl (w_q rfl (fun h' L' hh hR => (ov_index_arr (sz := 9) 0 Try.underlying48 Try.sizeOf47 rfl rfl rfl (by decide)).cv (show _ = vP b1 0 from congrArg (vP b1) (by rfl))) rfl (w_q rfl (fun h' L' hh hR => (ov_index_arr (sz := 3) 1 Try.underlying47 Try.sizeOf27 rfl rfl rfl (by decide)).cv (show _ = vP b1 3 from congrArg (vP b1) (by rfl))) rfl ?_)))))))
 replace rb1 := rb1.mono hh13
 refine w_qx (F := fun v_ => (rpQ k).Is h13 v_ n.x.y) rfl (ox_load_box ty27 (Pc.tx (Pc.ty (Pc.here _))) rfl rfl rb1 rfl) (mem1 (.tail _ (.tail _ (.tail _ (.tail _ (.tail _ (.tail _ (.head _)))))))) rfl ?_
 intro v37u7 r37u7
 refine w_c rfl ?_
 refine s_call (vs := [_, _]) Try.call53 ⟨rfl, rfl, trivial⟩ (fun w hs => o_rref_mul hs r28u7 r37u7 (by omega)) rfl ?_
 intro v38u7 h14 hh14 r38u7
 change (rpQ (2 + k)).Is h14 v38u7 (((1 : Int) : Rat) * n.x.y) at r38u7
 replace r38u7 := Rp.Is.le r38u7 (Le.q (l := k + 2) (by omega))
 replace rb_59 := rb_59.mono hh14
 have rw_63 := (Le.q (l := k + 2) (by omega)).R rb_59
 refine w_tx_upd (A := []) (F := fun c_ => (rpQ (k + 2)).R h14 c_ (((1 : Int) : Rat) * n.x.y)) rfl (upd_box Try.sizeOf27 (Pc.here _) rfl rfl rfl rw_63 r38u7 rfl) ?_
 intro cs_64 rb_65
 refine w_nil (gq_in (gq_keep (e' := [(1, _), (2, _), (3, _), (4, _), (5, _), (6, _), (7, _)]) ⟨rfl, rfl, rfl, rfl, rfl, rfl, rfl, trivial⟩ (gq_then (gc_region (mv rfl rfl (gv ((ov_add_i (q := 1) rfl rfl (by omega) (by omega)).cv (show _ = vI (1) from rfl)) rfl (asg rfl rfl (gl_nil (gq_loop1 (gc_seq (gc_seq (gc_region (mv rfl rfl ?_)))))))))))))
 refine gv (OpV.tr (by decide) (ov_lss_i (q := 3) rfl rfl)) rfl (gl_nil (gq_then (gc_cond_t rfl (gc_skip (gq_then (gc_seq (gc_block (gc_seq ?_))))))))
 refine gc_draw 10 _ [] [(0, .q), (1, .q), (2, .q), (3, .q), (4, .q), (5, .q), (6, .q), (7, .q), (8, .q), (9, .c), (10, .t)] mixed (fun x hx => by cases hx) (by kernel_rfl) (fun x hx => by cases hx) (fun r hr => hr) ?_
 replace rb_62 := rb_62.mono hh14
 refine w_qx (F := fun v_ => (rpQ (k + 2)).Is h14 v_ (((1 : Int) : Rat) * n.x.y)) rfl (ox_load_box ty27 (Pc.here _) rfl rfl rb_62 rfl) (mem1 (.tail _ (.head _))) rfl ?_
 intro v18u8 r18u8
 refine w_q rfl (fun h' L' hh hR => ov_move rfl) rfl (w_q rfl (fun h' L' hh hR => ov_move rfl) rfl (w_q rfl (fun h' L' hh hR => ov_move rfl) rfl (w_q rfl (fun h' L' hh hR => (ov_add_i rfl rfl (by omega) (by omega)).cv (show _ = vI (2) from rfl)) rfl (w_q rfl (fun h' L' hh hR => (ov_rem_i (q := 3) rfl rfl (by omega) (by omega)).cv (show _ = vI (2) from rfl)) rfl (w_q rfl (fun h' L' hh hR => (ov_index_arr (sz := 9) 1 Try.underlying48 Try.sizeOf47 rfl rfl rfl (by decide)).cv (show _ = vP b1 9 from congrArg (vP b1) (by rfl))) rfl (w_q rfl (fun h' L' hh hR => (ov_index_arr (sz := 3) 2 Try.underlying47 Try.sizeOf27 rfl rfl rfl (by decide)).cv (show _ = vP b1 15 from congrArg (vP b1) (by rfl))) rfl ?_))))))
 replace rb1 := rb1.mono hh14
 refine w_qx (F := fun v_ => (rpQ k).Is h14 v_ n.y.z) rfl (ox_load_box ty27 (Pc.ty (Pc.tz (Pc.here _))) rfl rfl rb1 rfl) (mem1 (.tail _ (.tail _ (.tail _ (.tail _ (.tail _ (.tail _ (.head _)))))))) rfl ?_
 intro v26u8 r26u8
 refine w_c rfl ?_
 refine s_call (vs := [_, _]) Try.call53 ⟨rfl, rfl, trivial⟩ (fun w hs => o_rref_mul hs r18u8 r26u8 (by omega)) rfl ?_
 intro v27u8 h15 hh15 r27u8
 change (rpQ ((k + 2) + k)).Is h15 v27u8 ((((1 : Int) : Rat) * n.x.y) * n.y.z) at r27u8
 replace r27u8 := Rp.Is.le r27u8 (Le.q (l := 2 * k + 2) (by omega))
 replace rb_62 := rb_62.mono hh15
 have rw_66 := (Le.q (l := 2 * k + 2) (by omega)).R rb_62
 refine w_tx_upd (A := [_]) (F := fun c_ => (rpQ (2 * k + 2)).R h15 c_ ((((1 : Int) : Rat) * n.x.y) * n.y.z)) rfl (upd_box Try.sizeOf27 (Pc.here _) rfl rfl rfl rw_66 r27u8 rfl) ?_
 intro cs_67 rb_68
 refine w_nil (gq_keep (e' := [(1, _), (2, _), (3, _), (4, _), (5, _), (6, _), (7, _)]) ⟨rfl, rfl, rfl, rfl, rfl, rfl, rfl, trivial⟩ (gq_then ?_))
 refine gc_draw 11 _ [] [(0, .q), (1, .q), (2, .q), (3, .q), (4, .q), (5, .q), (6, .q), (7, .q), (8, .q), (9, .q), (10, .c), (11, .t)] mixed (fun x hx => by cases hx) (by kernel_rfl) (fun x hx => by cases hx) (fun r hr => hr) ?_
 replace rb_65 := rb_65.mono hh15
 refine w_qx (F := fun v_ => (rpQ (k + 2)).Is h15 v_ (((1 : Int) : Rat) * n.x.y)) rfl (ox_load_box ty27 (Pc.here _) rfl rfl rb_65 rfl) (mem1 (.head _)) rfl ?_
 intro v28u8 r28u8
 refine w_q rfl (fun h' L' hh hR => ov_move rfl) rfl (w_q rfl (fun h' L' hh hR => ov_move rfl) rfl (w_q rfl (fun h' L' hh hR => ov_move rfl) rfl (w_q rfl (fun h' L' hh hR => (ov_mul_i (p := 2) rfl rfl (by omega) (by omega)).cv (show _ = vI (2) from rfl)) rfl (w_q rfl (fun h' L' hh hR => (ov_add_i rfl rfl (by omega) (by omega)).cv (show _ = vI (3) from rfl)) rfl (w_q rfl (fun h' L' hh hR => (ov_rem_i (q := 3) rfl rfl (by omega) (by omega)).cv (show _ = vI (0) from rfl)) rfl (w_q rfl (fun h' L' hh hR => (ov_index_arr (sz := 9) 1 Try.underlying48 Try.sizeOf47 rfl rfl rfl (by decide)).cv (show _ = vP b1 9 from congrArg (vP b1) (by rfl))) rfl (w_q rfl (fun h' L' hh hR => (ov_index_arr (sz := 3) 0 Try.underlying47 Try.sizeOf27 rfl rfl rfl (by decide)).cv (show _ = vP b1 9 from congrArg (vP b1) (by rfl))) rfl ?_)))))))
 replace rb1 := rb1.mono hh15
 refine w_qx (F := fun v_ => (rpQ k).Is h15 v_ n.y.x) rfl (ox_load_box ty27 (Pc.ty (Pc.tx (Pc.here _))) rfl rfl rb1 rfl) (mem1 (.tail _ (.tail _ (.tail _ (.tail _ (.tail _ (.tail _ (.head _)))))))) rfl ?_
 intro v37u8 r37u8
 refine w_c rfl ?_
 refine s_call (vs := [_, _]) Try.call53 ⟨rfl, rfl, trivial⟩ (fun w hs => o_rref_mul hs r28u8 r37u8 (by omega)) rfl ?_
 intro v38u8 h16 hh16 r38u8
 change (rpQ ((k + 2) + k)).Is h16 v38u8 ((((1 : Int) : Rat) * n.x.y) * n.y.x) at r38u8
 replace r38u8 := Rp.Is.le r38u8 (Le.q (l := 2 * k + 2) (by omega))
 replace rb_65 := rb_65.mono hh16
 have rw_69 := (Le.q (l := 2 * k + 2) (by omega)).R rb_65
 refine w_tx_upd (A := []) (F := fun c_ => (rpQ (2 * k + 2)).R h16 c_ ((((1 : Int) : Rat) * n.x.y) * n.y.x)) rfl (upd_box Try.sizeOf27 (Pc.here _) rfl rfl rfl rw_69 r38u8 rfl) ?_
 intro cs_70 rb_71
 refine w_nil (gq_in (gq_keep (e' := [(1, _), (2, _), (3, _), (4, _), (5, _), (6, _), (7, _)]) ⟨rfl, rfl, rfl, rfl, rfl, rfl, rfl, trivial⟩ (gq_then (gc_region (mv rfl rfl (gv ((ov_add_i (q := 1) rfl rfl (by omega) (by omega)).cv (show _ = vI (2) from rfl)) rfl (asg rfl rfl (gl_nil (gq_loop1 (gc_seq (gc_seq (gc_region (mv rfl rfl ?_)))))))))))))
 refine gv (OpV.tr (by decide) (ov_lss_i (q := 3) rfl rfl)) rfl (gl_nil (gq_then (gc_cond_t rfl (gc_skip (gq_then (gc_seq (gc_block (gc_seq ?_))))))))
 refine gc_draw 10 _ [] [(0, .q), (1, .q), (2, .q), (3, .q), (4, .q), (5, .q), (6, .q), (7, .q), (8, .q), (9, .c), (10, .t)] mixed (fun x hx => by cases hx) (by kernel_rfl) (fun x hx => by cases hx) (fun r hr => hr) ?_
 replace rb_68 := rb_68.mono hh16
 refine w_qx (F := fun v_ => (rpQ (2 * k + 2)).Is h16 v_ ((((1 : Int) : Rat) * n.x.y) * n.y.z)) rfl (ox_load_box ty27 (Pc.here _) rfl rfl rb_68 rfl) (mem1 (.tail _ (.head _))) rfl ?_
 intro v18u9 r18u9
 refine w_q rfl (fun h' L' hh hR => ov_move rfl) rfl (w_q rfl (fun h' L' hh hR => ov_move rfl) rfl (w_q rfl (fun h' L' hh hR => ov_move rfl) rfl (w_q rfl (fun h' L' hh hR => (ov_add_i rfl rfl (by omega) (by omega)).cv (show _ = vI (3) from rfl)) rfl (w_q rfl (fun h' L' hh hR => (ov_rem_i (q := 3) rfl rfl (by omega) (by omega)).cv (show _ = vI (0) from rfl)) rfl (w_q rfl (fun h' L' hh hR => (ov_index_arr (sz := 9) 2 Try.underlying48 Try.sizeOf47 rfl rfl rfl (by decide)).cv (show _ = vP b1 18 from congrArg (vP b1) (by rfl))) rfl (w_q rfl (fun h' L' hh hR => (ov_index_arr (sz := 3) 0 Try.underlying47 Try.sizeOf27 rfl rfl rfl (by decide)).cv (show _ = vP b1 18 from congrArg (vP b1) (by rfl))) rfl ?_))))))
 replace rb1 := rb1.mono hh16
 refine w_qx (F := fun v_ => (rpQ k).Is h16 v_ n.z.x) rfl (ox_load_box ty27 (Pc.tz (Pc.tx (Pc.here _))) rfl rfl rb1 rfl) (mem1 (.tail _ (.tail _ (.tail _ (.tail _ (.tail _ (.tail _ (.head _)))))))) rfl ?_
 intro v26u9 r26u9
 refine w_c rfl ?_
 refine s_call (vs := [_, _]) Try.call53 ⟨rfl, rfl, trivial⟩ (fun w hs => o_rref_mul hs r18u9 r26u9 (by omega)) rfl ?_
 intro v27u9 h17 hh17 r27u9
 change (rpQ ((2 * k + 2) + k)).Is h17 v27u9 (((((1 : Int) : Rat) * n.x.y) * n.y.z) * n.z.x) at r27u9
 replace r27u9 := Rp.Is.le r27u9 (Le.q (l := 3 * k + 2) (by omega))
 replace rb_68 := rb_68.mono hh17
 have rw_72 := (Le.q (l := 3 * k + 2) (by omega)).R rb_68
 refine w_tx_upd (A := [_]) (F := fun c_ => (rpQ (3 * k + 2)).R h17 c_ (((((1 : Int) : Rat) * n.x.y) * n.y.z) * n.z.x)) rfl (upd_box Try.sizeOf27 (Pc.here _) rfl rfl rfl rw_72 r27u9 rfl) ?_
 intro cs_73 rb_74
 refine w_nil (gq_keep (e' := [(1, _), (2, _), (3, _), (4, _), (5, _), (6, _), (7, _)]) ⟨rfl, rfl, rfl, rfl, rfl, rfl, rfl, trivial⟩ (gq_then ?_))
 refine gc_draw 11 _ [] [(0, .q), (1, .q), (2, .q), (3, .q), (4, .q), (5, .q), (6, .q), (7, .q), (8, .q), (9, .q), (10, .c), (11, .t)] mixed (fun x hx => by cases hx) (by kernel_rfl) (fun x hx => by cases hx) (fun r hr => hr) ?_
 replace rb_71 := rb_71.mono hh17
 refine w_qx (F := fun v_ => (rpQ (2 * k + 2)).Is h17 v_ ((((1 : Int) : Rat) * n.x.y) * n.y.x)) rfl (ox_load_box ty27 (Pc.here _) rfl rfl rb_71 rfl) (mem1 (.head _)) rfl ?_
 intro v28u9 r28u9
 refine w_q rfl (fun h' L' hh hR => ov_move rfl) rfl (w_q rfl (fun h' L' hh hR => ov_move rfl) rfl (w_q rfl (fun h' L' hh hR => ov_move rfl) rfl (w_q rfl (fun h' L' hh hR => (ov_mul_i (p := 2) rfl rfl (by omega) (by omega)).cv (show _ = vI (4) from rfl)) rfl (w_q rfl (fun h' L' hh hR => (ov_add_i rfl rfl (by omega) (by omega)).cv (show _ = vI (5) from rfl)) rfl (w_q rfl (fun h' L' hh hR => (ov_rem_i (q := 3) rfl rfl (by omega) (by omega)).cv (show _ = vI (2) from rfl)) rfl (w_q rfl (fun h' L' hh hR => (ov_index_arr (sz := 9) 2 Try.underlying48 Try.sizeOf47 rfl rfl rfl (by decide)).cv (show _ = vP b1 18 from congrArg (vP b1) (by rfl))) rfl (w_q rfl (fun h' L' hh hR => (ov_index_arr (sz := 3) 2 Try.underlying47 Try.sizeOf27 rfl rfl rfl (by decide)).cv (show _ = vP b1 24 from congrArg (vP b1) (by rfl))) rfl ?_)))))))
 replace rb1 := rb1.mono hh17
 refine w_qx (F := fun v_ => (rpQ k).Is h17 v_ n.z.z) rfl (ox_load_box ty27 (Pc.tz (Pc.tz (Pc.here _))) rfl rfl rb1 rfl) (mem1 (.tail _ (.tail _ (.tail _ (.tail _ (.tail _ (.tail _ (.head _)))))))) rfl ?_
 intro v37u9 r37u9
 refine w_c rfl ?_
 refine s_call (vs := [_, _]) Try.call53 ⟨rfl, rfl, trivial⟩ (fun w hs => o_rref_mul hs r28u9 r37u9 (by omega)) rfl ?_
 intro v38u9 h18 hh18 r38u9
 change (rpQ ((2 * k + 2) + k)).Is h18 v38u9 (((((1 : Int) : Rat) * n.x.y) * n.y.x) * n.z.z) at r38u9
 replace r38u9 := Rp.Is.le r38u9 (Le.q (l := 3 * k + 2) (by omega))
 replace rb_71 := rb_71.mono hh18
 have rw_75 := (Le.q (l := 3 * k + 2) (by omega)).R rb_71
 refine w_tx_upd (A := []) (F := fun c_ => (rpQ (3 * k + 2)).R h18 c_ (((((1 : Int) : Rat) * n.x.y) * n.y.x) * n.z.z)) rfl (upd_box Try.sizeOf27 (Pc.here _) rfl rfl rfl rw_75 r38u9 rfl) ?_
 intro cs_76 rb_77
 refine w_nil (gq_in (gq_keep (e' := [(1, _), (2, _), (3, _), (4, _), (5, _), (6, _), (7, _)]) ⟨rfl, rfl, rfl, rfl, rfl, rfl, rfl, trivial⟩ (gq_then (gc_region (mv rfl rfl (gv ((ov_add_i (q := 1) rfl rfl (by omega) (by omega)).cv (show _ = vI (3) from rfl)) rfl (asg rfl rfl (gl_nil (gq_loop1 (gc_seq (gc_seq (gc_region (mv rfl rfl ?_)))))))))))))
 refine gv (OpV.fa (by decide) (ov_lss_i (q := 3) rfl rfl)) rfl (gl_nil (gq_then (gc_cond_f rfl (gc_exit (gx_then (gx_then (gx_here (gq_then ?_))))))))
 refine gc_draw 5 _ [] [(0, .q), (1, .q), (2, .q), (3, .c), (4, .c), (5, .t)] mixed (fun x hx => by cases hx) (by kernel_rfl) (fun x hx => by cases hx) (fun r hr => hr) ?_
 replace rb_53 := rb_53.mono (((((((hh11.trans hh12).trans hh13).trans hh14).trans hh15).trans hh16).trans hh17).trans hh18)
 refine w_qx (F := fun v_ => (rpQ (6 * k + 7)).Is h18 v_ ((0 : Rat) + ((((((1 : Int) : Rat) * n.x.x) * n.y.y) * n.z.z) - (((((1 : Int) : Rat) * n.x.x) * n.y.z) * n.z.y)))) rfl (ox_load_box ty27 (Pc.here _) rfl rfl rb_53 rfl) (mem1 (.tail _ (.tail _ (.tail _ (.tail _ (.head _)))))) rfl ?_
 intro v39u10 r39u10
 replace rb_74 := rb_74.mono hh18
 refine w_qx (F := fun v_ => (rpQ (3 * k + 2)).Is h18 v_ (((((1 : Int) : Rat) * n.x.y) * n.y.z) * n.z.x)) rfl (ox_load_box ty27 (Pc.here _) rfl rfl rb_74 rfl) (mem1 (.tail _ (.head _))) rfl ?_
 intro v40u10 r40u10
 refine w_qx (F := fun v_ => (rpQ (3 * k + 2)).Is h18 v_ (((((1 : Int) : Rat) * n.x.y) * n.y.x) * n.z.z)) rfl (ox_load_box ty27 (Pc.here _) rfl rfl rb_77 rfl) (mem1 (.head _)) rfl ?_
 intro v41u10 r41u10
 refine w_c rfl ?_
 refine s_call (vs := [_, _]) Try.call62 ⟨rfl, rfl, trivial⟩ (fun w hs => o_rref_sub hs r40u10 r41u10 (by omega)) rfl ?_
 intro v42u10 h19 hh19 r42u10
 change (rpQ ((3 * k + 2) + (3 * k + 2) + 1)).Is h19 v42u10 ((((((1 : Int) : Rat) * n.x.y) * n.y.z) * n.z.x) - (((((1 : Int) : Rat) * n.x.y) * n.y.x) * n.z.z)) at r42u10
 replace r42u10 := Rp.Is.le r42u10 (Le.q (l := 6 * k + 5) (by omega))
 refine w_c rfl ?_
 replace r39u10 := r39u10.mono hh19
 refine s_call (vs := [_, _]) Try.call54 ⟨rfl, rfl, trivial⟩ (fun w hs => o_rref_add hs r39u10 r42u10 (by omega)) rfl ?_
 intro v43u10 h20 hh20 r43u10
 change (rpQ ((6 * k + 7) + (6 * k + 5) + 1)).Is h20 v43u10 (((0 : Rat) + ((((((1 : Int) : Rat) * n.x.x) * n.y.y) * n.z.z) - (((((1 : Int) : Rat) * n.x.x) * n.y.z) * n.z.y))) + ((((((1 : Int) : Rat) * n.x.y) * n.y.z) * n.z.x) - (((((1 : Int) : Rat) * n.x.y) * n.y.x) * n.z.z))) at r43u10
 replace r43u10 := Rp.Is.le r43u10 (Le.q (l := 12 * k + 13) (by omega))
 replace rb_53 := rb_53.mono (hh19.trans hh20)
 have rw_78 := (Le.q (l := 12 * k + 13) (by omega)).R rb_53
 refine w_tx_upd (A := [_, _, _, _]) (F := fun c_ => (rpQ (12 * k + 13)).R h20 c_ (((0 : Rat) + ((((((1 : Int) : Rat) * n.x.x) * n.y.y) * n.z.z) - (((((1 : Int) : Rat) * n.x.x) * n.y.z) * n.z.y))) + ((((((1 : Int) : Rat) * n.x.y) * n.y.z) * n.z.x) - (((((1 : Int) : Rat) * n.x.y) * n.y.x) * n.z.z)))) rfl (upd_box Try.sizeOf27 (Pc.here _) rfl rfl rfl rw_78 r43u10 rfl) ?_
 intro cs_79 rb_80
 refine w_nil (gq_in (gq_keep (e' := [(1, _), (2, _), (3, _), (4, _)]) ⟨rfl, rfl, rfl, rfl, trivial⟩ (gq_then (gc_region (mv rfl rfl (gv ((ov_add_i (q := 1) rfl rfl (by omega) (by omega)).cv (show _ = vI (2) from rfl)) rfl (asg rfl rfl (gl_nil (gq_loop1 (gc_seq (gc_seq (gc_region (mv rfl rfl ?_)))))))))))))
 refine gv (OpV.tr (by decide) (ov_lss_i (q := 3) rfl rfl)) rfl (gl_nil (gq_then (gc_cond_t rfl (gc_skip (gq_then (gc_seq (gc_block (gc_seq (gc_region ?_)))))))))
 refine gl_call (vs := [vI (1)]) rfl rfl rfl rfl Try.call32 ⟨rfl, trivial⟩ (fun w hs => o_rref_int hs (by decide) (by decide)) ?_
 intro v12u11 h21 hh21 r12u11
 change (rpQ 2).Is h21 v12u11 ((1 : Int) : Rat) at r12u11
 refine gl_call (vs := [vI (1)]) rfl rfl rfl rfl Try.call32 ⟨rfl, trivial⟩ (fun w hs => o_rref_int hs (by decide) (by decide)) ?_
 intro v13u11 h22 hh22 r13u11
 change (rpQ 2).Is h22 v13u11 ((1 : Int) : Rat) at r13u11
 refine gl_newop (new_allocx (ρ := (rpQ 1)) (X := (0 : Rat)) info27 rfl rfl (zr_q (by decide))) rfl rfl rfl ?_
 intro v5u11 q5u11 hq5u11
 obtain ⟨b5u11, cs5u11, rfl, rfl, rb5u11⟩ := hq5u11
 refine gl_newop (new_allocx (ρ := (rpQ 1)) (X := (0 : Rat)) info27 rfl rfl (zr_q (by decide))) rfl rfl rfl ?_
 intro v6u11 q6u11 hq6u11
 obtain ⟨b6u11, cs6u11, rfl, rfl, rb6u11⟩ := hq6u11
 have rw_81 := (Le.q (l := 2) (by decide)).R rb5u11
 replace r12u11 := r12u11.mono hh22
 refine gl_updx (A := [_]) (F := fun c_ => (rpQ 2).R h22 c_ ((1 : Int) : Rat)) (upd_box Try.sizeOf27 (Pc.here _) rfl rfl rfl rw_81 r12u11 rfl) ?_
 intro cs_82 rb_83
 have rw_84 := (Le.q (l := 2) (by decide)).R rb6u11
 refine gl_updx (A := []) (F := fun c_ => (rpQ 2).R h22 c_ ((1 : Int) : Rat)) (upd_box Try.sizeOf27 (Pc.here _) rfl rfl rfl rw_84 r13u11 rfl) ?_
 intro cs_85 rb_86
 refine gl_nil (gq_then (gc_seq (gc_seq (gc_region (asg (v := vI (0)) rfl rfl (gl_nil (gq_then (gc_block (gc_loop1 (gc_seq (gc_seq (gc_region (mv rfl rfl ?_)))))))))))))
 refine gv (OpV.tr (by decide) (ov_lss_i (q := 3) rfl rfl)) rfl (gl_nil (gq_then (gc_cond_t rfl (gc_skip (gq_then (gc_seq (gc_block (gc_seq ?_))))))))
 refine gc_draw 10 _ [] [(0, .q), (1, .q), (2, .q), (3, .q), (4, .q), (5, .q), (6, .q), (7, .q), (8, .q), (9, .c), (10, .t)] mixed (fun x hx => by cases hx) (by kernel_rfl) (fun x hx => by cases hx) (fun r hr => hr) (w_qx (F := fun v_ => (rpQ 2).Is h22 v_ ((1 : Int) : Rat)) rfl (ox_load_box ty27 (Pc.here _) rfl rfl rb_83 rfl) (mem1 (.tail _ (.head _))) rfl ?_)
 intro v18u12 r18u12
 refine w_q rfl (fun h' L' hh hR => ov_move rfl) rfl (w_q rfl (fun h' L' hh hR => ov_move rfl) rfl (w_q rfl (fun h' L' hh hR => ov_move rfl) rfl (w_q rfl (fun h' L' hh hR => (ov_add_i rfl rfl (by omega) (by omega)).cv (show _ = vI (2) from rfl)) rfl (w_q rfl (fun h' L' hh hR => (ov_rem_i (q := 3) rfl rfl (by omega) (by omega)).cv (show _ = vI (2) from rfl)) rfl (w_q rfl (fun h' L' hh hR => (ov_index_arr (sz := 9) 0 Try.underlying48 Try.sizeOf47 rfl rfl rfl (by decide)).cv (show _ = vP b1 0 from congrArg (vP b1) (by rfl))) rfl (w_q rfl (fun h' L' hh hR => (ov_index_arr (sz := 3) 2 Try.underlying47 Try.sizeOf27 rfl rfl rfl (by decide)).cv (show _ = vP b1 6 from congrArg (vP b1) (by rfl))) rfl ?_))))))
 replace rb1 := rb1.mono ((((hh18.trans hh19).trans hh20).trans hh21).trans hh22)
 refine w_qx (F := fun v_ => (rpQ k).Is h22 v_ n.x.z) rfl (ox_load_box ty27 (Pc.tx (Pc.tz (Pc.here _))) rfl rfl rb1 rfl) (mem1 (.tail _ (.tail _ (.tail _ (.tail _ (.tail _ (.tail _ (.tail _ (.tail _ (.head _)))))))))) rfl ?_
 intro v26u12 r26u12
 refine w_c rfl ?_
 refine s_call (vs := [_, _]) Try.call53 ⟨rfl, rfl, trivial⟩ (fun w hs => o_rref_mul hs r18u12 r26u12 (by omega)) rfl ?_
 intro v27u12 h23 hh23 r27u12
 change (rpQ (2 + k)).Is h23 v27u12 (((1 : Int) : Rat) * n.x.z) at r27u12
 replace r27u12 := Rp.Is.le r27u12 (Le.q (l := k + 2) (by omega))
 replace rb_83 := rb_83.mono hh23
 have rw_87 := (Le.q (l := k + 2) (by omega)).R rb_83
 refine w_tx_upd (A := [_]) (F := fun c_ => (rpQ (k + 2)).R h23 c_ (((1 : Int) : Rat) * n.x.z)) rfl (upd_box Try.sizeOf27 (Pc.here _) rfl rfl rfl rw_87 r27u12 rfl) ?_
 intro cs_88 rb_89
 refine w_nil (gq_keep (e' := [(1, _), (2, _), (3, _), (4, _), (5, _), (6, _), (7, _)]) ⟨rfl, rfl, rfl, rfl, rfl, rfl, rfl, trivial⟩ (gq_then ?_))
 refine gc_draw 11 _ [] [(0, .q), (1, .q), (2, .q), (3, .q), (4, .q), (5, .q), (6, .q), (7, .q), (8, .q), (9, .q), (10, .c), (11, .t)] mixed (fun x hx => by cases hx) (by kernel_rfl) (fun x hx => by cases hx) (fun r hr => hr) ?_
 replace rb_86 := rb_86.mono hh23
 refine w_qx (F := fun v_ => (rpQ 2).Is h23 v_ ((1 : Int) : Rat)) rfl (ox_load_box ty27 (Pc.here _) rfl rfl rb_86 rfl) (mem1 (.head _)) rfl ?_
 intro v28u12 r28u12
 refine w_q rfl (fun h' L' hh hR => ov_move rfl) rfl (w_q rfl (fun h' L' hh hR => ov_move rfl) rfl (w_q rfl (fun h' L' hh hR => ov_move rfl) rfl (w_q rfl (fun h' L' hh hR => (ov_mul_i (p := 2) rfl rfl (by omega) (by omega)).cv (show _ = vI (0) from rfl)) rfl (w_q rfl (fun h' L' hh hR => (ov_add_i rfl rfl (by omega) (by omega)).cv (show _ = vI (2) from rfl)) rfl (w_q rfl (fun h' L' hh hR => (ov_rem_i (q := 3) rfl rfl (by omega) (by omega)).cv (show _ = vI (2) from rfl)) rfl (w_q rfl (fun h' L' hh hR => (ov_index_arr (sz := 9) 0 Try.underlying48 Try.sizeOf47 rfl rfl rfl (by decide)).cv (show _ = vP b1 0 from congrArg (vP b1) (by rfl))) rfl (w_q rfl (fun h' L' hh hR => (ov_index_arr (sz := 3) 2 Try.underlying47 Try.sizeOf27 rfl rfl rfl (by decide)).cv (show _ = vP b1 6 from congrArg (vP b1) (by rfl))) rfl ?_)))))))
 replace rb1 := rb1.mono hh23
 refine w_qx (F := fun v_ => (rpQ k).Is h23 v_ n.x.z) rfl (ox_load_box ty27 (Pc.tx (Pc.tz (Pc.here _))) rfl rfl rb1 rfl) (mem1 (.tail _ (.tail _ (.tail _ (.tail _ (.tail _ (.tail _ (.tail _ (.tail _ (.head _)))))))))) rfl ?_
 intro v37u12 r37u12
 refine w_c rfl ?_
 refine s_call (vs := [_, _]) Try.call53 ⟨rfl, rfl, trivial⟩ (fun w hs => o_rref_mul hs r28u12 r37u12 (by omega)) rfl ?_
 intro v38u12 h24 hh24 r38u12
 change (rpQ (2 + k)).Is h24 v38u12 (((1 : Int) : Rat) * n.x.z) at r38u12
 replace r38u12 := Rp.Is.le r38u12 (Le.q (l := k + 2) (by omega))
 replace rb_86 := rb_86.mono hh24
 have rw_90 := (Le.q (l := k + 2) (by omega)).R rb_86
 refine w_tx_upd (A := []) (F := fun c_ => (rpQ (k + 2)).R h24 c_ (((1 : Int) : Rat) * n.x.z)) rfl (upd_box Try.sizeOf27 (Pc.here _) rfl rfl rfl rw_90 r38u12 rfl) ?_
 intro cs_91 rb_92
 refine w_nil (gq_in (gq_keep (e' := [(1, _), (2, _), (3, _), (4, _), (5, _), (6, _), (7, _)]) ⟨rfl, rfl, rfl, rfl, rfl, rfl, rfl, trivial⟩ (gq_then (gc_region (mv rfl rfl (gv ((ov_add_i (q := 1) rfl rfl (by omega) (by omega)).cv (show _ = vI (1) from rfl)) rfl (asg rfl rfl (gl_nil (gq_loop1 (gc_seq (gc_seq (gc_region (mv rfl rfl ?_)))))))))))))
 refine gv (OpV.tr (by decide) (ov_lss_i (q := 3) rfl rfl)) rfl (gl_nil (gq_then (gc_cond_t rfl (gc_skip (gq_then (gc_seq (gc_block (gc_seq ?_))))))))
 refine gc_draw 10 _ [] [(0, .q), (1, .q), (2, .q), (3, .q), (4, .q), (5, .q), (6, .q), (7, .q), (8, .q), (9, .c), (10, .t)] mixed (fun x hx => by cases hx) (by kernel_rfl) (fun x hx => by cases hx) (fun r hr => hr) ?_
 replace rb_89 := rb_89.mono hh24
 refine w_qx (F := fun v_ => (rpQ (k + 2)).Is h24 v_ (((1 : Int) : Rat) * n.x.z)) rfl (ox_load_box ty27 (Pc.here _) rfl rfl rb_89 rfl) (mem1 (.tail _ (.head _))) rfl ?_
 intro v18u13 r18u13
 refine w_q rfl (fun h' L' hh hR => ov_move rfl) rfl (w_q rfl (fun h' L' hh hR => ov_move rfl) rfl (w_q rfl (fun h' L' hh hR => ov_move rfl) rfl (w_q rfl (fun h' L' hh hR => (ov_add_i rfl rfl (by omega) (by omega)).cv (show _ = vI (3) from rfl)) rfl (w_q rfl (fun h' L' hh hR => (ov_rem_i (q := 3) rfl rfl (by omega) (by omega)).cv (show _ = vI (0) from rfl)) rfl (w_q rfl (fun h' L' hh hR => (ov_index_arr (sz := 9) 1 Try.underlying48 Try.sizeOf47 rfl rfl rfl (by decide)).cv (show _ = vP b1 9 from congrArg (vP b1) (by rfl))) rfl (w_q rfl (fun h' L' hh hR => (ov_index_arr (sz := 3) 0 Try.underlying47 Try.sizeOf27 rfl rfl rfl (by decide)).cv (show _ = vP b1 9 from congrArg (vP b1) (by rfl))) rfl ?_))))))
 replace rb1 := rb1.mono hh24
 refine w_qx (F := fun v_ => (rpQ k).Is h24 v_ n.y.x) rfl (ox_load_box ty27 (Pc.ty (Pc.tx (Pc.here _))) rfl rfl rb1 rfl) (mem1 (.tail _ (.tail _ (.tail _ (.tail _ (.tail _ (.tail _ (.tail _ (.tail _ (.head _)))))))))) rfl ?_
 intro v26u13 r26u13
 refine w_c rfl ?_
 refine s_call (vs := [_, _]) Try.call53 ⟨rfl, rfl, trivial⟩ (fun w hs => o_rref_mul hs r18u13 r26u13 (by omega)) rfl ?_
 intro v27u13 h25 hh25 r27u13
 change (rpQ ((k + 2) + k)).Is h25 v27u13 ((((1 : Int) : Rat) * n.x.z) * n.y.x) at r27u13
 replace r27u13 := Rp.Is.le r27u13 (Le.q (l := 2 * k + 2) (by omega))
 replace rb_89 := rb_89.mono hh25
 have rw_93 := (Le.q (l := 2 * k + 2) (by omega)).R rb_89
 refine w_tx_upd (A := [_]) (F := fun c_ => (rpQ (2 * k + 2)).R h25 c_ ((((1 : Int) : Rat) * n.x.z) * n.y.x)) rfl (upd_box Try.sizeOf27 (Pc.here _) rfl rfl rfl rw_93 r27u13 rfl) ?_
 intro cs_94 rb_95
 refine w_nil (gq_keep (e' := [(1, _), (2, _), (3, _), (4, _), (5, _), (6, _), (7, _)]) ⟨rfl, rfl, rfl, rfl, rfl, rfl, rfl, trivial⟩ (gq_then ?_))
 refine gc_draw 11 _ [] [(0, .q), (1, .q), (2, .q), (3, .q), (4, .q), (5, .q), (6, .q), (7, .q), (8, .q), (9, .q), (10, .c), (11, .t)] mixed (fun x hx => by cases hx) (by kernel_rfl) (fun x hx => by cases hx) (fun r hr => hr) ?_
 replace rb_92 := rb_92.mono hh25
 refine w_qx (F := fun v_ => (rpQ (k + 2)).Is h25 v_ (((1 : Int) : Rat) * n.x.z)) rfl (ox_load_box ty27 (Pc.here _) rfl rfl rb_92 rfl) (mem1 (.head _)) rfl ?_
 intro v28u13 r28u13
 refine w_q rfl (fun h' L' hh hR => ov_move rfl) rfl (w_q rfl (fun h' L' hh hR => ov_move rfl) rfl (w_q rfl (fun h' L' hh hR => ov_move rfl) rfl (w_q rfl (fun h' L' hh hR => (ov_mul_i (p := 2) rfl rfl (by omega) (by omega)).cv (show _ = vI (2) from rfl)) rfl (w_q rfl (fun h' L' hh hR => (ov_add_i rfl rfl (by omega) (by omega)).cv (show _ = vI (4) from rfl)) rfl (w_q rfl (fun h' L' hh hR => (ov_rem_i (q := 3) rfl rfl (by omega) (by omega)).cv (show _ = vI (1) from rfl)) rfl (w_q rfl (fun h' L' hh hR => (ov_index_arr (sz := 9) 1 Try.underlying48 Try.sizeOf47 rfl rfl rfl (by decide)).cv (show _ = vP b1 9 from congrArg (vP b1) (by rfl))) rfl (w_q rfl (fun h' L' hh hR => (ov_index_arr (sz := 3) 1 Try.underlying47 Try.sizeOf27 rfl rfl rfl (by decide)).cv (show _ = vP b1 12 from congrArg (vP b1) (by rfl))) rfl ?_)))))))
 replace rb1 := rb1.mono hh25
 refine w_qx (F := fun v_ => (rpQ k).Is h25 v_ n.y.y) rfl (ox_load_box ty27 (Pc.ty (Pc.ty (Pc.here _))) rfl rfl rb1 rfl) (mem1 (.tail _ (.tail _ (.tail _ (.tail _ (.tail _ (.tail _ (.tail _ (.tail _ (.head _)))))))))) rfl ?_
 intro v37u13 r37u13
 refine w_c rfl ?_
 refine s_call (vs := [_, _]) Try.call53 ⟨rfl, rfl, trivial⟩ (fun w hs => o_rref_mul hs r28u13 r37u13 (by omega)) rfl ?_
 intro v38u13 h26 hh26 r38u13
 change (rpQ ((k + 2) + k)).Is h26 v38u13 ((((1 : Int) : Rat) * n.x.z) * n.y.y) at r38u13
 replace r38u13 := Rp.Is.le r38u13 (Le.q (l := 2 * k + 2) (by omega))
 replace rb_92 := rb_92.mono hh26
 have rw_96 := (Le.q (l := 2 * k + 2) (by omega)).R rb_92
 refine w_tx_upd (A := []) (F := fun c_ => (rpQ (2 * k + 2)).R h26 c_ ((((1 : Int) : Rat) * n.x.z) * n.y.y)) rfl (upd_box Try.sizeOf27 (Pc.here _) rfl rfl rfl rw_96 r38u13 rfl) ?_
 intro cs_97 rb_98
 refine w_nil (gq_in (gq_keep (e' := [(1, _), (2, _), (3, _), (4, _), (5, _), (6, _), (7, _)]) ⟨rfl, rfl, rfl, rfl, rfl, rfl, rfl, trivial⟩ (gq_then (gc_region (mv rfl rfl (gv ((ov_add_i (q := 1) rfl rfl (by omega) (by omega)).cv (show _ = vI (2) from rfl)) rfl (asg rfl rfl (gl_nil (gq_loop1 (gc_seq (gc_seq (gc_region (mv rfl rfl ?_)))))))))))))
 refine gv (OpV.tr (by decide) (ov_lss_i (q := 3) rfl rfl)) rfl (gl_nil (gq_then (gc_cond_t rfl (gc_skip (gq_then (gc_seq (gc_block (gc_seq ?_))))))))
 refine gc_draw 10 _ [] [(0, .q), (1, .q), (2, .q), (3, .q), (4, .q), (5, .q), (6, .q), (7, .q), (8, .q), (9, .c), (10, .t)] mixed (fun x hx => by cases hx) (by kernel_rfl) (fun x hx => by cases hx) (fun r hr => hr) ?_
 replace rb_95 := rb_95.mono hh26
 refine w_qx (F := fun v_ => (rpQ (2 * k + 2)).Is h26 v_ ((((1 : Int) : Rat) * n.x.z) * n.y.x)) rfl (ox_load_box ty27 (Pc.here _) rfl rfl rb_95 rfl) (mem1 (.tail _ (.head _))) rfl ?_
 intro v18u14 r18u14
 refine w_q rfl (fun h' L' hh hR => ov_move rfl) rfl (w_q rfl (fun h' L' hh hR => ov_move rfl) rfl (w_q rfl (fun h' L' hh hR => ov_move rfl) rfl (w_q rfl (fun h' L' hh hR => (ov_add_i rfl rfl (by omega) (by omega)).cv (show _ = vI (4) from rfl)) rfl (w_q rfl (fun h' L' hh hR => (ov_rem_i (q := 3) rfl rfl (by omega) (by omega)).cv (show _ = vI (1) from rfl)) rfl (w_q rfl (fun h' L' hh hR => (ov_index_arr (sz := 9) 2 Try.underlying48 Try.sizeOf47 rfl rfl rfl (by decide)).cv (show _ = vP b1 18 from congrArg (vP b1) (by rfl))) rfl (w_q rfl (fun h' L' hh hR => (ov_index_arr (sz := 3) 1 Try.underlying47 Try.sizeOf27 rfl rfl rfl (by decide)).cv (show _ = vP b1 21 from congrArg (vP b1) (by rfl))) rfl ?_))))))
 replace rb1 := rb1.mono hh26
 refine w_qx (F := fun v_ => (rpQ k).Is h26 v_ n.z.y) rfl (ox_load_box ty27 (Pc.tz (Pc.ty (Pc.here _))) rfl rfl rb1 rfl) (mem1 (.tail _ (.tail _ (.tail _ (.tail _ (.tail _ (.tail _ (.tail _ (.tail _ (.head _)))))))))) rfl ?_
 intro v26u14 r26u14
 refine w_c rfl ?_
 refine s_call (vs := [_, _]) Try.call53 ⟨rfl, rfl, trivial⟩ (fun w hs => o_rref_mul hs r18u14 r26u14 (by omega)) rfl ?_
 intro v27u14 h27 hh27 r27u14
 change (rpQ ((2 * k + 2) + k)).Is h27 v27u14 (((((1 : Int) : Rat) * n.x.z) * n.y.x) * n.z.y) at r27u14
 replace r27u14 := Rp.Is.le r27u14 (Le.q (l := 3 * k + 2) (by omega))
 replace rb_95 := rb_95.mono hh27
 have rw_99 := (Le.q (l := 3 * k + 2) (by omega)).R rb_95
 refine w_tx_upd (A := [_]) (F := fun c_ => (rpQ (3 * k + 2)).R h27 c_ (((((1 : Int) : Rat) * n.x.z) * n.y.x) * n.z.y)) rfl (upd_box Try.sizeOf27 (Pc.here _) rfl rfl rfl rw_99 r27u14 rfl) ?_
 intro cs_100 rb_101
 refine w_nil (gq_keep (e' := [(1, _), (2, _), (3, _), (4, _), (5, _), (6, _), (7, _)]) ⟨rfl, rfl, rfl, rfl, rfl, rfl, rfl, trivial⟩ (gq_then ?_))
 refine gc_draw 11 _ [] [(0, .q), (1, .q), (2, .q), (3, .q), (4, .q), (5, .q), (6, .q), (7, .q), (8, .q), (9, .q), (10, .c), (11, .t)] mixed (fun x hx => by cases hx) (by kernel_rfl) (fun x hx => by cases hx) (fun r hr => hr) ?_
 replace rb_98 := rb_98.mono hh27
 refine w_qx (F := fun v_ => (rpQ (2 * k + 2)).Is h27 v_ ((((1 : Int) : Rat) * n.x.z) * n.y.y)) rfl (ox_load_box ty27 (Pc.here _) rfl rfl rb_98 rfl) (mem1 (.head _)) rfl ?_
 intro v28u14 r28u14
 refine w_q rfl (fun h' L' hh hR => ov_move rfl) rfl (w_q rfl (fun h' L' hh hR => ov_move rfl) rfl (w_q rfl (fun h' L' hh hR => ov_move rfl) rfl (w_q rfl (fun h' L' hh hR => (ov_mul_i (p := 2) rfl rfl (by omega) (by omega)).cv (show _ = vI (4) from rfl)) rfl (w_q rfl (fun h' L' hh hR => (ov_add_i rfl rfl (by omega) (by omega)).cv (show _ = vI (6) from rfl)) rfl (w_q rfl (fun h' L' hh hR => (ov_rem_i (q := 3) rfl rfl (by omega) (by omega)).cv (show _ = vI (0) from rfl)) rfl (w_q rfl (fun h' L' hh hR => (ov_index_arr (sz := 9) 2 Try.underlying48 Try.sizeOf47 rfl rfl rfl (by decide)).cv (show _ = vP b1 18 from congrArg (vP b1) (by rfl))) rfl (w_q rfl (fun h' L' hh hR => (ov_index_arr (sz := 3) 0 Try.underlying47 Try.sizeOf27 rfl rfl rfl (by decide)).cv (show _ = vP b1 18 from congrArg (vP b1) (by rfl))) rfl ?_)))))))
 replace rb1 := rb1.mono hh27
 refine w_qx (F := fun v_ => (rpQ k).Is h27 v_ n.z.x) rfl (ox_load_box ty27 (Pc.tz (Pc.tx (Pc.here _))) rfl rfl rb1 rfl) (mem1 (.tail _ (.tail _ (.tail _ (.tail _ (.tail _ (.tail _ (.tail _ (.tail _ (.head _)))))))))) rfl ?_
 intro v37u14 r37u14
 refine w_c rfl ?_
 refine s_call (vs := [_, _]) Try.call53 ⟨rfl, rfl, trivial⟩ (fun w hs => o_rref_mul hs r28u14 r37u14 (by omega)) rfl ?_
 intro v38u14 h28 hh28 r38u14
 change (rpQ ((2 * k + 2) + k)).Is h28 v38u14 (((((1 : Int) : Rat) * n.x.z) * n.y.y) * n.z.x) at r38u14
 replace r38u14 := Rp.Is.le r38u14 (Le.q (l := 3 * k + 2) (by omega))
 replace rb_98 := rb_98.mono hh28
 have rw_102 := (Le.q (l := 3 * k + 2) (by omega)).R rb_98
 refine w_tx_upd (A := []) (F := fun c_ => (rpQ (3 * k + 2)).R h28 c_ (((((1 : Int) : Rat) * n.x.z) * n.y.y) * n.z.x)) rfl (upd_box Try.sizeOf27 (Pc.here _) rfl rfl rfl rw_102 r38u14 rfl) ?_
 intro cs_103 rb_104
 refine w_nil (gq_in (gq_keep (e' := [(1, _), (2, _), (3, _), (4, _), (5, _), (6, _), (7, _)]) ⟨rfl, rfl, rfl, rfl, rfl, rfl, rfl, trivial⟩ (gq_then (gc_region (mv rfl rfl (gv ((ov_add_i (q := 1) rfl rfl (by omega) (by omega)).cv (show _ = vI (3) from rfl)) rfl (asg rfl rfl (gl_nil (gq_loop1 (gc_seq (gc_seq (gc_region (mv rfl rfl ?_)))))))))))))
 refine gv (OpV.fa (by decide) (ov_lss_i (q := 3) rfl rfl)) rfl (gl_nil (gq_then (gc_cond_f rfl (gc_exit (gx_then (gx_then (gx_here (gq_then ?_))))))))
 refine gc_draw 5 _ [] [(0, .q), (1, .q), (2, .q), (3, .c), (4, .c), (5, .t)] mixed (fun x hx => by cases hx) (by kernel_rfl) (fun x hx => by cases hx) (fun r hr => hr) ?_
 replace rb_80 := rb_80.mono (((((((hh21.trans hh22).trans hh23).trans hh24).trans hh25).trans hh26).trans hh27).trans hh28)
 refine w_qx (F := fun v_ => (rpQ (12 * k + 13)).Is h28 v_ (((0 : Rat) + ((((((1 : Int) : Rat) * n.x.x) * n.y.y) * n.z.z) - (((((1 : Int) : Rat) * n.x.x) * n.y.z) * n.z.y))) + ((((((1 : Int) : Rat) * n.x.y) * n.y.z) * n.z.x) - (((((1 : Int) : Rat) * n.x.y) * n.y.x) * n.z.z)))) rfl (ox_load_box ty27 (Pc.here _) rfl rfl rb_80 rfl) (mem1 (.tail _ (.tail _ (.tail _ (.tail _ (.tail _ (.tail _ (.head _)))))))) rfl ?_
 intro v39u15 r39u15
 replace rb_101 := rb_101.mono hh28
 refine w_qx (F := fun v_ => (rpQ (3 * k + 2)).Is h28 v_ (((((1 : Int) : Rat) * n.x.z) * n.y.x) * n.z.y)) rfl (ox_load_box ty27 (Pc.here _) rfl rfl rb_101 rfl) (mem1 (.tail _ (.head _))) rfl ?_
 intro v40u15 r40u15
 refine w_qx (F := fun v_ => (rpQ (3 * k + 2)).Is h28 v_ (((((1 : Int) : Rat) * n.x.z) * n.y.y) * n.z.x)) rfl (ox_load_box ty27 (Pc.here _) rfl rfl rb_104 rfl) (mem1 (.head _)) rfl ?_
 intro v41u15 r41u15
 refine w_c rfl ?_
 refine s_call (vs := [_, _]) Try.call62 ⟨rfl, rfl, trivial⟩ (fun w hs => o_rref_sub hs r40u15 r41u15 (by omega)) rfl ?_
 intro v42u15 h29 hh29 r42u15
 change (rpQ ((3 * k + 2) + (3 * k + 2) + 1)).Is h29 v42u15 ((((((1 : Int) : Rat) * n.x.z) * n.y.x) * n.z.y) - (((((1 : Int) : Rat) * n.x.z) * n.y.y) * n.z.x)) at r42u15
 replace r42u15 := Rp.Is.le r42u15 (Le.q (l := 6 * k + 5) (by omega))
 refine w_c rfl ?_
 replace r39u15 := r39u15.mono hh29
 refine s_call (vs := [_, _]) Try.call54 ⟨rfl, rfl, trivial⟩ (fun w hs => o_rref_add hs r39u15 r42u15 (by omega)) rfl ?_
 intro v43u15 h30 hh30 r43u15
 change (rpQ ((12 * k + 13) + (6 * k + 5) + 1)).Is h30 v43u15 ((((0 : Rat) + ((((((1 : Int) : Rat) * n.x.x) * n.y.y) * n.z.z) - (((((1 : Int) : Rat) * n.x.x) * n.y.z) * n.z.y))) + ((((((1 : Int) : Rat) * n.x.y) * n.y.z) * n.z.x) - (((((1 : Int) : Rat) * n.x.y) * n.y.x) * n.z.z))) + ((((((1 : Int) : Rat) * n.x.z) * n.y.x) * n.z.y) - (((((1 : Int) : Rat) * n.x.z) * n.y.y) * n.z.x))) at r43u15
 replace r43u15 := Rp.Is.le r43u15 (Le.q (l := 18 * k + 19) (by omega))
 replace rb_80 := rb_80.mono (hh29.trans hh30)
 have rw_105 := (Le.q (l := 18 * k + 19) (by omega)).R rb_80
 refine w_tx_upd (A := [_, _, _, _, _, _]) (F := fun c_ => (rpQ (18 * k + 19)).R h30 c_ ((((0 : Rat) + ((((((1 : Int) : Rat) * n.x.x) * n.y.y) * n.z.z) - (((((1 : Int) : Rat) * n.x.x) * n.y.z) * n.z.y))) + ((((((1 : Int) : Rat) * n.x.y) * n.y.z) * n.z.x) - (((((1 : Int) : Rat) * n.x.y) * n.y.x) * n.z.z))) + ((((((1 : Int) : Rat) * n.x.z) * n.y.x) * n.z.y) - (((((1 : Int) : Rat) * n.x.z) * n.y.y) * n.z.x)))) rfl (upd_box Try.sizeOf27 (Pc.here _) rfl rfl rfl rw_105 r43u15 rfl) ?_
 intro cs_106 rb_107
 refine w_nil (gq_in (gq_keep (e' := [(1, _), (2, _), (3, _), (4, _)]) ⟨rfl, rfl, rfl, rfl, trivial⟩ (gq_then (gc_region (mv rfl rfl (gv ((ov_add_i (q := 1) rfl rfl (by omega) (by omega)).cv (show _ = vI (3) from rfl)) rfl (asg rfl rfl (gl_nil (gq_loop1 (gc_seq (gc_seq (gc_region (mv rfl rfl ?_)))))))))))))
 refine gv (OpV.fa (by decide) (ov_lss_i (q := 3) rfl rfl)) rfl (gl_nil (gq_then (gc_cond_f rfl (gc_exit (gx_then (gx_then (gx_here (gq_then (gc_seq (gc_region (gl_x (F := fun v_ => (rpQ (18 * k + 19)).Is h30 v_ ((((0 : Rat) + ((((((1 : Int) : Rat) * n.x.x) * n.y.y) * n.z.z) - (((((1 : Int) : Rat) * n.x.x) * n.y.z) * n.z.y))) + ((((((1 : Int) : Rat) * n.x.y) * n.y.z) * n.z.x) - (((((1 : Int) : Rat) * n.x.y) * n.y.x) * n.z.z))) + ((((((1 : Int) : Rat) * n.x.z) * n.y.x) * n.z.y) - (((((1 : Int) : Rat) * n.x.z) * n.y.y) * n.z.x)))) (ox_load_box ty27 (Pc.here _) rfl rfl rb_107 rfl) (mem1 (.tail _ (.tail _ (.tail _ (.tail _ (.tail _ (.tail _ (.head _)))))))) rfl ?_)))))))))))
 intro v44u16 r44u16
 replace rb2 := rb2.mono (((((((((((((((((((((((((((((hh1.trans hh2).trans hh3).trans hh4).trans hh5).trans hh6).trans hh7).trans hh8).trans hh9).trans hh10).trans hh11).trans hh12).trans hh13).trans hh14).trans hh15).trans hh16).trans hh17).trans hh18).trans hh19).trans hh20).trans hh21).trans hh22).trans hh23).trans hh24).trans hh25).trans hh26).trans hh27).trans hh28).trans hh29).trans hh30)
 refine gl_updx (A := [_, _, _, _, _, _, _]) (F := fun c_ => (rpQ (18 * k + 40)).R h30 c_ ((((0 : Rat) + ((((((1 : Int) : Rat) * n.x.x) * n.y.y) * n.z.z) - (((((1 : Int) : Rat) * n.x.x) * n.y.z) * n.z.y))) + ((((((1 : Int) : Rat) * n.x.y) * n.y.z) * n.z.x) - (((((1 : Int) : Rat) * n.x.y) * n.y.x) * n.z.z))) + ((((((1 : Int) : Rat) * n.x.z) * n.y.x) * n.z.y) - (((((1 : Int) : Rat) * n.x.z) * n.y.y) * n.z.x)))) (upd_box Try.sizeOf27 (Pc.here _) rfl rfl rfl rb2 (r44u16.le (Le.q (l := 18 * k + 40) (by omega))) rfl) ?_
 intro cs_108 rb_109
 refine gl_nil (gq_then (gc_ret (gq_exv (rv_o (t := 2) ty27 (.tail _ (.tail _ (.tail _ (.tail _ (.tail _ (.tail _ (.tail _ (.head _)))))))) rfl rb_109) ?_)))
 intro w_110 hvw_110 rr_111
 refine gq_res (fun E S => run_res1 rfl hvw_110 E S) ?_
 exact (Rp.Is.cast rr_111 (by exact detR_eq n))

theorem o_law_matrix {w0 w : World} {h0 h : Mem} {b k : Nat} {vl : Value} {xs : List Int} (hl : Is h vl xs) (hk : k ≤ xs.length) {L : List Res} (hs : St w0 h0 (.var b 64 [vl, vI ↑k] :: L) h w) :
    Calls Try.prog 16 #[vP b 0] w (RetMut w0 h0 h L (fun g r q' => ∃ k' : Nat, ∃ m : T3 (T3 Sp), q' = .var b 64 [vl, vI ↑k'] ∧ k' ≤ xs.length ∧ okM m ∧ (rpT (rpT (rpP (rpQ 2) (rpQ 2)))).Is g r m)) := by
 have hlen := hl.lt63
 refine calls_begin_st (n := 35) (e := [(0, vP b 0)]) (vs := [vP b 0]) Try.func16 rfl rfl (Nat.le_of_ble_eq_true rfl) hs ⟨rfl, trivial⟩ (gc_seq (gc_region (gl_newop (new_allocx (ρ := (rpT (rpT (rpP (rpQ 2) (rpQ 2))))) (X := (T3.mk (T3.mk ((0 : Rat), (0 : Rat)) ((0 : Rat), (0 : Rat)) ((0 : Rat), (0 : Rat))) (T3.mk ((0 : Rat), (0 : Rat)) ((0 : Rat), (0 : Rat)) ((0 : Rat), (0 : Rat))) (T3.mk ((0 : Rat), (0 : Rat)) ((0 : Rat), (0 : Rat)) ((0 : Rat), (0 : Rat))))) info40 rfl rfl (zr_t (zr_t (zr_p (zr_q (by decide)) (zr_q (by decide)))))) rfl rfl rfl ?_)))
 intro v2 q2 hq2
 obtain ⟨b2, cs2, rfl, rfl, rb2⟩ := hq2
 refine gl_nil (gq_then (gc_seq (gc_region (gl_newop (new_allocx (ρ := (rpT (rpT (rpP (rpQ 2) (rpQ 2))))) (X := (T3.mk (T3.mk ((0 : Rat), (0 : Rat)) ((0 : Rat), (0 : Rat)) ((0 : Rat), (0 : Rat))) (T3.mk ((0 : Rat), (0 : Rat)) ((0 : Rat), (0 : Rat)) ((0 : Rat), (0 : Rat))) (T3.mk ((0 : Rat), (0 : Rat)) ((0 : Rat), (0 : Rat)) ((0 : Rat), (0 : Rat))))) info40 rfl rfl (zr_t (zr_t (zr_p (zr_q (by decide)) (zr_q (by decide)))))) rfl rfl rfl ?_))))
 intro v3 q3 hq3
 obtain ⟨b3, cs3, rfl, rfl, rb3⟩ := hq3
 refine gl_nil (gq_then (gc_seq (gc_seq (gc_region (asg (v := vI (0)) rfl rfl (gl_nil (gq_then (gc_block ?_))))))))
 refine gc_loop (ι := Nat × T3 (T3 Sp) × List Value × Nat × Mem) (fun (x_ : (Nat × T3 (T3 Sp) × List Value × Nat × Mem)) => match x_ with | (i, m, cs_112, kd_114, ma) => MLe h ma ∧ ((rpT (rpT (rpP (rpQ 2) (rpQ 2)))).R ma cs_112 m ∧ kd_114 ≤ xs.length ∧ i ≤ 3 ∧ okM m)) (fun (x_ : (Nat × T3 (T3 Sp) × List Value × Nat × Mem)) => match x_ with | (i, m, cs_112, kd_114, ma) => [(0, vP b 0), (2, vP b2 0), (3, vP b3 0), (4, vI ↑i)]) (fun (x_ : (Nat × T3 (T3 Sp) × List Value × Nat × Mem)) => match x_ with | (i, m, cs_112, kd_114, ma) => (.var b3 40 cs_112 :: .var b2 40 cs2 :: .var b 64 [vl, vI ↑kd_114] :: L)) (fun (x_ : (Nat × T3 (T3 Sp) × List Value × Nat × Mem)) => match x_ with | (i, m, cs_112, kd_114, ma) => ma) (fun (x_ : (Nat × T3 (T3 Sp) × List Value × Nat × Mem)) => match x_ with | (i, m, cs_112, kd_114, ma) => 3 - i) (0, (T3.mk (T3.mk ((0 : Rat), (0 : Rat)) ((0 : Rat), (0 : Rat)) ((0 : Rat), (0 : Rat))) (T3.mk ((0 : Rat), (0 : Rat)) ((0 : Rat), (0 : Rat)) ((0 : Rat), (0 : Rat))) (T3.mk ((0 : Rat), (0 : Rat)) ((0 : Rat), (0 : Rat)) ((0 : Rat), (0 : Rat)))), cs3, k, h) ?_ ⟨rfl, rfl, rfl, rfl, trivial⟩ rfl rfl ?_
 ·
  refine ⟨MLe.refl _, ?_⟩
  refine ⟨rb3, (by omega), ?_⟩
  exact ⟨by omega, okM_zero⟩
 ·
  intro x hx
  obtain ⟨i, m, cs_112, kd_114, ma⟩ := x
  obtain ⟨hmma, hinv⟩ := hx
  show GC _ _ _ _ _ _ [(0, vP b 0), (2, vP b2 0), (3, vP b3 0), (4, vI ↑i)] (.var b3 40 cs_112 :: .var b2 40 cs2 :: .var b 64 [vl, vI ↑kd_114] :: L) ma
  obtain ⟨rb_113, hkd_115, hinv⟩ := hinv
  obtain ⟨hi3, hok⟩ := hinv
  refine gc_seq (gc_seq (gc_region (mv rfl rfl (gv (ov_lss_i (q := 3) rfl rfl) rfl (gl_nil (gq_then ?_))))))
  refine gc_cond rfl (fun hc7 => ?_) (fun hc7 => ?_)
  ·
   refine gc_skip (gq_then (gc_seq (gc_block (gc_seq (gc_region (asg (v := vI (0)) rfl rfl (gl_nil (gq_then (gc_block ?_)))))))))
   refine gc_loop (ι := Nat × T3 (T3 Sp) × List Value × Nat × Mem) (fun (x_ : (Nat × T3 (T3 Sp) × List Value × Nat × Mem)) => match x_ with | (j, m2, cs_116, kd_118, mb) => MLe ma mb ∧ ((rpT (rpT (rpP (rpQ 2) (rpQ 2)))).R mb cs_116 m2 ∧ kd_118 ≤ xs.length ∧ j ≤ 3 ∧ okM m2)) (fun (x_ : (Nat × T3 (T3 Sp) × List Value × Nat × Mem)) => match x_ with | (j, m2, cs_116, kd_118, mb) => [(0, vP b 0), (2, vP b2 0), (3, vP b3 0), (4, vI ↑i), (5, vI ↑j)]) (fun (x_ : (Nat × T3 (T3 Sp) × List Value × Nat × Mem)) => match x_ with | (j, m2, cs_116, kd_118, mb) => (.var b3 40 cs_116 :: .var b2 40 cs2 :: .var b 64 [vl, vI ↑kd_118] :: L)) (fun (x_ : (Nat × T3 (T3 Sp) × List Value × Nat × Mem)) => match x_ with | (j, m2, cs_116, kd_118, mb) => mb) (fun (x_ : (Nat × T3 (T3 Sp) × List Value × Nat × Mem)) => match x_ with | (j, m2, cs_116, kd_118, mb) => 3 - j) (0, m, cs_112, kd_114, ma) ?_ ⟨rfl, rfl, rfl, rfl, rfl, trivial⟩ rfl rfl ?_
   ·
    refine ⟨MLe.refl _, ?_⟩
    refine ⟨rb_113, (by omega), ?_⟩
    exact ⟨by omega, hok⟩
   ·
    intro x hx
    obtain ⟨j, m2, cs_116, kd_118, mb⟩ := x
    obtain ⟨hmmb, hinv⟩ := hx
    show GC _ _ _ _ _ _ [(0, vP b 0), (2, vP b2 0), (3, vP b3 0), (4, vI ↑i), (5, vI ↑j)] (.var b3 40 cs_116 :: .var b2 40 cs2 :: .var b 64 [vl, vI ↑kd_118] :: L) mb
    obtain ⟨rb_117, hkd_119, hinv⟩ := hinv
    obtain ⟨hj3, hok2⟩ := hinv
    refine gc_seq (gc_seq (gc_region (mv rfl rfl (gv (ov_lss_i (q := 3) rfl rfl) rfl (gl_nil (gq_then ?_))))))
    refine gc_cond rfl (fun hc11 => ?_) (fun hc11 => ?_)
    ·
     refine gc_skip (gq_then (gc_seq (gc_block (gc_seq ?_))))
     refine gc_draw1 (A := [_, _]) 6 [] [(0, .q), (1, .q), (2, .q), (4, .q), (3, .c), (5, .q), (6, .t)] mixed (fun x hx => by cases hx) (by kernel_rfl) (fun x hx => by cases hx) (w_q rfl (fun h' L' hh hR => ov_move rfl) rfl (w_q rfl (fun h' L' hh hR => ov_move rfl) rfl (w_q rfl (fun h' L' hh hR => ov_move rfl) rfl (w_q rfl (fun h' L' hh hR => (ov_index_arr (sz := 18) i Try.underlying40 Try.sizeOf39 rfl rfl rfl (by omega)).cv (show _ = vP b3 ((i * 18 + 0)) from congrArg (vP b3) (by omega))) rfl ?_))))
     refine w_c rfl ?_
     replace hl := hl.mono (hmma.trans hmmb)
     refine s_call_mut (A := [_, _]) (vs := [_]) Try.call10 ⟨rfl, trivial⟩ (fun X w hs => o_dice_span hl (by first | omega | exact Nat.zero_le _) hs) rfl (mem_kept (by simp)) ?_
     intro v17 g17 q17 hg17 hr17
     obtain ⟨k17, p17, rfl, hk17, hle17, hr17⟩ := hr17
     refine w_q rfl (fun h' L' hh hR => (ov_index_arr (sz := 6) j Try.underlying39 Try.sizeOf29 rfl rfl rfl (by omega)).cv (show _ = vP b3 ((i * 18 + (j * 6 + 0))) from congrArg (vP b3) (by omega))) rfl ?_
     replace rb_117 := rb_117.mono hg17
     refine w_tx_upd (A := []) (F := fun c_ => (rpT (rpT (rpP (rpQ 2) (rpQ 2)))).R g17 c_ (m2.set i ((m2.at i).set j p17))) rfl (upd_box Try.sizeOf29 (Pc.ta (Pc.ta (Pc.here _) j (by omega)) i (by omega)) rfl rfl rfl rb_117 hr17 rfl) ?_
     intro cs_120 rb_121
     refine w_nil (gq_then (gc_seq (gc_region (mv rfl rfl ?_))))
     replace hl := hl.mono hg17
     refine gl_call_mut2 (A := [_, _]) (vs := [_, vI (2)]) Try.call22 ⟨rfl, rfl, trivial⟩ (fun X w hs => dice_next hl (by first | omega | exact Nat.zero_le _) (by omega) (by omega) hs) rfl ?_
     intro v21 g21 q21 hg21 hr21
     obtain ⟨k21, z21, rfl, hk21, rfl, hz21, hy21⟩ := hr21
     refine gv (ov_eql_i (q := 0) rfl rfl) rfl (gl_nil (gq_keep (e' := [(0, _), (2, _), (3, _), (4, _), (5, _), (22, _)]) ⟨rfl, rfl, rfl, rfl, rfl, rfl, trivial⟩ (gq_then ?_)))
     refine gc_cond rfl (fun hc22 => ?_) (fun hc22 => ?_)
     ·
      refine gc_draw 11 _ [] [(0, .q), (1, .q), (2, .q), (3, .q), (4, .q), (5, .q), (6, .q), (7, .q), (8, .q), (9, .q), (10, .q), (11, .t)] mixed (fun x hx => by cases hx) (by kernel_rfl) (fun x hx => by cases hx) (fun r hr => hr) (w_q rfl (fun h' L' hh hR => ov_move rfl) rfl (w_q rfl (fun h' L' hh hR => ov_move rfl) rfl (w_q rfl (fun h' L' hh hR => ov_move rfl) rfl (w_q rfl (fun h' L' hh hR => ov_move rfl) rfl (w_q rfl (fun h' L' hh hR => (ov_index_arr (sz := 18) i Try.underlying40 Try.sizeOf39 rfl rfl rfl (by omega)).cv (show _ = vP b3 ((i * 18 + 0)) from congrArg (vP b3) (by omega))) rfl (w_q rfl (fun h' L' hh hR => (ov_index_arr (sz := 6) j Try.underlying39 Try.sizeOf29 rfl rfl rfl (by omega)).cv (show _ = vP b3 ((i * 18 + (j * 6 + 0))) from congrArg (vP b3) (by omega))) rfl (w_q rfl (fun h' L' hh hR => (ov_field_addr Try.underlying29 rfl Try.sizeOf27 rfl).cv (show _ = vP b3 ((i * 18 + (j * 6 + 0))) from congrArg (vP b3) (by show (i * 18 + (j * 6 + 0)) + 0 = (i * 18 + (j * 6 + 0)); omega))) rfl ?_)))))))
      replace rb_121 := rb_121.mono hg21
      refine w_qx (F := fun v_ => (rpQ 2).Is g21 v_ ((((m2.set i ((m2.at i).set j p17)).at i).at j).1)) rfl (ox_load_box ty27 (Pc.ta (Pc.ta (Pc.fst (Pc.here _)) j (by omega)) i (by omega)) rfl rfl rb_121 rfl) (mem1 (.head _)) rfl ?_
      intro v30 r30
      refine w_q rfl (fun h' L' hh hR => (ov_index_arr (sz := 18) i Try.underlying40 Try.sizeOf39 rfl rfl rfl (by omega)).cv (show _ = vP b3 ((i * 18 + 0)) from congrArg (vP b3) (by omega))) rfl (w_q rfl (fun h' L' hh hR => (ov_index_arr (sz := 6) j Try.underlying39 Try.sizeOf29 rfl rfl rfl (by omega)).cv (show _ = vP b3 ((i * 18 + (j * 6 + 0))) from congrArg (vP b3) (by omega))) rfl (w_q rfl (fun h' L' hh hR => (ov_field_addr Try.underlying29 rfl Try.sizeOf27 rfl).cv (show _ = vP b3 ((i * 18 + (j * 6 + 3))) from congrArg (vP b3) (by show (i * 18 + (j * 6 + 0)) + 3 = (i * 18 + (j * 6 + 3)); omega))) rfl (w_tx_upd (A := []) (F := fun c_ => (rpT (rpT (rpP (rpQ 2) (rpQ 2)))).R g21 c_ ((m2.set i ((m2.at i).set j p17)).set i (((m2.set i ((m2.at i).set j p17)).at i).set j ((((m2.set i ((m2.at i).set j p17)).at i).at j).1, (((m2.set i ((m2.at i).set j p17)).at i).at j).1)))) rfl (upd_box Try.sizeOf27 (Pc.ta (Pc.ta (Pc.snd (Pc.here _)) j (by omega)) i (by omega)) rfl rfl rfl rb_121 r30 rfl) ?_)))
      intro cs_122 rb_123
      refine w_nil (gq_in (gq_keep (e' := [(0, _), (2, _), (3, _), (4, _), (5, _)]) ⟨rfl, rfl, rfl, rfl, rfl, trivial⟩ (gq_then (gc_region (mv rfl rfl (gv (ov_add_i (q := 1) rfl rfl (by omega) (by omega)) rfl (asg rfl rfl (gl_nil ?_))))))))
      refine gq_round ((j + 1), ((m2.set i ((m2.at i).set j p17)).set i (((m2.set i ((m2.at i).set j p17)).at i).set j ((((m2.set i ((m2.at i).set j p17)).at i).at j).1, (((m2.set i ((m2.at i).set j p17)).at i).at j).1))), cs_122, k21, g21) ?_ ?_ ⟨?_, ?_, ?_, ?_, ?_, trivial⟩ ?_ rfl
      ·
       refine ⟨((hmmb.trans hg17).trans hg21), ?_⟩
       refine ⟨rb_123, (by omega), ?_⟩
       exact ⟨by omega, okM_set (okM_set hok2 hle17) (Rat.le_refl)⟩
      ·
       dsimp only
       omega
      · exact rfl
      · exact rfl
      · exact rfl
      · exact rfl
      · exact rfl
      · exact rfl
     ·
      refine gc_skip (gq_in (gq_then (gc_region (mv rfl rfl (gv (ov_add_i (q := 1) rfl rfl (by omega) (by omega)) rfl (asg rfl rfl (gl_nil ?_)))))))
      refine gq_round ((j + 1), (m2.set i ((m2.at i).set j p17)), cs_120, k21, g21) ?_ ?_ ⟨?_, ?_, ?_, ?_, ?_, trivial⟩ ?_ rfl
      ·
       refine ⟨((hmmb.trans hg17).trans hg21), ?_⟩
       replace rb_121 := rb_121.mono hg21
       refine ⟨rb_121, (by omega), ?_⟩
       exact ⟨by omega, okM_set hok2 hle17⟩
      ·
       dsimp only
       omega
      · exact rfl
      · exact rfl
      · exact rfl
      · exact rfl
      · exact rfl
      · exact rfl
    ·
     refine gc_exit (gx_then (gx_then (gx_here (gq_in (gq_then (gc_region (mv rfl rfl (gv (ov_add_i (q := 1) rfl rfl (by omega) (by omega)) rfl (asg rfl rfl (gl_nil ?_))))))))))
     refine gq_round ((i + 1), m2, cs_116, kd_118, mb) ?_ ?_ ⟨?_, ?_, ?_, ?_, trivial⟩ ?_ rfl
     ·
      refine ⟨(hmma.trans hmmb), ?_⟩
      refine ⟨rb_117, (by omega), ?_⟩
      exact ⟨by omega, hok2⟩
     ·
      dsimp only
      omega
     · exact rfl
     · exact rfl
     · exact rfl
     · exact rfl
     · exact rfl
  ·
   refine gc_exit (gx_then (gx_then (gx_here (gq_then (gc_seq (gc_region (gl_x (F := fun v_ => (rpT (rpT (rpP (rpQ 2) (rpQ 2)))).Is ma v_ m) (ox_load_box ty40 (Pc.here _) rfl rfl rb_113 rfl) (mem1 (.head _)) rfl ?_)))))))
   intro v34 r34
   replace rb2 := rb2.mono hmma
   refine gl_updx (A := [_]) (F := fun c_ => (rpT (rpT (rpP (rpQ 2) (rpQ 2)))).R ma c_ m) (upd_box Try.sizeOf40 (Pc.here _) rfl rfl rfl rb2 r34 rfl) ?_
   intro cs_124 rb_125
   refine gl_nil (gq_then (gc_ret (gq_exv (rv_o (t := 2) ty40 (.tail _ (.head _)) rfl rb_125) ?_)))
   intro w_126 hvw_126 rr_127
   refine gq_res_own (fun E S => run_res1 rfl hvw_126 E S) ?_
   exact ⟨_, (.cons _ (.cons _ (List.Sublist.refl _))), hmma, _, _, rfl, by omega, hok, rr_127⟩

end Go.Proofs.Ytkdmphehabpcfaa

namespace Go.Proofs.Ytkdmphehabpcfaa
open Bk Go
set_option linter.unusedVariables false
set_option linter.unusedSimpArgs false
set_option maxRecDepth 10000

theorem law3_spandets {w0 : World} {h0 : Mem}  (hs : MLe h0 (mem w0)) {vl : Value} {xsl : List Int} (hl : Is h0 vl xsl)  :
    Calls Try.prog 4 #[vl] w0 (Ret w0 h0 (fun _ r => r = .bool true)) := by
 have hlenl := hl.lt63
 refine calls_begin (n := 42) (e := [(0, vl)]) (vs := [vl]) Try.func4 rfl rfl (Nat.le_of_ble_eq_true rfl) hs ⟨rfl, trivial⟩ (gc_seq (gc_region (asg rfl rfl (gl_nil (gq_then (gc_seq (gc_seq (gc_region (mv rfl rfl ?_)))))))))
 refine gl_call (vs := [_]) rfl rfl rfl rfl Try.call7 ⟨rfl, trivial⟩ (fun w hs => made_light hs hl) ?_
 intro v6 h1 hh1 hr6
 subst hr6
 refine gv (ov_not rfl) rfl (gl_nil (gq_then ?_))
 refine gc_cond rfl (fun hc7 => ?_) (fun hc7 => ?_)
 ·
  refine gc_seq (gc_region ?_)
  refine gl_call (vs := []) rfl rfl rfl rfl Try.call8 trivial (fun w hs => law3_awake hs) ?_
  intro v8 h2 hh2 hr8
  subst hr8
  refine asg rfl rfl (gl_nil (gq_then (gc_ret (gr_then (gq_body1 rfl rfl ?_)))))
  rfl
 ·
  refine gc_skip (gq_then (gc_seq (gc_region (mv rfl rfl ?_))))
  replace hl := hl.mono hh1
  refine gl_call_own (vs := [_]) rfl rfl rfl rfl Try.call9 ⟨rfl, trivial⟩ (fun w hs => made_roll hs hl) ?_
  intro v10 h2 L10 hh2 hr10
  obtain ⟨b10, rfl, rfl⟩ := hr10
  replace hl := hl.mono hh2
  refine gl_call_mut2 (A := []) (vs := [_]) Try.call16 ⟨rfl, trivial⟩ (fun X w hs => o_law_matrix hl (by first | omega | exact Nat.zero_le _) hs) rfl ?_
  intro v11 g11 q11 hg11 hr11
  obtain ⟨k11, m11, rfl, hk11, hok11, hr11⟩ := hr11
  refine gl_newop (new_allocx (ρ := (rpT (rpT (rpP (rpQ 1) (rpQ 1))))) (X := (T3.mk (T3.mk ((0 : Rat), (0 : Rat)) ((0 : Rat), (0 : Rat)) ((0 : Rat), (0 : Rat))) (T3.mk ((0 : Rat), (0 : Rat)) ((0 : Rat), (0 : Rat)) ((0 : Rat), (0 : Rat))) (T3.mk ((0 : Rat), (0 : Rat)) ((0 : Rat), (0 : Rat)) ((0 : Rat), (0 : Rat))))) info40 rfl rfl (zr_t (zr_t (zr_p (zr_q (by decide)) (zr_q (by decide)))))) rfl rfl rfl ?_
  intro v3 q3 hq3
  obtain ⟨b3, cs3, rfl, rfl, rb3⟩ := hq3
  have rw_1 := (Le.t (Le.t (Le.p (Le.q (l := 2) (by decide)) (Le.q (l := 2) (by decide))))).R rb3
  refine gl_updx (A := []) (F := fun c_ => (rpT (rpT (rpP (rpQ 2) (rpQ 2)))).R g11 c_ m11) (upd_box Try.sizeOf40 (Pc.here _) rfl rfl rfl rw_1 hr11 rfl) ?_
  intro cs_2 rb_3
  refine gl_nil (gq_then (gc_seq (gc_region (gv ((ov_index_arr (sz := 18) (q := 0) 0 Try.underlying40 Try.sizeOf39 rfl rfl rfl (by decide)).cv (show _ = vP b3 0 from congrArg (vP b3) (by rfl))) rfl (gv ((ov_index_arr (sz := 6) (q := 0) 0 Try.underlying39 Try.sizeOf29 rfl rfl rfl (by decide)).cv (show _ = vP b3 0 from congrArg (vP b3) (by rfl))) rfl (gl_x (F := fun v_ => (rpP (rpQ 2) (rpQ 2)).Is g11 v_ m11.x.x) (ox_load_box ty29 (Pc.tx (Pc.tx (Pc.here _))) rfl rfl rb_3 rfl) (mem1 (.head _)) rfl ?_))))))
  intro v14 r14
  refine gv ((ov_index_arr (sz := 18) (q := 0) 0 Try.underlying40 Try.sizeOf39 rfl rfl rfl (by decide)).cv (show _ = vP b3 0 from congrArg (vP b3) (by rfl))) rfl (gv ((ov_index_arr (sz := 6) (q := 1) 1 Try.underlying39 Try.sizeOf29 rfl rfl rfl (by decide)).cv (show _ = vP b3 6 from congrArg (vP b3) (by rfl))) rfl (gl_x (F := fun v_ => (rpP (rpQ 2) (rpQ 2)).Is g11 v_ m11.x.y) (ox_load_box ty29 (Pc.tx (Pc.ty (Pc.here _))) rfl rfl rb_3 rfl) (mem1 (.head _)) rfl ?_))
  intro v17 r17
  refine gl_x (F := fun v_ => (rpA 2 (rpP (rpQ 2) (rpQ 2))).Is g11 v_ [m11.x.x, m11.x.y]) (ox_build_arr (ps' := [(0, _), (1, _)]) Try.underlying42 info42 rfl rfl Try.sizeOf29 ⟨rfl, rfl, rfl, rfl, trivial⟩ rfl (zr_a 2 (zr_p (zr_q (by decide)) (zr_q (by decide)))) (fx_one rfl (Pc.arr (Pc.here _) ((0 : Rat), (0 : Rat)) 0 (by decide)) r14 (fx_one rfl (Pc.arr (Pc.here _) ((0 : Rat), (0 : Rat)) 1 (by decide)) r17 fx_nil))) mem0 rfl ?_
  intro v18 r18
  refine gv ((ov_index_arr (sz := 18) (q := 1) 1 Try.underlying40 Try.sizeOf39 rfl rfl rfl (by decide)).cv (show _ = vP b3 18 from congrArg (vP b3) (by rfl))) rfl (gv ((ov_index_arr (sz := 6) (q := 0) 0 Try.underlying39 Try.sizeOf29 rfl rfl rfl (by decide)).cv (show _ = vP b3 18 from congrArg (vP b3) (by rfl))) rfl (gl_x (F := fun v_ => (rpP (rpQ 2) (rpQ 2)).Is g11 v_ m11.y.x) (ox_load_box ty29 (Pc.ty (Pc.tx (Pc.here _))) rfl rfl rb_3 rfl) (mem1 (.head _)) rfl ?_))
  intro v21 r21
  refine gv ((ov_index_arr (sz := 18) (q := 1) 1 Try.underlying40 Try.sizeOf39 rfl rfl rfl (by decide)).cv (show _ = vP b3 18 from congrArg (vP b3) (by rfl))) rfl (gv ((ov_index_arr (sz := 6) (q := 1) 1 Try.underlying39 Try.sizeOf29 rfl rfl rfl (by decide)).cv (show _ = vP b3 24 from congrArg (vP b3) (by rfl))) rfl (gl_x (F := fun v_ => (rpP (rpQ 2) (rpQ 2)).Is g11 v_ m11.y.y) (ox_load_box ty29 (Pc.ty (Pc.ty (Pc.here _))) rfl rfl rb_3 rfl) (mem1 (.head _)) rfl ?_))
  intro v24 r24
  refine gl_x (F := fun v_ => (rpA 2 (rpP (rpQ 2) (rpQ 2))).Is g11 v_ [m11.y.x, m11.y.y]) (ox_build_arr (ps' := [(0, _), (1, _)]) Try.underlying42 info42 rfl rfl Try.sizeOf29 ⟨rfl, rfl, rfl, rfl, trivial⟩ rfl (zr_a 2 (zr_p (zr_q (by decide)) (zr_q (by decide)))) (fx_one rfl (Pc.arr (Pc.here _) ((0 : Rat), (0 : Rat)) 0 (by decide)) r21 (fx_one rfl (Pc.arr (Pc.here _) ((0 : Rat), (0 : Rat)) 1 (by decide)) r24 fx_nil))) mem0 rfl ?_
  intro v25 r25
  refine gl_x (F := fun v_ => (rpA 2 (rpA 2 (rpP (rpQ 2) (rpQ 2)))).Is g11 v_ [[m11.x.x, m11.x.y], [m11.y.x, m11.y.y]]) (ox_build_arr (ps' := [(0, _), (1, _)]) Try.underlying43 info43 rfl rfl Try.sizeOf42 ⟨rfl, rfl, rfl, rfl, trivial⟩ rfl (zr_a 2 (zr_a 2 (zr_p (zr_q (by decide)) (zr_q (by decide))))) (fx_one rfl (Pc.arr (Pc.here _) (List.replicate 2 ((0 : Rat), (0 : Rat))) 0 (by decide)) r18 (fx_one rfl (Pc.arr (Pc.here _) (List.replicate 2 ((0 : Rat), (0 : Rat))) 1 (by decide)) r25 fx_nil))) mem0 rfl ?_
  intro v26 r26
  refine gl_newop (new_allocx (ρ := (rpA 2 (rpA 2 (rpP (rpQ 1) (rpQ 1))))) (X := (List.replicate 2 (List.replicate 2 ((0 : Rat), (0 : Rat))))) info43 rfl rfl (zr_a 2 (zr_a 2 (zr_p (zr_q (by decide)) (zr_q (by decide)))))) rfl rfl rfl ?_
  intro v4 q4 hq4
  obtain ⟨b4, cs4, rfl, rfl, rb4⟩ := hq4
  have rw_4 := (Le.a (Le.a (Le.p (Le.q (l := 2) (by decide)) (Le.q (l := 2) (by decide))))).R rb4
  refine gl_updx (A := []) (F := fun c_ => (rpA 2 (rpA 2 (rpP (rpQ 2) (rpQ 2)))).R g11 c_ [[m11.x.x, m11.x.y], [m11.y.x, m11.y.y]]) (upd_box Try.sizeOf43 (Pc.here _) rfl rfl rfl rw_4 r26 rfl) ?_
  intro cs_5 rb_6
  refine gl_nil (gq_keep (e' := [(3, _), (4, _)]) ⟨rfl, rfl, trivial⟩ (gq_then (gc_seq ?_)))
  refine gc_draw 16 _ [] [(0, .q), (2, .q), (1, .c), (3, .c), (4, .c), (5, .q), (6, .q), (8, .q), (7, .c), (9, .c), (10, .c), (11, .q), (12, .q), (13, .c), (14, .q), (15, .q)] mixed (fun x hx => by cases hx) (by kernel_rfl) (fun x hx => by cases hx) (fun r hr => hr) (w_qx (F := fun v_ => (rpT (rpT (rpP (rpQ 2) (rpQ 2)))).Is g11 v_ m11) rfl (ox_load_box ty40 (Pc.here _) rfl rfl rb_3 rfl) (mem1 (.tail _ (.head _))) rfl ?_)
  intro v27 r27
  refine w_qx (F := fun v_ => (rpT (rpT (rpP (rpQ 2) (rpQ 2)))).Is g11 v_ m11) rfl (ox_load_box ty40 (Pc.here _) rfl rfl rb_3 rfl) (mem1 (.tail _ (.head _))) rfl ?_
  intro v29 r29
  refine w_c rfl ?_
  refine s_call (vs := [_]) Try.call17 ⟨rfl, trivial⟩ (fun w hs => o_span_det3 hs r27 (by decide)) rfl ?_
  intro v28 h3 hh3 r28
  change (rpP (rpQ (15 * 2 + 20)) (rpQ (15 * 2 + 20))).Is h3 v28 (det3S m11) at r28
  replace r28 := Rp.Is.le r28 (Le.p (Le.q (l := 50) (by omega)) (Le.q (l := 50) (by omega)))
  refine w_c rfl ?_
  replace r29 := r29.mono hh3
  refine s_call (vs := [_]) Try.call18 ⟨rfl, trivial⟩ (fun w hs => o_sref_det3 hs r29 (by decide)) rfl ?_
  intro v30 h4 hh4 r30
  change (rpP (rpQ (15 * 2 + 20)) (rpQ (15 * 2 + 20))).Is h4 v30 (det3S m11) at r30
  replace r30 := Rp.Is.le r30 (Le.p (Le.q (l := 50) (by omega)) (Le.q (l := 50) (by omega)))
  refine w_c rfl ?_
  replace r28 := r28.mono hh4
  refine s_call (vs := [_, _]) Try.call11 ⟨rfl, rfl, trivial⟩ (fun w hs => o_sref_same hs r28 r30 (by decide)) rfl ?_
  intro v31 h5 hh5 r31
  obtain rfl : v31 = .bool true := by rw [show v31 = vB ((det3S m11).1 = (det3S m11).1 ∧ (det3S m11).2 = (det3S m11).2) from r31, vB_true (by first | rfl | exact Iff.rfl | exact ⟨rfl, rfl⟩ | exact valid_rat _ | assumption)]
  refine w_q rfl (fun h' L' hh hR => ov_move rfl) rfl ?_
  replace rb_6 := rb_6.mono ((hh3.trans hh4).trans hh5)
  refine w_qx_on (F := fun v_ => (rpA 2 (rpA 2 (rpP (rpQ 2) (rpQ 2)))).Is h5 v_ [[m11.x.x, m11.x.y], [m11.y.x, m11.y.y]]) rfl rfl rfl (ox_load_box ty43 (Pc.here _) rfl rfl rb_6 rfl) (mem1 (.head _)) rfl ?_
  intro v33 r33
  refine w_qx_on (F := fun v_ => (rpA 2 (rpA 2 (rpP (rpQ 2) (rpQ 2)))).Is h5 v_ [[m11.x.x, m11.x.y], [m11.y.x, m11.y.y]]) rfl rfl rfl (ox_load_box ty43 (Pc.here _) rfl rfl rb_6 rfl) (mem1 (.head _)) rfl ?_
  intro v35 r35
  refine w_c rfl (s_on rfl rfl ?_)
  refine s_call (vs := [_]) Try.call19 ⟨rfl, trivial⟩ (fun w hs => o_span_det2 hs r33 (by decide)) rfl ?_
  intro v34 h6 hh6 r34
  change (rpP (rpQ (4 * 2 + 1)) (rpQ (4 * 2 + 1))).Is h6 v34 (det2L [[m11.x.x, m11.x.y], [m11.y.x, m11.y.y]]) at r34
  replace r34 := Rp.Is.le r34 (Le.p (Le.q (l := 9) (by omega)) (Le.q (l := 9) (by omega)))
  refine w_c rfl (s_on rfl rfl ?_)
  replace r35 := r35.mono hh6
  refine s_call (vs := [_]) Try.call20 ⟨rfl, trivial⟩ (fun w hs => o_sref_det2 hs r35 (by decide)) rfl ?_
  intro v36 h7 hh7 r36
  change (rpP (rpQ (4 * 2 + 1)) (rpQ (4 * 2 + 1))).Is h7 v36 (det2L [[m11.x.x, m11.x.y], [m11.y.x, m11.y.y]]) at r36
  replace r36 := Rp.Is.le r36 (Le.p (Le.q (l := 9) (by omega)) (Le.q (l := 9) (by omega)))
  refine w_c rfl (s_on rfl rfl ?_)
  replace r34 := r34.mono hh7
  refine s_call (vs := [_, _]) Try.call11 ⟨rfl, rfl, trivial⟩ (fun w hs => o_sref_same hs r34 r36 (by decide)) rfl ?_
  intro v37 h8 hh8 r37
  obtain rfl : v37 = .bool true := by rw [show v37 = vB ((det2L [[m11.x.x, m11.x.y], [m11.y.x, m11.y.y]]).1 = (det2L [[m11.x.x, m11.x.y], [m11.y.x, m11.y.y]]).1 ∧ (det2L [[m11.x.x, m11.x.y], [m11.y.x, m11.y.y]]).2 = (det2L [[m11.x.x, m11.x.y], [m11.y.x, m11.y.y]]).2) from r37, vB_true (by first | rfl | exact Iff.rfl | exact ⟨rfl, rfl⟩ | exact valid_rat _ | assumption)]
  refine w_q rfl (fun h' L' hh hR => ov_pick_t rfl rfl) rfl (w_q rfl (fun h' L' hh hR => ov_move rfl) rfl ?_)
  refine w_c rfl (s_on rfl rfl ?_)
  refine s_call (vs := []) Try.call8 trivial (fun w hs => law3_awake hs) rfl ?_
  intro v40 h9 hh9 hr40
  subst hr40
  refine w_q rfl (fun h' L' hh hR => ov_pick_t rfl rfl) rfl (w_q rfl (fun h' L' hh hR => ov_assign rfl) rfl (w_nil (gq_keep (e' := [(2, _)]) ⟨rfl, trivial⟩ (gq_then (gc_ret (gq_body1 rfl rfl ?_))))))
  rfl

end Go.Proofs.Ytkdmphehabpcfaa
