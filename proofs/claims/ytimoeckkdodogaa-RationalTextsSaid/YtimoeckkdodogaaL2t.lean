/- Contracts of functions, walked by their text (law2b/t). -/
import Derived.Test.YtimoeckkdodogaaL2
import Derived.Test.YtimoeckkdodogaaV2
namespace Go.Proofs.Ytimoeckkdodogaa
open Bk Go
set_option linter.unusedVariables false
set_option linter.unusedSimpArgs false
set_option maxRecDepth 10000

theorem law2_texts {w0 : World} {h0 : Mem}  (hs : MLe h0 (mem w0)) {sa : Prop} {ba vna vda : Value} {xa ya : List Nat} (hba : ba = vB sa) (hna : Us .u32 h0 vna xa) (hda : Us .u32 h0 vda ya) {s : ByteArray} (hsz0 : s.size ≤ maxLen) :
    Calls Try.prog 3 #[.agg #[ba, vna, vda], .string s] w0 (Ret w0 h0 (fun _ r => r = .bool true)) := by
 subst hba
 have hlxa := limbs_len_le hna.lt
 have hlya := dV_len ya hda.lt
 have hsz : (byt s).length ≤ 9223372036854775807 := by rw [byt_length]; exact Nat.le_trans hsz0 (by decide)
 rw [show Value.string s = .string (strOf (byt s)) by rw [strOf_byt]]
 refine calls_begin (n := 54) (e := [(0, .agg #[vB sa, vna, vda]), (1, .string (strOf (byt s)))]) (vs := [.agg #[vB sa, vna, vda], .string (strOf (byt s))]) Try.func3 rfl rfl (Nat.le_of_ble_eq_true rfl) hs ⟨rfl, rfl, trivial⟩ (gc_seq (gc_region (gl_newop (new_box (cs := [_, _, _]) rfl rfl) rfl rfl rfl ?_)))
 intro v2 r2 hr2
 obtain ⟨b2, rfl, rfl⟩ := hr2
 refine asg rfl rfl (gl_nil (gq_then (gc_seq (gc_seq (gc_region (gv (ov_load_agg (vs := [_, _, _]) (.head _) Try.underlying24 rfl size24 rfl rfl) rfl ?_))))))
 refine gl_call (vs := [_]) rfl rfl rfl rfl Try.call13 ⟨rfl, trivial⟩ (fun w hs => law2_light hs rfl hna hda) ?_
 intro v11 h1 hh1 hr11
 subst hr11
 refine gv (ov_not rfl) rfl ?_
 refine gl_cut (ι := Unit) 10 (fun _ => True) (fun _ => [(22, vB ((¬ ((↑((xa)).length : Int) ≤ 16 ∧ (↑((ya)).length : Int) ≤ 16)) ∨ (((300 : Int) < (↑((byt s)).length : Int)) ∧ ((↑((byt s)).length : Int) ≤ (4096 : Int))))), (1, .string (strOf (byt s))), (2, vP b2 0)]) (fun _ => [.var b2 24 [vB sa, vna, vda]]) (fun _ => h1) ?_ ?_
 ·
  refine gl_cases (¬ ((↑((xa)).length : Int) ≤ 16 ∧ (↑((ya)).length : Int) ≤ 16)) (fun hg => ?_) (fun hg => ?_)
  ·
   refine gl_val (ov_move (v := .bool true) (congrArg some (vB_true hg))) rfl rfl rfl (gl_off rfl rfl rfl rfl rfl rfl (gl_off rfl rfl rfl rfl rfl rfl (gl_off rfl rfl rfl rfl rfl rfl (gl_off rfl rfl rfl rfl rfl rfl (gl_offu rfl rfl rfl rfl rfl (gl_offu rfl rfl rfl rfl rfl (gl_offu rfl rfl rfl rfl rfl (gl_off rfl rfl rfl rfl rfl rfl (gv (ov_pick_t rfl rfl) rfl (gl_nil ?_))))))))))
   refine gq_cut () trivial ⟨?_, rfl, rfl, trivial⟩ rfl rfl
   exact congrArg some (vB_or_t hg)
  ·
   refine gl_val (ov_move (v := .bool false) (congrArg some (vB_false hg))) rfl rfl rfl (gl_on rfl rfl rfl (mv rfl rfl (gl_on rfl rfl rfl (gv (ov_len_s (bs := (byt s)) Try.underlying9 rfl) rfl (gl_on rfl rfl rfl (gv (ov_gtr_i (q := 300) rfl rfl) rfl ?_))))))
   refine gl_cut (ι := Unit) 5 (fun _ => True) (fun _ => [(21, vB (((300 : Int) < (↑((byt s)).length : Int)) ∧ ((↑((byt s)).length : Int) ≤ (4096 : Int)))), (1, .string (strOf (byt s))), (2, vP b2 0), (13, .bool false)]) (fun _ => [.var b2 24 [vB sa, vna, vda]]) (fun _ => h1) ?_ ?_
   ·
    refine gl_cases ((300 : Int) < (↑((byt s)).length : Int)) (fun hg => ?_) (fun hg => ?_)
    ·
     refine gl_on rfl rfl rfl (gl_val (ov_move (v := .bool true) (congrArg some (vB_true hg))) rfl rfl rfl (gl_on rfl rfl rfl (mv rfl rfl (gl_on rfl rfl rfl (gv (ov_len_s (bs := (byt s)) Try.underlying9 rfl) rfl (gl_on rfl rfl rfl (gv (ov_leq_i (q := 4096) rfl rfl) rfl (gl_on rfl rfl rfl (gv (ov_pick_t rfl rfl) rfl (gl_nil ?_))))))))))
     refine gq_cut () trivial ⟨?_, rfl, rfl, rfl, trivial⟩ rfl rfl
     exact congrArg some (vB_and_t hg)
    ·
     refine gl_on rfl rfl rfl (gl_val (ov_move (v := .bool false) (congrArg some (vB_false hg))) rfl rfl rfl (gl_off rfl rfl rfl rfl rfl rfl (gl_off rfl rfl rfl rfl rfl rfl (gl_off rfl rfl rfl rfl rfl rfl (gl_on rfl rfl rfl (gv (ov_pick_f rfl rfl) rfl (gl_nil ?_)))))))
     refine gq_cut () trivial ⟨?_, rfl, rfl, rfl, trivial⟩ rfl rfl
     exact congrArg some (vB_and_f hg)
   ·
    intro _ _
    show GL _ _ _ _ _ _ _ [(21, vB (((300 : Int) < (↑((byt s)).length : Int)) ∧ ((↑((byt s)).length : Int) ≤ (4096 : Int)))), (1, .string (strOf (byt s))), (2, vP b2 0), (13, .bool false)] [.var b2 24 [vB sa, vna, vda]] h1
    refine gv (ov_pick_f rfl rfl) rfl (gl_nil ?_)
    refine gq_cut () trivial ⟨?_, rfl, rfl, trivial⟩ rfl rfl
    exact congrArg some (vB_or_f hg)
 ·
  intro _ _
  show GL _ _ _ _ _ _ _ [(22, vB ((¬ ((↑((xa)).length : Int) ≤ 16 ∧ (↑((ya)).length : Int) ≤ 16)) ∨ (((300 : Int) < (↑((byt s)).length : Int)) ∧ ((↑((byt s)).length : Int) ≤ (4096 : Int))))), (1, .string (strOf (byt s))), (2, vP b2 0)] [.var b2 24 [vB sa, vna, vda]] h1
  refine gl_nil (gq_then ?_)
  refine gc_cond rfl (fun hc22 => ?_) (fun hc22 => ?_)
  ·
   refine gc_seq (gc_region ?_)
   refine gl_call (vs := []) rfl rfl rfl rfl Try.call14 trivial (fun w hs => law2_awake hs) ?_
   intro v23 h2 hh2 hr23
   subst hr23
   refine asg rfl rfl (gl_nil (gq_then (gc_ret (gr_then (gq_body1 rfl rfl ?_)))))
   rfl
  ·
   refine gc_skip (gq_then (gc_seq (gc_region (gv (ov_load_agg (vs := [_, _, _]) (.head _) Try.underlying24 rfl size24 rfl rfl) rfl ?_))))
   replace hna := hna.mono hh1
   replace hda := hda.mono hh1
   refine gl_call (vs := [_]) rfl rfl rfl rfl Try.call15 ⟨rfl, trivial⟩ (fun w hs => law2_number hs rfl hna hda (by constructor <;> omega)) ?_
   intro v25 h2 hh2 hr25
   have hlq25 := lq_numQ (sa) (xa) (ya)
   obtain ⟨vn25, vd25, rfl, hn25, hd25⟩ := hr25
   refine gl_newop (new_alloc (cs := [vB ((0 : Rat).num < 0), .slice none 0 0, .slice none 0 0]) info27 rfl (by simp only [zb]; rfl)) rfl rfl rfl ?_
   intro v5 r5 hr5
   obtain ⟨b5, rfl, rfl⟩ := hr5
   refine gl_upd (A := []) (r' := .var b5 27 [vB ((numQ (sa) (xa) (ya)).num < 0), vn25, vd25]) (upd_store_var (k := 0) (cs := [_, _, _]) (vs := [_, _, _]) rfl rfl rfl (ocr rfl (ocu hn25 (ocu hd25 oc0))) size27 (Nat.le_of_ble_eq_true rfl)) rfl rfl rfl (gl_nil (gq_then (gc_seq (gc_region (mv rfl rfl ?_)))))
   refine gl_call (vs := [_]) rfl rfl rfl rfl Try.call16 ⟨rfl, trivial⟩ (fun w hs => rat_parse hs (byB_byt s) (by omega)) ?_
   intro v28 h3 hh3 hr28
   obtain ⟨_, rfl, vn28, vd28, rfl, hn28, hd28⟩ := hr28
   have hlq28 := lq_par (byt s)
   refine mv rfl rfl (gv (ov_extract (vs := [_, _]) rfl rfl) rfl (gv (ov_extract (vs := [_, _]) rfl rfl) rfl (gl_newop (new_alloc (cs := [vB ((0 : Rat).num < 0), .slice none 0 0, .slice none 0 0]) info27 rfl (by simp only [zb]; rfl)) rfl rfl rfl ?_)))
   intro v6 r6 hr6
   obtain ⟨b6, rfl, rfl⟩ := hr6
   refine gl_upd (A := []) (r' := .var b6 27 [vB (((parQ (byt s)).2).num < 0), vn28, vd28]) (upd_store_var (k := 0) (cs := [_, _, _]) (vs := [_, _, _]) rfl rfl rfl (ocr rfl (ocu hn28 (ocu hd28 oc0))) size27 (Nat.le_of_ble_eq_true rfl)) rfl rfl rfl (asg rfl rfl (gl_nil (gq_then (gc_seq (gc_region (mv rfl rfl ?_))))))
   refine gl_call (vs := [_]) rfl rfl rfl rfl Try.call17 ⟨rfl, trivial⟩ (fun w hs => rref_parse hs (byB_byt s) (by omega)) ?_
   intro v33 h4 hh4 hr33
   obtain ⟨_, rfl, vn33, vd33, rfl, hn33, hd33⟩ := hr33
   have hlq33 := lq_par (byt s)
   refine mv rfl rfl (gv (ov_extract (vs := [_, _]) rfl rfl) rfl (gv (ov_extract (vs := [_, _]) rfl rfl) rfl (gl_newop (new_alloc (cs := [vB ((0 : Rat).num < 0), .slice none 0 0, .slice none 0 0]) info27 rfl (by simp only [zb]; rfl)) rfl rfl rfl ?_)))
   intro v8 r8 hr8
   obtain ⟨b8, rfl, rfl⟩ := hr8
   refine gl_upd (A := []) (r' := .var b8 27 [vB (((parQ (byt s)).2).num < 0), vn33, vd33]) (upd_store_var (k := 0) (cs := [_, _, _]) (vs := [_, _, _]) rfl rfl rfl (ocr rfl (ocu hn33 (ocu hd33 oc0))) size27 (Nat.le_of_ble_eq_true rfl)) rfl rfl rfl (asg rfl rfl (gl_nil (gq_keep (e' := [(5, _), (6, _), (7, _), (8, _), (9, _)]) ⟨rfl, rfl, rfl, rfl, rfl, trivial⟩ (gq_then (gc_seq ?_)))))
   refine gc_draw 19 _ [] [(0, .q), (2, .q), (1, .c), (3, .c), (4, .q), (5, .q), (6, .q), (7, .q), (8, .q), (9, .q), (10, .q), (11, .q), (12, .q), (13, .c), (14, .q), (15, .q), (16, .c), (17, .q), (18, .q)] mixed (fun x hx => by cases hx) (by kernel_rfl) (fun x hx => by cases hx) (fun r hr => hr) (w_q rfl (fun h' L' hh hR => ov_load_agg (vs := [_, _, _]) (hR _ (.tail _ (.tail _ (.head _)))) Try.underlying27 rfl size27 rfl rfl) rfl (w_q rfl (fun h' L' hh hR => ov_load_agg (vs := [_, _, _]) (hR _ (.tail _ (.tail _ (.head _)))) Try.underlying27 rfl size27 rfl rfl) rfl ?_))
   refine w_c rfl ?_
   replace hn25 := hn25.mono (hh3.trans hh4)
   replace hd25 := hd25.mono (hh3.trans hh4)
   refine s_call (vs := [_]) Try.call18 ⟨rfl, trivial⟩ (fun w hs => rat_text hs hn25 hd25 (by omega)) rfl ?_
   intro v37 h5 hh5 hr37
   subst hr37
   have htl37 := txtQ_len (numQ (sa) (xa) (ya))
   refine w_c rfl ?_
   replace hn25 := hn25.mono hh5
   replace hd25 := hd25.mono hh5
   refine s_call (vs := [_]) Try.call19 ⟨rfl, trivial⟩ (fun w hs => rref_text hs hn25 hd25 (by omega)) rfl ?_
   intro v39 h6 hh6 hr39
   subst hr39
   have htl39 := txtQ_len (numQ (sa) (xa) (ya))
   refine w_q rfl (fun h' L' hh hR => OpV.tr (by first | rfl | exact Iff.rfl | exact valid_rat _) (ov_eql_s (pa := (txtQ (numQ (sa) (xa) (ya)))) (pb := (txtQ (numQ (sa) (xa) (ya)))) (byB_txtQ (numQ (sa) (xa) (ya))) (byB_txtQ (numQ (sa) (xa) (ya))) rfl rfl)) rfl (w_q rfl (fun h' L' hh hR => ov_move rfl) rfl (w_q_on rfl rfl rfl (fun h' L' hh hR => ov_move rfl) rfl (w_q_on rfl rfl rfl (fun h' L' hh hR => ov_move rfl) rfl (w_q_on rfl rfl rfl (fun h' L' hh hR => OpV.tr (by first | rfl | exact Iff.rfl | exact valid_rat _) (ov_eql_i rfl rfl)) rfl (w_q rfl (fun h' L' hh hR => ov_pick_t rfl rfl) rfl (w_q rfl (fun h' L' hh hR => ov_move rfl) rfl (w_q_on rfl rfl rfl (fun h' L' hh hR => ov_load_agg (vs := [_, _, _]) (hR _ (.tail _ (.head _))) Try.underlying27 rfl size27 rfl rfl) rfl (w_q_on rfl rfl rfl (fun h' L' hh hR => ov_load_agg (vs := [_, _, _]) (hR _ (.head _)) Try.underlying27 rfl size27 rfl rfl) rfl ?_))))))))
   refine w_c rfl (s_on rfl rfl ?_)
   replace hn28 := hn28.mono ((hh4.trans hh5).trans hh6)
   replace hd28 := hd28.mono ((hh4.trans hh5).trans hh6)
   replace hn33 := hn33.mono (hh5.trans hh6)
   replace hd33 := hd33.mono (hh5.trans hh6)
   refine s_call (vs := [_, _]) Try.call20 ⟨rfl, rfl, trivial⟩ (fun w hs => rref_same hs hn28 hd28 hn33 hd33 (by omega) (by omega)) rfl ?_
   intro v49 h7 hh7 hr49
   rw [vB_true (by first | rfl | exact Iff.rfl | exact valid_rat _)] at hr49
   subst hr49
   refine w_q rfl (fun h' L' hh hR => ov_pick_t rfl rfl) rfl (w_q rfl (fun h' L' hh hR => ov_move rfl) rfl ?_)
   refine w_c rfl (s_on rfl rfl ?_)
   refine s_call (vs := []) Try.call14 trivial (fun w hs => law2_awake hs) rfl ?_
   intro v52 h8 hh8 hr52
   subst hr52
   refine w_q rfl (fun h' L' hh hR => ov_pick_t rfl rfl) rfl (w_q rfl (fun h' L' hh hR => ov_assign rfl) rfl (w_nil (gq_keep (e' := [(4, _)]) ⟨rfl, trivial⟩ (gq_then (gc_ret (gq_body1 rfl rfl ?_))))))
   rfl

end Go.Proofs.Ytimoeckkdodogaa
