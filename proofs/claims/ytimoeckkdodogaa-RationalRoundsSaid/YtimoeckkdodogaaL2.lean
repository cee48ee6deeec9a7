/- Contracts of functions, walked by their text (law2/b). -/
import Derived.Test.YtimoeckkdodogaaR8
import Derived.Test.YtimoeckkdodogaaPar2
namespace Go.Proofs.Ytimoeckkdodogaa
open Bk Go
set_option linter.unusedVariables false
set_option linter.unusedSimpArgs false
set_option maxRecDepth 10000

theorem law2_awake {w0 : World} {h0 : Mem}  (hs : MLe h0 (mem w0))  :
    Calls Try.prog 14 #[] w0 (Ret w0 h0 (fun _ r => r = .bool true)) := by
 refine calls_begin (n := 39) (e := []) (vs := []) Try.func14 rfl rfl (Nat.le_of_ble_eq_true rfl) hs trivial (gc_seq (gc_region (asg rfl rfl (gl_nil (gq_then (gc_seq (gc_region ?_)))))))
 refine gl_call (vs := [vI (6), vI (-4)]) rfl rfl rfl rfl Try.call21 ⟨rfl, rfl, trivial⟩ (fun w hs => rat_make hs (by omega) (by omega) (by omega) (by omega)) ?_
 intro v6 h1 hh1 hr6
 obtain ⟨_, rfl, vn6, vd6, rfl, hn6, hd6⟩ := hr6
 have hlq6 := lq_make (n := (6 : Int)) (d := (-4 : Int)) (by omega) (by omega) (by omega) (by omega)
 refine mv rfl rfl (gv (ov_extract (vs := [_, _]) rfl rfl) rfl (gv (ov_extract (vs := [_, _]) rfl rfl) rfl (gl_newop (new_alloc (cs := [vB ((0 : Rat).num < 0), .slice none 0 0, .slice none 0 0]) info27 rfl (by simp only [zb]; rfl)) rfl rfl rfl ?_)))
 intro v1 r1 hr1
 obtain ⟨b1, rfl, rfl⟩ := hr1
 refine gl_upd (A := []) (r' := .var b1 27 [vB ((makeQ (6 : Int) (-4 : Int)).num < 0), vn6, vd6]) (upd_store_var (k := 0) (cs := [_, _, _]) (vs := [_, _, _]) rfl rfl rfl (ocr rfl (ocu hn6 (ocu hd6 oc0))) size27 (Nat.le_of_ble_eq_true rfl)) rfl rfl rfl (asg rfl rfl (gl_nil (gq_then (gc_seq (gc_region ?_)))))
 refine gl_call (vs := [_]) rfl rfl rfl rfl Try.call16 ⟨rfl, trivial⟩ (fun w hs => rat_parse (bs := [45, 49, 46, 50, 53, 101, 45, 49]) hs (by unfold ByB; decide) (by simp)) ?_
 intro v10 h2 hh2 hr10
 obtain ⟨_, rfl, vn10, vd10, rfl, hn10, hd10⟩ := hr10
 have hlq10 := lq_par ([45, 49, 46, 50, 53, 101, 45, 49] : List Nat)
 have e2 := ex_b
 refine mv rfl rfl (gv (ov_extract (vs := [_, _]) rfl rfl) rfl (gv (ov_extract (vs := [_, _]) rfl rfl) rfl (gl_newop (new_alloc (cs := [vB ((0 : Rat).num < 0), .slice none 0 0, .slice none 0 0]) info27 rfl (by simp only [zb]; rfl)) rfl rfl rfl ?_)))
 intro v3 r3 hr3
 obtain ⟨b3, rfl, rfl⟩ := hr3
 refine gl_upd (A := []) (r' := .var b3 27 [vB (((parQ ([45, 49, 46, 50, 53, 101, 45, 49] : List Nat)).2).num < 0), vn10, vd10]) (upd_store_var (k := 0) (cs := [_, _, _]) (vs := [_, _, _]) rfl rfl rfl (ocr rfl (ocu hn10 (ocu hd10 oc0))) size27 (Nat.le_of_ble_eq_true rfl)) rfl rfl rfl (asg rfl rfl (gl_nil (gq_then (gc_seq (gc_region (mv rfl rfl (gv (OpV.tr (by first | rfl | exact Iff.rfl | exact valid_rat _) (ov_eql_i (q := 0) rfl rfl)) rfl (mv rfl rfl (gl_on rfl rfl rfl (mv rfl rfl (gl_on rfl rfl rfl (gv (OpV.tr (by rw [ex_b]) (ov_eql_i (q := 0) rfl rfl)) rfl (gv (ov_pick_t rfl rfl) rfl ?_)))))))))))))
 refine mv rfl rfl (gl_on rfl rfl rfl (gv (ov_load_agg (vs := [_, _, _]) (.tail _ (.head _)) Try.underlying27 rfl size27 rfl rfl) rfl (gl_on rfl rfl rfl ?_)))
 replace hn6 := hn6.mono hh2
 replace hd6 := hd6.mono hh2
 refine gl_call (vs := [_]) rfl rfl rfl rfl Try.call18 ⟨rfl, trivial⟩ (fun w hs => rat_text hs hn6 hd6 (by omega)) ?_
 intro v21 h3 hh3 hr21
 subst hr21
 have htl21 := txtQ_len (makeQ (6 : Int) (-4 : Int))
 refine gl_on rfl rfl rfl (gv (OpV.tr (by exact ex_t1) (ov_eql_s (pa := (txtQ (makeQ (6 : Int) (-4 : Int)))) (pb := ([45, 51, 47, 50] : List Nat)) (byB_txtQ (makeQ (6 : Int) (-4 : Int))) (show ByB [45, 51, 47, 50] by unfold ByB; decide) rfl rfl)) rfl (gv (ov_pick_t rfl rfl) rfl (mv rfl rfl (gl_on rfl rfl rfl (gv (ov_load_agg (vs := [_, _, _]) (.head _) Try.underlying27 rfl size27 rfl rfl) rfl (gl_on rfl rfl rfl ?_))))))
 replace hn10 := hn10.mono hh3
 replace hd10 := hd10.mono hh3
 refine gl_call (vs := [_]) rfl rfl rfl rfl Try.call18 ⟨rfl, trivial⟩ (fun w hs => rat_text hs hn10 hd10 (by omega)) ?_
 intro v26 h4 hh4 hr26
 subst hr26
 have htl26 := txtQ_len ((parQ ([45, 49, 46, 50, 53, 101, 45, 49] : List Nat)).2)
 refine gl_on rfl rfl rfl (gv (OpV.tr (by exact ex_t2) (ov_eql_s (pa := (txtQ ((parQ ([45, 49, 46, 50, 53, 101, 45, 49] : List Nat)).2))) (pb := ([45, 49, 47, 56] : List Nat)) (byB_txtQ ((parQ ([45, 49, 46, 50, 53, 101, 45, 49] : List Nat)).2)) (show ByB [45, 49, 47, 56] by unfold ByB; decide) rfl rfl)) rfl (gv (ov_pick_t rfl rfl) rfl (mv rfl rfl (gl_on rfl rfl rfl (gv (ov_load_agg (vs := [_, _, _]) (.tail _ (.head _)) Try.underlying27 rfl size27 rfl rfl) rfl (gl_on rfl rfl rfl ?_))))))
 replace hn6 := hn6.mono (hh3.trans hh4)
 replace hd6 := hd6.mono (hh3.trans hh4)
 refine gl_call (vs := [_]) rfl rfl rfl rfl Try.call30 ⟨rfl, trivial⟩ (fun w hs => rat_floor hs hn6 hd6 (by omega)) ?_
 intro v31 h5 hh5 hr31
 obtain ⟨vn31, vd31, rfl, hn31, hd31⟩ := hr31
 have hlq31 := lq_floor (makeQ (6 : Int) (-4 : Int))
 refine gl_on rfl rfl rfl ?_
 refine gl_call (vs := [_]) rfl rfl rfl rfl Try.call18 ⟨rfl, trivial⟩ (fun w hs => rat_text hs hn31 hd31 (by omega)) ?_
 intro v32 h6 hh6 hr32
 subst hr32
 have htl32 := txtQ_len (floorQ (makeQ (6 : Int) (-4 : Int)))
 refine gl_on rfl rfl rfl (gv (OpV.tr (by exact ex_t3) (ov_eql_s (pa := (txtQ (floorQ (makeQ (6 : Int) (-4 : Int))))) (pb := ([45, 50] : List Nat)) (byB_txtQ (floorQ (makeQ (6 : Int) (-4 : Int)))) (show ByB [45, 50] by unfold ByB; decide) rfl rfl)) rfl (gv (ov_pick_t rfl rfl) rfl (mv rfl rfl (gl_on rfl rfl rfl (gv (ov_load_agg (vs := [_, _, _]) (.tail _ (.head _)) Try.underlying27 rfl size27 rfl rfl) rfl (gl_on rfl rfl rfl ?_))))))
 replace hn6 := hn6.mono (hh5.trans hh6)
 replace hd6 := hd6.mono (hh5.trans hh6)
 refine gl_call (vs := [_]) rfl rfl rfl rfl Try.call27 ⟨rfl, trivial⟩ (fun w hs => rat_valid hs rfl hn6 hd6 (by first | omega | exact Nat.le_trans (lq_num _) (by omega)) (by first | omega | exact Nat.le_trans (lq_denL _) (by omega))) ?_
 intro v37 h7 hh7 hr37
 rw [vB_true (by first | rfl | exact Iff.rfl | exact valid_rat _)] at hr37
 subst hr37
 refine gv (ov_pick_t rfl rfl) rfl (asg rfl rfl (gl_nil (gq_keep (e' := [(0, _)]) ⟨rfl, trivial⟩ (gq_then (gc_ret (gq_body1 rfl rfl ?_))))))
 rfl

theorem law2_light {w0 : World} {h0 : Mem}  (hs : MLe h0 (mem w0)) {sa : Prop} {ba vna vda : Value} {xa ya : List Nat} (hba : ba = vB sa) (hna : Us .u32 h0 vna xa) (hda : Us .u32 h0 vda ya) :
    Calls Try.prog 13 #[.agg #[ba, vna, vda]] w0 (Ret w0 h0 (fun _ r => r = vB ((↑xa.length : Int) ≤ 16 ∧ (↑ya.length : Int) ≤ 16))) := by
 subst hba
 refine calls_begin (n := 13) (e := [(0, .agg #[vB sa, vna, vda])]) (vs := [.agg #[vB sa, vna, vda]]) Try.func13 rfl rfl (Nat.le_of_ble_eq_true rfl) hs ⟨rfl, trivial⟩ (gc_seq (gc_region (gl_newop (new_box (cs := [_, _, _]) rfl rfl) rfl rfl rfl ?_)))
 intro v1 r1 hr1
 obtain ⟨b1, rfl, rfl⟩ := hr1
 refine asg rfl rfl (gl_nil (gq_then (gc_seq (gc_region (gv (ov_field_addr Try.underlying24 rfl Try.sizeOf22 rfl) rfl (gv (ov_load_var (.head _) Try.isAgg22 rfl rfl) rfl (gv (ov_len_us Try.underlying22 rfl hna) rfl (gv (ov_leq_i (q := 16) rfl rfl) rfl ?_))))))))
 refine gl_cut (ι := Unit) 6 (fun _ => True) (fun _ => [(12, vB (((↑(xa).length : Int) ≤ (16 : Int)) ∧ ((↑(ya).length : Int) ≤ (16 : Int))))]) (fun _ => [.var b1 24 [vB sa, vna, vda]]) (fun _ => h0) ?_ ?_
 ·
  refine gl_cases ((↑(xa).length : Int) ≤ (16 : Int)) (fun hg => ?_) (fun hg => ?_)
  ·
   refine gl_val (ov_move (v := .bool true) (congrArg some (vB_true hg))) rfl rfl rfl (gl_on rfl rfl rfl (gv (ov_field_addr Try.underlying24 rfl Try.sizeOf22 rfl) rfl (gl_on rfl rfl rfl (gv (ov_load_var (.head _) Try.isAgg22 rfl rfl) rfl (gl_on rfl rfl rfl (gv (ov_len_us Try.underlying22 rfl hda) rfl (gl_on rfl rfl rfl (gv (ov_leq_i (q := 16) rfl rfl) rfl (gv (ov_pick_t rfl rfl) rfl (gl_nil ?_))))))))))
   refine gq_cut () trivial ⟨?_, trivial⟩ rfl rfl
   exact congrArg some (vB_and_t hg)
  ·
   refine gl_val (ov_move (v := .bool false) (congrArg some (vB_false hg))) rfl rfl rfl (gl_off rfl rfl rfl rfl rfl rfl (gl_off rfl rfl rfl rfl rfl rfl (gl_off rfl rfl rfl rfl rfl rfl (gl_off rfl rfl rfl rfl rfl rfl (gv (ov_pick_f rfl rfl) rfl (gl_nil ?_))))))
   refine gq_cut () trivial ⟨?_, trivial⟩ rfl rfl
   exact congrArg some (vB_and_f hg)
 ·
  intro _ _
  show GL _ _ _ _ _ _ _ [(12, vB (((↑(xa).length : Int) ≤ (16 : Int)) ∧ ((↑(ya).length : Int) ≤ (16 : Int))))] [.var b1 24 [vB sa, vna, vda]] h0
  refine asg rfl rfl (gl_nil (gq_then (gc_ret (gq_body1 rfl rfl ?_))))
  rfl

theorem law2_number {w0 : World} {h0 : Mem}  (hs : MLe h0 (mem w0)) {sa : Prop} {ba vna vda : Value} {xa ya : List Nat} (hba : ba = vB sa) (hna : Us .u32 h0 vna xa) (hda : Us .u32 h0 vda ya) (hl : (↑xa.length : Int) ≤ 16 ∧ (↑ya.length : Int) ≤ 16) :
    Calls Try.prog 15 #[.agg #[ba, vna, vda]] w0 (Ret w0 h0 (fun h r => IsRat h r (numQ sa xa ya))) := by
 subst hba
 refine calls_begin (n := 10) (e := [(0, .agg #[vB sa, vna, vda])]) (vs := [.agg #[vB sa, vna, vda]]) Try.func15 rfl rfl (Nat.le_of_ble_eq_true rfl) hs ⟨rfl, trivial⟩ (gc_seq (gc_region (gl_newop (new_box (cs := [_, _, _]) rfl rfl) rfl rfl rfl ?_)))
 intro v1 r1 hr1
 obtain ⟨b1, rfl, rfl⟩ := hr1
 refine gl_newop (new_alloc (cs := [vB ((0 : Rat).num < 0), .slice none 0 0, .slice none 0 0]) info27 rfl (by simp only [zb]; rfl)) rfl rfl rfl ?_
 intro v2 r2 hr2
 obtain ⟨b2, rfl, rfl⟩ := hr2
 refine gl_nil (gq_then (gc_seq (gc_region (gv (ov_field_addr Try.underlying24 rfl Try.sizeOf4 rfl) rfl (gv (ov_load_var (.tail _ (.head _)) Try.isAgg4 rfl rfl) rfl (gv (ov_field_addr Try.underlying24 rfl Try.sizeOf22 rfl) rfl (gv (ov_load_var (.tail _ (.head _)) Try.isAgg22 rfl rfl) rfl (gv (ov_field_addr Try.underlying24 rfl Try.sizeOf22 rfl) rfl (gv (ov_load_var (.tail _ (.head _)) Try.isAgg22 rfl rfl) rfl ?_)))))))))
 refine gl_call (vs := [_, _, _]) rfl rfl rfl rfl Try.call60 ⟨rfl, rfl, rfl, trivial⟩ (fun w hs => made_num hs hna hda (by omega) (by omega)) ?_
 intro v9 h1 hh1 hr9
 have hlq9 := lq_numQ (sa) (xa) (ya)
 obtain ⟨vn9, vd9, rfl, hn9, hd9⟩ := hr9
 refine gl_upd (A := []) (r' := .var b2 27 [vB ((numQ (sa) (xa) (ya)).num < 0), vn9, vd9]) (upd_store_var (k := 0) (cs := [_, _, _]) (vs := [_, _, _]) rfl rfl rfl (ocr rfl (ocu hn9 (ocu hd9 oc0))) size27 (Nat.le_of_ble_eq_true rfl)) rfl rfl rfl (gl_nil (gq_then (gc_ret (gq_res (fun E S => run_res1 rfl (rv_agg (cs := [_, _, _]) (.head _) Try.underlying27 rfl size27 rfl) E S) ?_))))
 exact ⟨_, _, rfl, hn9, hd9⟩

end Go.Proofs.Ytimoeckkdodogaa
