/- Contracts of functions, walked by their text (law2b/b). -/
import Derived.Test.YtimoeckkdodogaaL2
namespace Go.Proofs.Ytimoeckkdodogaa
open Bk Go
set_option linter.unusedVariables false
set_option linter.unusedSimpArgs false
set_option maxRecDepth 10000

theorem law2_back {w0 : World} {h0 : Mem}  (hs : MLe h0 (mem w0)) {sa : Prop} {ba vna vda : Value} {xa ya : List Nat} (hba : ba = vB sa) (hna : Us .u32 h0 vna xa) (hda : Us .u32 h0 vda ya)  :
    Calls Try.prog 6 #[.agg #[ba, vna, vda]] w0 (Ret w0 h0 (fun _ r => r = .bool true)) := by
 subst hba
 have hlxa := limbs_len_le hna.lt
 have hlya := dV_len ya hda.lt
 refine calls_begin (n := 28) (e := [(0, .agg #[vB sa, vna, vda])]) (vs := [.agg #[vB sa, vna, vda]]) Try.func6 rfl rfl (Nat.le_of_ble_eq_true rfl) hs ⟨rfl, trivial⟩ (gc_seq (gc_region (gl_newop (new_box (cs := [_, _, _]) rfl rfl) rfl rfl rfl ?_)))
 intro v1 r1 hr1
 obtain ⟨b1, rfl, rfl⟩ := hr1
 refine asg rfl rfl (gl_nil (gq_then (gc_seq (gc_seq (gc_region (gv (ov_load_agg (vs := [_, _, _]) (.head _) Try.underlying24 rfl size24 rfl rfl) rfl ?_))))))
 refine gl_call (vs := [_]) rfl rfl rfl rfl Try.call13 ⟨rfl, trivial⟩ (fun w hs => law2_light hs rfl hna hda) ?_
 intro v7 h1 hh1 hr7
 subst hr7
 refine gv (ov_not rfl) rfl (gl_nil (gq_then ?_))
 refine gc_cond rfl (fun hc8 => ?_) (fun hc8 => ?_)
 ·
  refine gc_seq (gc_region ?_)
  refine gl_call (vs := []) rfl rfl rfl rfl Try.call14 trivial (fun w hs => law2_awake hs) ?_
  intro v9 h2 hh2 hr9
  subst hr9
  refine asg rfl rfl (gl_nil (gq_then (gc_ret (gr_then (gq_body1 rfl rfl ?_)))))
  rfl
 ·
  refine gc_skip (gq_then (gc_seq (gc_region (gv (ov_load_agg (vs := [_, _, _]) (.head _) Try.underlying24 rfl size24 rfl rfl) rfl ?_))))
  replace hna := hna.mono hh1
  replace hda := hda.mono hh1
  refine gl_call (vs := [_]) rfl rfl rfl rfl Try.call15 ⟨rfl, trivial⟩ (fun w hs => law2_number hs rfl hna hda (by constructor <;> omega)) ?_
  intro v11 h2 hh2 hr11
  have hlq11 := lq_numQ (sa) (xa) (ya)
  obtain ⟨vn11, vd11, rfl, hn11, hd11⟩ := hr11
  refine gl_newop (new_alloc (cs := [vB ((0 : Rat).num < 0), .slice none 0 0, .slice none 0 0]) info27 rfl (by simp only [zb]; rfl)) rfl rfl rfl ?_
  intro v3 r3 hr3
  obtain ⟨b3, rfl, rfl⟩ := hr3
  refine gl_upd (A := []) (r' := .var b3 27 [vB ((numQ (sa) (xa) (ya)).num < 0), vn11, vd11]) (upd_store_var (k := 0) (cs := [_, _, _]) (vs := [_, _, _]) rfl rfl rfl (ocr rfl (ocu hn11 (ocu hd11 oc0))) size27 (Nat.le_of_ble_eq_true rfl)) rfl rfl rfl (gl_nil (gq_then (gc_seq (gc_region (gv (ov_load_agg (vs := [_, _, _]) (.head _) Try.underlying27 rfl size27 rfl rfl) rfl ?_)))))
  refine gl_call (vs := [_]) rfl rfl rfl rfl Try.call18 ⟨rfl, trivial⟩ (fun w hs => rat_text hs hn11 hd11 (by omega)) ?_
  intro v14 h3 hh3 hr14
  subst hr14
  have htl14 := txtQ_len (numQ (sa) (xa) (ya))
  refine gl_call (vs := [_]) rfl rfl rfl rfl Try.call16 ⟨rfl, trivial⟩ (fun w hs => rat_parse hs (byB_txtQ (numQ (sa) (xa) (ya))) (by omega)) ?_
  intro v15 h4 hh4 hr15
  obtain ⟨_, rfl, vn15, vd15, rfl, hn15, hd15⟩ := hr15
  have hlq15 := lq_par (txtQ (numQ (sa) (xa) (ya)))
  refine mv rfl rfl (gv (ov_extract (vs := [_, _]) rfl rfl) rfl (gv (ov_extract (vs := [_, _]) rfl rfl) rfl (gl_newop (new_alloc (cs := [vB ((0 : Rat).num < 0), .slice none 0 0, .slice none 0 0]) info27 rfl (by simp only [zb]; rfl)) rfl rfl rfl ?_)))
  intro v4 r4 hr4
  obtain ⟨b4, rfl, rfl⟩ := hr4
  refine gl_upd (A := []) (r' := .var b4 27 [vB (((parQ (txtQ (numQ (sa) (xa) (ya)))).2).num < 0), vn15, vd15]) (upd_store_var (k := 0) (cs := [_, _, _]) (vs := [_, _, _]) rfl rfl rfl (ocr rfl (ocu hn15 (ocu hd15 oc0))) size27 (Nat.le_of_ble_eq_true rfl)) rfl rfl rfl (asg rfl rfl (gl_nil (gq_keep (e' := [(3, _), (4, _), (5, _)]) ⟨rfl, rfl, rfl, trivial⟩ (gq_then (gc_seq (gc_region (mv rfl rfl (gv (OpV.tr (by rw [par_txt (by omega)]) (ov_eql_i (q := 0) rfl rfl)) rfl (mv rfl rfl (gl_on rfl rfl rfl (gv (ov_load_agg (vs := [_, _, _]) (.head _) Try.underlying27 rfl size27 rfl rfl) rfl (gl_on rfl rfl rfl (gv (ov_load_agg (vs := [_, _, _]) (.tail _ (.head _)) Try.underlying27 rfl size27 rfl rfl) rfl ?_)))))))))))))
  refine gl_on rfl rfl rfl ?_
  replace hn11 := hn11.mono (hh3.trans hh4)
  replace hd11 := hd11.mono (hh3.trans hh4)
  refine gl_call (vs := [_, _]) rfl rfl rfl rfl Try.call29 ⟨rfl, rfl, trivial⟩ (fun w hs => rat_same hs hn15 hd15 hn11 hd11 (by omega) (by omega)) ?_
  intro v23 h5 hh5 hr23
  rw [vB_true (by rw [par_txt (by omega)])] at hr23
  subst hr23
  refine gv (ov_pick_t rfl rfl) rfl (mv rfl rfl (gl_on rfl rfl rfl ?_))
  refine gl_call (vs := []) rfl rfl rfl rfl Try.call14 trivial (fun w hs => law2_awake hs) ?_
  intro v26 h6 hh6 hr26
  subst hr26
  refine gv (ov_pick_t rfl rfl) rfl (asg rfl rfl (gl_nil (gq_keep (e' := [(2, _)]) ⟨rfl, trivial⟩ (gq_then (gc_ret (gq_body1 rfl rfl ?_))))))
  rfl

end Go.Proofs.Ytimoeckkdodogaa
