/- Contracts of functions, walked by their text (nat6). -/
import Derived.Test.YtoionddicppahaaW5
namespace Go.Proofs.Ytoionddicppahaa
open Bk Go
set_option linter.unusedVariables false
set_option linter.unusedSimpArgs false

theorem nat_gcd {w0 : World} {h0 : Mem}  (hs : MLe h0 (mem w0)) {v v' : Value} {xs ys : List Nat} (hv : Us .u32 h0 v xs) (hv' : Us .u32 h0 v' ys) (hl : xs.length ≤ 1099511627776) (hl' : ys.length ≤ 1099511627776) :
    Calls Try.prog 34 #[v, v'] w0 (Ret w0 h0 (fun h r => Us .u32 h r (limbs (Nat.gcd (val xs) (val ys))))) := by
  have hlx := limbs_len_le hv.lt
  have hly := limbs_len_le hv'.lt
  obtain ⟨G, hG⟩ : ∃ G, G = Nat.gcd (val xs) (val ys) := ⟨_, rfl⟩
  rw [← hG]
  refine calls_begin (n := 61) (e := [(0, v), (1, v')]) (vs := [v, v']) Try.func34 rfl rfl (Nat.le_of_ble_eq_true rfl) hs ⟨rfl, rfl, trivial⟩ ?_
  refine gc_seq ?_
  refine gc_region ?_  -- region 0 (line 188)
  refine gl_val (ov_assign rfl) rfl rfl rfl ?_
  refine gl_nil ?_
  refine gq_keep (e' := [(0, _), (1, _)]) ⟨rfl, rfl, trivial⟩ ?_
  refine gq_then ?_
  refine gc_seq ?_
  refine gc_region ?_  -- region 1 (line 189)
  refine gl_val (ov_move rfl) rfl rfl rfl ?_
  refine gl_call (vs := [_]) rfl rfl rfl rfl Try.call40 ⟨rfl, trivial⟩ (fun w hs => nat_trim hs hv) ?_
  intro v16 h1 hh1 hr16
  replace hv := hv.mono hh1
  replace hv' := hv'.mono hh1
  replace hr16 := hr16.2
  refine gl_call_own (vs := [_]) rfl rfl rfl rfl Try.call43 ⟨rfl, trivial⟩ (fun w hs => sl_clone hs hr16 (by omega)) ?_
  intro v17 h2 L17 hh2 hr17
  replace hv := hv.mono hh2
  replace hv' := hv'.mono hh2
  replace hr16 := hr16.mono hh2
  obtain rfl := hr17
  refine gl_freeze_us0 (by exact fit_limbs _) ?_
  intro h3 hh3 hcx
  replace hv := hv.mono hh3
  replace hv' := hv'.mono hh3
  replace hr16 := hr16.mono hh3
  refine gl_val (ov_move rfl) rfl rfl rfl ?_
  refine gl_call (vs := [_]) rfl rfl rfl rfl Try.call40 ⟨rfl, trivial⟩ (fun w hs => nat_trim hs hv') ?_
  intro v19 h4 hh4 hr19
  replace hv := hv.mono hh4
  replace hv' := hv'.mono hh4
  replace hr16 := hr16.mono hh4
  replace hcx := hcx.mono hh4
  replace hr19 := hr19.2
  refine gl_call_own (vs := [_]) rfl rfl rfl rfl Try.call43 ⟨rfl, trivial⟩ (fun w hs => sl_clone hs hr19 (by omega)) ?_
  intro v20 h5 L20 hh5 hr20
  replace hv := hv.mono hh5
  replace hv' := hv'.mono hh5
  replace hr16 := hr16.mono hh5
  replace hcx := hcx.mono hh5
  replace hr19 := hr19.mono hh5
  obtain rfl := hr20
  refine gl_freeze_us0 (by exact fit_limbs _) ?_
  intro h6 hh6 hcy
  replace hv := hv.mono hh6
  replace hv' := hv'.mono hh6
  replace hr16 := hr16.mono hh6
  replace hcx := hcx.mono hh6
  replace hr19 := hr19.mono hh6
  refine gl_val (ov_assign rfl) rfl rfl rfl ?_
  refine gl_val (ov_assign rfl) rfl rfl rfl ?_
  refine gl_nil ?_
  refine gq_keep (e' := [(5, _), (6, _)]) ⟨rfl, rfl, trivial⟩ ?_
  refine gq_then ?_
  refine gc_seq ?_
  refine gc_block ?_
  refine gc_loop (ι := Value × Nat × Value × Nat × Mem) (fun (x_ : (Value × Nat × Value × Nat × Mem)) => match x_ with | (vx, X, vy, Y, k1) => MLe h6 k1 ∧ (Us .u32 k1 vx (limbs X) ∧ Us .u32 k1 vy (limbs Y) ∧ Nat.gcd X Y = G ∧ (limbs X).length ≤ 1099511627776 ∧ (limbs Y).length ≤ 1099511627776)) (fun (x_ : (Value × Nat × Value × Nat × Mem)) => match x_ with | (vx, X, vy, Y, k1) => [(5, vx), (6, vy)]) (fun (x_ : (Value × Nat × Value × Nat × Mem)) => match x_ with | (vx, X, vy, Y, k1) => []) (fun (x_ : (Value × Nat × Value × Nat × Mem)) => match x_ with | (vx, X, vy, Y, k1) => k1) (fun (x_ : (Value × Nat × Value × Nat × Mem)) => match x_ with | (vx, X, vy, Y, k1) => Y) (v17, val xs, v20, val ys, h6) ?_ ⟨rfl, rfl, trivial⟩ rfl rfl ?_
  · skip
    refine ⟨MLe.refl _, ?_⟩
    exact ⟨hcx, hcy, hG.symm, by omega, by omega⟩
  · skip
    intro x hx
    obtain ⟨vx, X, vy, Y, k1⟩ := x
    obtain ⟨hmk1, ⟨ha, hb, hg, hlX, hlY⟩⟩ := hx
    replace hv := hv.mono hmk1
    replace hv' := hv'.mono hmk1
    replace hr16 := hr16.mono hmk1
    replace hcx := hcx.mono hmk1
    replace hr19 := hr19.mono hmk1
    replace hcy := hcy.mono hmk1
    show GC _ _ _ _ _ _ [(5, vx), (6, vy)] [] k1
    refine gc_seq ?_
    refine gc_seq ?_
    refine gc_region ?_  -- region 2 (line 190)
    refine gl_val (ov_move rfl) rfl rfl rfl ?_
    refine gl_val (ov_len_us Try.underlying22 rfl hb) rfl rfl rfl ?_
    refine gl_val (ov_gtr_i (q := 2) rfl rfl) rfl rfl rfl ?_
    refine gl_nil ?_
    refine gq_keep (e' := [(5, _), (6, _), (23, _)]) ⟨rfl, rfl, rfl, trivial⟩ ?_
    refine gq_then ?_
    refine gc_cond rfl (fun hc23 => ?_) (fun hc23 => ?_)
    · skip
      refine gc_keep (e' := [(5, _), (6, _)]) ⟨rfl, rfl, trivial⟩ ?_
      refine gc_skip ?_
      refine gq_then ?_
      refine gc_block ?_
      refine gc_seq ?_
      refine gc_region ?_  -- region 3 (line 191)
      refine gl_val (ov_move rfl) rfl rfl rfl ?_
      refine gl_val (ov_move rfl) rfl rfl rfl ?_
      have hY0 : Y ≠ 0 := limbs_len_pos.1 (by omega)
      refine gl_call (vs := [_, _]) rfl rfl rfl rfl Try.call32 ⟨rfl, rfl, trivial⟩ (fun w hs => nat_div hs ha hb (by omega) (by omega)) ?_
      intro v27 h7 hh7 hr27
      replace hv := hv.mono hh7
      replace hv' := hv'.mono hh7
      replace hr16 := hr16.mono hh7
      replace hcx := hcx.mono hh7
      replace hr19 := hr19.mono hh7
      replace hcy := hcy.mono hh7
      replace ha := ha.mono hh7
      replace hb := hb.mono hh7
      obtain ⟨q27, r27, rfl, hq27, hr27⟩ := hr27
      simp only [val_limbs] at hq27 hr27
      rw [if_neg hY0] at hr27
      have hlm := limbs_len_mono (Nat.le_of_lt (Nat.mod_lt X (Nat.pos_of_ne_zero hY0)))
      refine gl_val (ov_move rfl) rfl rfl rfl ?_
      refine gl_val (ov_extract (vs := [_, _, _]) rfl rfl) rfl rfl rfl ?_
      refine gl_val (ov_extract (vs := [_, _, _]) rfl rfl) rfl rfl rfl ?_
      refine gl_val (ov_extract (vs := [_, _, _]) rfl rfl) rfl rfl rfl ?_
      refine gl_val (ov_assign rfl) rfl rfl rfl ?_
      refine gl_val (ov_assign rfl) rfl rfl rfl ?_
      refine gl_val (ov_assign rfl) rfl rfl rfl ?_
      refine gl_nil ?_
      refine gq_keep (e' := [(6, _), (8, _)]) ⟨rfl, rfl, trivial⟩ ?_
      refine gq_then ?_
      refine gc_region ?_  -- region 4 (line 192)
      refine gl_val (ov_move rfl) rfl rfl rfl ?_
      refine gl_val (ov_move rfl) rfl rfl rfl ?_
      refine gl_val (ov_assign rfl) rfl rfl rfl ?_
      refine gl_val (ov_assign rfl) rfl rfl rfl ?_
      refine gl_nil ?_
      refine gq_in ?_
      refine gq_round (vy, Y, r27, X % Y, h7) ?_ ?_ ⟨?_, ?_, trivial⟩ ?_ rfl
      · skip
        refine ⟨(hmk1.trans hh7), ?_⟩
        exact ⟨hb, hr27, by rw [gcd_step]; exact hg, hlY, by omega⟩
      · skip
        dsimp only
        exact Nat.mod_lt _ (Nat.pos_of_ne_zero hY0)
      · exact rfl
      · exact rfl
      · exact rfl
    · skip
      refine gc_keep (e' := [(5, _), (6, _)]) ⟨rfl, rfl, trivial⟩ ?_
      refine gc_exit ?_
      refine gx_then ?_
      refine gx_then ?_
      refine gx_here ?_
      refine gq_then ?_
      refine gc_seq ?_
      refine gc_seq ?_
      refine gc_region ?_  -- region 5 (line 194)
      refine gl_val (ov_move rfl) rfl rfl rfl ?_
      refine gl_val (ov_len_us Try.underlying22 rfl hb) rfl rfl rfl ?_
      refine gl_val (ov_eql_i (q := 0) rfl rfl) rfl rfl rfl ?_
      refine gl_nil ?_
      refine gq_keep (e' := [(5, _), (6, _), (35, _)]) ⟨rfl, rfl, rfl, trivial⟩ ?_
      refine gq_then ?_
      refine gc_cond rfl (fun hc35 => ?_) (fun hc35 => ?_)
      · skip
        have hY0 : Y = 0 := Classical.byContradiction fun hne => by have := limbs_len_pos.2 hne; omega
        refine gc_keep (e' := [(5, _)]) ⟨rfl, trivial⟩ ?_
        refine gc_seq ?_
        refine gc_region ?_  -- region 6 (line 195)
        refine gl_val (ov_move rfl) rfl rfl rfl ?_
        refine gl_val (ov_assign rfl) rfl rfl rfl ?_
        refine gl_nil ?_
        refine gq_keep (e' := [(4, _)]) ⟨rfl, trivial⟩ ?_
        refine gq_then ?_
        refine gc_ret ?_
        refine gr_then ?_
        refine gq_body1 rfl rfl ?_
        rw [hY0, Nat.gcd_zero_right] at hg
        rw [← hg]
        exact ha
      · skip
        have hY0 : Y ≠ 0 := limbs_len_pos.1 (by omega)
        refine gc_keep (e' := [(5, _), (6, _)]) ⟨rfl, rfl, trivial⟩ ?_
        refine gc_skip ?_
        refine gq_then ?_
        refine gc_cut (ι := Value × Nat × Value × Nat × Mem) (fun (x_ : (Value × Nat × Value × Nat × Mem)) => match x_ with | (vx2, X2, vy2, Y2, k2) => MLe k1 k2 ∧ (Us .u32 k2 vx2 (limbs X2) ∧ Us .u32 k2 vy2 (limbs Y2) ∧ Nat.gcd X2 Y2 = G ∧ (limbs X2).length ≤ 2 ∧ (limbs Y2).length ≤ 2)) (fun (x_ : (Value × Nat × Value × Nat × Mem)) => match x_ with | (vx2, X2, vy2, Y2, k2) => [(5, vx2), (6, vy2)]) (fun (x_ : (Value × Nat × Value × Nat × Mem)) => match x_ with | (vx2, X2, vy2, Y2, k2) => []) (fun (x_ : (Value × Nat × Value × Nat × Mem)) => match x_ with | (vx2, X2, vy2, Y2, k2) => k2) ?_ ?_
        · skip
          refine gc_seq ?_
          refine gc_region ?_  -- region 7 (line 197)
          refine gl_val (ov_move rfl) rfl rfl rfl ?_
          refine gl_val (ov_len_us Try.underlying22 rfl ha) rfl rfl rfl ?_
          refine gl_val (ov_gtr_i (q := 2) rfl rfl) rfl rfl rfl ?_
          refine gl_nil ?_
          refine gq_keep (e' := [(5, _), (6, _), (39, _)]) ⟨rfl, rfl, rfl, trivial⟩ ?_
          refine gq_then ?_
          refine gc_cond rfl (fun hc39 => ?_) (fun hc39 => ?_)
          · skip
            refine gc_keep (e' := [(5, _), (6, _)]) ⟨rfl, rfl, trivial⟩ ?_
            refine gc_seq ?_
            refine gc_region ?_  -- region 8 (line 198)
            refine gl_val (ov_move rfl) rfl rfl rfl ?_
            refine gl_val (ov_move rfl) rfl rfl rfl ?_
            refine gl_call (vs := [_, _]) rfl rfl rfl rfl Try.call32 ⟨rfl, rfl, trivial⟩ (fun w hs => nat_div hs ha hb (by omega) (by omega)) ?_
            intro v43 h7 hh7 hr43
            replace hv := hv.mono hh7
            replace hv' := hv'.mono hh7
            replace hr16 := hr16.mono hh7
            replace hcx := hcx.mono hh7
            replace hr19 := hr19.mono hh7
            replace hcy := hcy.mono hh7
            replace ha := ha.mono hh7
            replace hb := hb.mono hh7
            obtain ⟨q43, r43, rfl, hq43, hr43⟩ := hr43
            simp only [val_limbs] at hq43 hr43
            rw [if_neg hY0] at hr43
            have hlm := limbs_len_mono (Nat.le_of_lt (Nat.mod_lt X (Nat.pos_of_ne_zero hY0)))
            refine gl_val (ov_move rfl) rfl rfl rfl ?_
            refine gl_val (ov_extract (vs := [_, _, _]) rfl rfl) rfl rfl rfl ?_
            refine gl_val (ov_extract (vs := [_, _, _]) rfl rfl) rfl rfl rfl ?_
            refine gl_val (ov_extract (vs := [_, _, _]) rfl rfl) rfl rfl rfl ?_
            refine gl_val (ov_assign rfl) rfl rfl rfl ?_
            refine gl_val (ov_assign rfl) rfl rfl rfl ?_
            refine gl_val (ov_assign rfl) rfl rfl rfl ?_
            refine gl_nil ?_
            refine gq_keep (e' := [(6, _), (11, _)]) ⟨rfl, rfl, trivial⟩ ?_
            refine gq_then ?_
            refine gc_region ?_  -- region 9 (line 199)
            refine gl_val (ov_move rfl) rfl rfl rfl ?_
            refine gl_val (ov_move rfl) rfl rfl rfl ?_
            refine gl_val (ov_assign rfl) rfl rfl rfl ?_
            refine gl_val (ov_assign rfl) rfl rfl rfl ?_
            refine gl_nil ?_
            refine gq_cut (vy, Y, r43, X % Y, h7) ?_ ⟨?_, ?_, trivial⟩ ?_ rfl
            · skip
              refine ⟨hh7, ?_⟩
              exact ⟨hb, hr43, by rw [gcd_step]; exact hg, by omega, by omega⟩
            · exact rfl
            · exact rfl
            · exact rfl
          · skip
            refine gc_keep (e' := [(5, _), (6, _)]) ⟨rfl, rfl, trivial⟩ ?_
            refine gc_skip ?_
            refine gq_cut (vx, X, vy, Y, k1) ?_ ⟨?_, ?_, trivial⟩ ?_ rfl
            · skip
              refine ⟨MLe.refl _, ?_⟩
              exact ⟨ha, hb, hg, by omega, by omega⟩
            · exact rfl
            · exact rfl
            · exact rfl
        · skip
          intro x hx
          obtain ⟨vx2, X2, vy2, Y2, k2⟩ := x
          obtain ⟨hmk2, ⟨ha2, hb2, hg2, hx2, hy2⟩⟩ := hx
          replace hv := hv.mono hmk2
          replace hv' := hv'.mono hmk2
          replace hr16 := hr16.mono hmk2
          replace hcx := hcx.mono hmk2
          replace hr19 := hr19.mono hmk2
          replace hcy := hcy.mono hmk2
          replace ha := ha.mono hmk2
          replace hb := hb.mono hmk2
          show GC _ _ _ _ _ _ [(5, vx2), (6, vy2)] [] k2
          refine gc_seq ?_
          refine gc_region ?_  -- region 10 (line 201)
          refine gl_val (ov_move rfl) rfl rfl rfl ?_
          refine gl_call (vs := [_]) rfl rfl rfl rfl Try.call54 ⟨rfl, trivial⟩ (fun w hs => nat_word hs ha2 (by omega)) ?_
          intro v50 h7 hh7 hr50
          replace hv := hv.mono hh7
          replace hv' := hv'.mono hh7
          replace hr16 := hr16.mono hh7
          replace hcx := hcx.mono hh7
          replace hr19 := hr19.mono hh7
          replace hcy := hcy.mono hh7
          replace ha := ha.mono hh7
          replace hb := hb.mono hh7
          replace ha2 := ha2.mono hh7
          replace hb2 := hb2.mono hh7
          subst hr50
          rw [val_limbs]
          have hwx := lt_word hx2
          refine gl_val (ov_move rfl) rfl rfl rfl ?_
          refine gl_call (vs := [_]) rfl rfl rfl rfl Try.call54 ⟨rfl, trivial⟩ (fun w hs => nat_word hs hb2 (by omega)) ?_
          intro v52 h8 hh8 hr52
          replace hv := hv.mono hh8
          replace hv' := hv'.mono hh8
          replace hr16 := hr16.mono hh8
          replace hcx := hcx.mono hh8
          replace hr19 := hr19.mono hh8
          replace hcy := hcy.mono hh8
          replace ha := ha.mono hh8
          replace hb := hb.mono hh8
          replace ha2 := ha2.mono hh8
          replace hb2 := hb2.mono hh8
          subst hr52
          rw [val_limbs]
          have hwy := lt_word hy2
          refine gl_val (ov_assign rfl) rfl rfl rfl ?_
          refine gl_val (ov_assign rfl) rfl rfl rfl ?_
          refine gl_nil ?_
          refine gq_keep (e' := [(13, _), (14, _)]) ⟨rfl, rfl, trivial⟩ ?_
          refine gq_then ?_
          refine gc_seq ?_
          refine gc_block ?_
          refine gc_loop (ι := Nat × Nat) (fun (x_ : (Nat × Nat)) => match x_ with | (m, n) => Nat.gcd m n = G ∧ m < 18446744073709551616 ∧ n < 18446744073709551616) (fun (x_ : (Nat × Nat)) => match x_ with | (m, n) => [(13, vU .u64 m), (14, vU .u64 n)]) (fun (x_ : (Nat × Nat)) => match x_ with | (m, n) => []) (fun (x_ : (Nat × Nat)) => match x_ with | (m, n) => h8) (fun (x_ : (Nat × Nat)) => match x_ with | (m, n) => n) (X2, Y2) ?_ ⟨rfl, rfl, trivial⟩ rfl rfl ?_
          · skip
            exact ⟨hg2, hwx, hwy⟩
          · skip
            intro x hx
            obtain ⟨m, n⟩ := x
            obtain ⟨hg3, hm, hn⟩ := hx
            show GC _ _ _ _ _ _ [(13, vU .u64 m), (14, vU .u64 n)] [] h8
            refine gc_seq ?_
            refine gc_seq ?_
            refine gc_region ?_  -- region 11 (line 202)
            refine gl_val (ov_move rfl) rfl rfl rfl ?_
            refine gl_val (ov_neq_u (k := .u64) (q := 0) rfl rfl) rfl rfl rfl ?_
            refine gl_nil ?_
            refine gq_keep (e' := [(13, _), (14, _), (54, _)]) ⟨rfl, rfl, rfl, trivial⟩ ?_
            refine gq_then ?_
            refine gc_cond rfl (fun hc54 => ?_) (fun hc54 => ?_)
            · skip
              refine gc_keep (e' := [(13, _), (14, _)]) ⟨rfl, rfl, trivial⟩ ?_
              refine gc_skip ?_
              refine gq_then ?_
              refine gc_block ?_
              refine gc_draw 6 _ [] [(0, .q), (1, .q), (2, .q), (3, .q), (4, .q), (5, .q)] mixed (fun x hx => by cases hx) (by kernel_rfl) (fun x hx => by cases hx) (fun r hr => hr) ?_  -- region 12 (line 203)
              refine w_q rfl (fun h' L' hh hR => ov_move rfl) rfl ?_
              refine w_q rfl (fun h' L' hh hR => ov_move rfl) rfl ?_
              refine w_q rfl (fun h' L' hh hR => ov_move rfl) rfl ?_
              refine w_q rfl (fun h' L' hh hR => ov_rem_u (k := .u64) rfl rfl (by omega)) rfl ?_
              refine w_q rfl (fun h' L' hh hR => ov_assign rfl) rfl ?_
              refine w_q rfl (fun h' L' hh hR => ov_assign rfl) rfl ?_
              refine w_nil ?_
              refine gq_in ?_
              refine gq_round (n, m % n) ?_ ?_ ⟨?_, ?_, trivial⟩ ?_ rfl
              · skip
                have hlt := Nat.mod_lt m (Nat.pos_of_ne_zero hc54)
                exact ⟨by rw [gcd_step]; exact hg3, hn, by omega⟩
              · skip
                dsimp only
                exact Nat.mod_lt _ (Nat.pos_of_ne_zero hc54)
              · exact rfl
              · exact rfl
              · exact rfl
            · skip
              refine gc_keep (e' := [(13, _)]) ⟨rfl, trivial⟩ ?_
              refine gc_exit ?_
              refine gx_then ?_
              refine gx_then ?_
              refine gx_here ?_
              refine gq_then ?_
              refine gc_seq ?_
              refine gc_region ?_  -- region 13 (line 205)
              refine gl_val (ov_move rfl) rfl rfl rfl ?_
              refine gl_call (vs := [_]) rfl rfl rfl rfl Try.call21 ⟨rfl, trivial⟩ (fun w hs => nat_of hs (by omega)) ?_
              intro v60 h9 hh9 hr60
              replace hv := hv.mono hh9
              replace hv' := hv'.mono hh9
              replace hr16 := hr16.mono hh9
              replace hcx := hcx.mono hh9
              replace hr19 := hr19.mono hh9
              replace hcy := hcy.mono hh9
              replace ha := ha.mono hh9
              replace hb := hb.mono hh9
              replace ha2 := ha2.mono hh9
              replace hb2 := hb2.mono hh9
              refine gl_val (ov_assign rfl) rfl rfl rfl ?_
              refine gl_nil ?_
              refine gq_keep (e' := [(4, _)]) ⟨rfl, trivial⟩ ?_
              refine gq_then ?_
              refine gc_ret ?_
              refine gq_body1 rfl rfl ?_
              have hn0 : n = 0 := Classical.not_not.1 hc54
              rw [hn0, Nat.gcd_zero_right] at hg3
              rw [← hg3]
              exact hr60

theorem ref_of {w0 : World} {h0 : Mem}  (hs : MLe h0 (mem w0)) {n : Nat} (hn : n < 18446744073709551616) :
    Calls Try.prog 22 #[vU .u64 n] w0 (Ret w0 h0 (fun h r => Us .u32 h r (limbs n))) := by
  refine calls_begin (n := 10) (e := [(0, vU .u64 n)]) (vs := [vU .u64 n]) Try.func22 rfl rfl (Nat.le_of_ble_eq_true rfl) hs ⟨rfl, trivial⟩ ?_
  refine gc_seq ?_
  refine gc_region ?_  -- region 0 (line 19)
  refine gl_val (ov_assign rfl) rfl rfl rfl ?_
  refine gl_nil ?_
  refine gq_keep (e' := [(0, _)]) ⟨rfl, trivial⟩ ?_
  refine gq_then ?_
  refine gc_seq ?_
  refine gc_region ?_  -- region 1 (line 19)
  refine gl_val (ov_move rfl) rfl rfl rfl ?_
  refine gl_val (ov_conv_uu (k := .u64) (k' := .u32) (W := 4294967296) Try.underlying23 Try.underlying45 rfl rfl rfl) rfl rfl rfl ?_
  refine gl_val (ov_move rfl) rfl rfl rfl ?_
  refine gl_val (ov_shr_u (k := .u64) (s := 32) (yk := .u64) rfl rfl rfl (by simp only [ub]; omega)) rfl rfl rfl ?_
  refine gl_val (ov_conv_uu (k := .u64) (k' := .u32) (W := 4294967296) Try.underlying23 Try.underlying45 rfl rfl rfl) rfl rfl rfl ?_
  refine gl_newop (new_build2 (kd := .u32) Try.underlying22 info45 rfl rfl rfl rfl) rfl rfl rfl ?_
  intro v8 r8 hr8
  obtain rfl := hr8
  refine gl_freeze_us0 (by intro x hx; simp only [List.mem_cons, List.not_mem_nil, or_false] at hx; simp only [ub]; omega) ?_
  intro h1 hh1 hb
  refine gl_call (vs := [_]) rfl rfl rfl rfl Try.call39 ⟨rfl, trivial⟩ (fun w hs => ref_trim hs hb (by simp)) ?_
  intro v9 h2 hh2 hr9
  replace hb := hb.mono hh2
  refine gl_val (ov_assign rfl) rfl rfl rfl ?_
  refine gl_nil ?_
  refine gq_keep (e' := [(2, _)]) ⟨rfl, trivial⟩ ?_
  refine gq_then ?_
  refine gc_ret ?_
  refine gq_body1 rfl rfl ?_
  have e : val [n % 4294967296, n / 2 ^ 32 % 4294967296] = n := by simp only [val]; omega
  rw [e] at hr9
  exact hr9

theorem ref_cmp {w0 : World} {h0 : Mem}  (hs : MLe h0 (mem w0)) {v v' : Value} {X Y : Nat} (hv : Us .u32 h0 v (limbs X)) (hv' : Us .u32 h0 v' (limbs Y)) :
    Calls Try.prog 17 #[v, v'] w0 (Ret w0 h0 (fun _ r => r = vI (cmpN X Y))) := by
  have vA := val_limbs X
  have vB' := val_limbs Y
  generalize hA : limbs X = AA at *
  generalize hB : limbs Y = BB at *
  have fA : Fit AA := hv.lt
  have fB : Fit BB := hv'.lt
  have lA := hv.lt63
  have lB := hv'.lt63
  refine calls_begin (n := 41) (e := [(0, v), (1, v')]) (vs := [v, v']) Try.func17 rfl rfl (Nat.le_of_ble_eq_true rfl) hs ⟨rfl, rfl, trivial⟩ ?_
  refine gc_seq ?_
  refine gc_region ?_  -- region 0 (line 35)
  refine gl_val (ov_assign (v := vI (0)) rfl) rfl rfl rfl ?_
  refine gl_nil ?_
  refine gq_keep (e' := [(0, _), (1, _)]) ⟨rfl, rfl, trivial⟩ ?_
  refine gq_then ?_
  refine gc_seq ?_
  refine gc_seq ?_
  refine gc_region ?_  -- region 1 (line 36)
  refine gl_val (ov_move rfl) rfl rfl rfl ?_
  refine gl_val (ov_len_us Try.underlying22 rfl hv) rfl rfl rfl ?_
  refine gl_val (ov_move rfl) rfl rfl rfl ?_
  refine gl_val (ov_len_us Try.underlying22 rfl hv') rfl rfl rfl ?_
  refine gl_val (ov_neq_i rfl rfl) rfl rfl rfl ?_
  refine gl_nil ?_
  refine gq_keep (e' := [(0, _), (1, _), (10, _)]) ⟨rfl, rfl, rfl, trivial⟩ ?_
  refine gq_then ?_
  refine gc_cond rfl (fun hc10 => ?_) (fun hc10 => ?_)
  · skip
    refine gc_keep (e' := [(0, _), (1, _)]) ⟨rfl, rfl, trivial⟩ ?_
    refine gc_seq ?_
    refine gc_seq ?_
    refine gc_region ?_  -- region 2 (line 37)
    refine gl_val (ov_move rfl) rfl rfl rfl ?_
    refine gl_val (ov_len_us Try.underlying22 rfl hv) rfl rfl rfl ?_
    refine gl_val (ov_move rfl) rfl rfl rfl ?_
    refine gl_val (ov_len_us Try.underlying22 rfl hv') rfl rfl rfl ?_
    refine gl_val (ov_lss_i rfl rfl) rfl rfl rfl ?_
    refine gl_nil ?_
    refine gq_keep (e' := [(15, _)]) ⟨rfl, trivial⟩ ?_
    refine gq_then ?_
    refine gc_cond rfl (fun hc15 => ?_) (fun hc15 => ?_)
    · skip
      refine gc_keep (e' := []) trivial ?_
      refine gc_seq ?_
      refine gc_region ?_  -- region 3 (line 38)
      refine gl_val (ov_assign (v := vI (-1)) rfl) rfl rfl rfl ?_
      refine gl_nil ?_
      refine gq_then ?_
      refine gc_ret ?_
      refine gr_then ?_
      refine gr_then ?_
      refine gq_body1 rfl rfl ?_
      rw [cmpN_lt (lt_of_limbs_len (by rw [hA, hB]; omega))]
    · skip
      refine gc_keep (e' := []) trivial ?_
      refine gc_skip ?_
      refine gq_then ?_
      refine gc_seq ?_
      refine gc_region ?_  -- region 4 (line 40)
      refine gl_val (ov_assign (v := vI (1)) rfl) rfl rfl rfl ?_
      refine gl_nil ?_
      refine gq_then ?_
      refine gc_ret ?_
      refine gr_then ?_
      refine gq_body1 rfl rfl ?_
      rw [cmpN_gt (lt_of_limbs_len (by rw [hA, hB]; omega))]
  · skip
    have hl : AA.length = BB.length := by omega
    refine gc_keep (e' := [(0, _), (1, _)]) ⟨rfl, rfl, trivial⟩ ?_
    refine gc_skip ?_
    refine gq_then ?_
    refine gc_seq ?_
    refine gc_seq ?_
    refine gc_region ?_  -- region 5 (line 42)
    refine gl_val (ov_move rfl) rfl rfl rfl ?_
    refine gl_val (ov_len_us Try.underlying22 rfl hv) rfl rfl rfl ?_
    refine gl_val (ov_sub_i (q := 1) rfl rfl (by omega) (by omega)) rfl rfl rfl ?_
    refine gl_val (ov_assign rfl) rfl rfl rfl ?_
    refine gl_nil ?_
    refine gq_keep (e' := [(0, _), (1, _), (5, _)]) ⟨rfl, rfl, rfl, trivial⟩ ?_
    refine gq_then ?_
    refine gc_block ?_
    refine gc_loop (ι := Nat) (fun (j : (Nat)) => j ≤ AA.length ∧ AA.drop j = BB.drop j) (fun (j : (Nat)) => [(0, v), (1, v'), (5, vI (↑j - 1))]) (fun (j : (Nat)) => []) (fun (j : (Nat)) => h0) (fun (j : (Nat)) => j) AA.length ?_ ⟨rfl, rfl, rfl, trivial⟩ rfl rfl ?_
    · skip
      exact ⟨Nat.le_refl _, by rw [List.drop_of_length_le (Nat.le_refl _), List.drop_of_length_le (by omega)]⟩
    · skip
      intro j hx
      obtain ⟨hj, hd⟩ := hx
      show GC _ _ _ _ _ _ [(0, v), (1, v'), (5, vI (↑j - 1))] [] h0
      refine gc_seq ?_
      refine gc_seq ?_
      refine gc_region ?_  -- region 6 (line 42)
      refine gl_val (ov_move rfl) rfl rfl rfl ?_
      refine gl_val (ov_geq_i (q := 0) rfl rfl) rfl rfl rfl ?_
      refine gl_nil ?_
      refine gq_keep (e' := [(0, _), (1, _), (5, _), (20, _)]) ⟨rfl, rfl, rfl, rfl, trivial⟩ ?_
      refine gq_then ?_
      refine gc_cond rfl (fun hc20 => ?_) (fun hc20 => ?_)
      · skip
        refine gc_keep (e' := [(0, _), (1, _), (5, _)]) ⟨rfl, rfl, rfl, trivial⟩ ?_
        refine gc_skip ?_
        refine gq_then ?_
        refine gc_seq ?_
        refine gc_block ?_
        refine gc_seq ?_
        refine gc_seq ?_
        refine gc_draw 9 _ [] [(0, .q), (1, .q), (2, .q), (3, .q), (4, .q), (5, .q), (6, .q), (7, .q), (8, .q)] mixed (fun x hx => by cases hx) (by kernel_rfl) (fun x hx => by cases hx) (fun r hr => hr) ?_  -- region 8 (line 43)
        refine w_q rfl (fun h' L' hh hR => ov_move rfl) rfl ?_
        refine w_q rfl (fun h' L' hh hR => ov_move rfl) rfl ?_
        refine w_q rfl (fun h' L' hh hR => ov_index_us (j - 1) Try.underlying22 Try.sizeOf45 rfl rfl (hv.mono hh) (by omega) (by omega)) rfl ?_
        refine w_q rfl (fun h' L' hh hR => ov_load_us Try.isAgg45 rfl (hv.mono hh) (by omega)) rfl ?_
        refine w_q rfl (fun h' L' hh hR => ov_move rfl) rfl ?_
        refine w_q rfl (fun h' L' hh hR => ov_move rfl) rfl ?_
        refine w_q rfl (fun h' L' hh hR => ov_index_us (j - 1) Try.underlying22 Try.sizeOf45 rfl rfl (hv'.mono hh) (by omega) (by omega)) rfl ?_
        refine w_q rfl (fun h' L' hh hR => ov_load_us Try.isAgg45 rfl (hv'.mono hh) (by omega)) rfl ?_
        refine w_q rfl (fun h' L' hh hR => ov_lss_u (k := .u32) rfl rfl) rfl ?_
        refine w_nil ?_
        refine gq_keep (e' := [(0, _), (1, _), (5, _), (31, _)]) ⟨rfl, rfl, rfl, rfl, trivial⟩ ?_
        refine gq_then ?_
        refine gc_cond rfl (fun hc31 => ?_) (fun hc31 => ?_)
        · skip
          refine gc_keep (e' := []) trivial ?_
          refine gc_seq ?_
          refine gc_region ?_  -- region 9 (line 44)
          refine gl_val (ov_assign (v := vI (-1)) rfl) rfl rfl rfl ?_
          refine gl_nil ?_
          refine gq_then ?_
          refine gc_ret ?_
          refine gr_then ?_
          refine gr_in ?_
          refine gr_then ?_
          refine gr_then ?_
          refine gr_in ?_
          refine gr_then ?_
          refine gq_body1 rfl rfl ?_
          rw [← vA, ← vB', cmpN_lt (val_top fA hl (by omega) hj hd hc31)]
        · skip
          refine gc_keep (e' := [(0, _), (1, _), (5, _)]) ⟨rfl, rfl, rfl, trivial⟩ ?_
          refine gc_skip ?_
          refine gq_then ?_
          refine gc_seq ?_
          refine gc_draw 9 _ [] [(0, .q), (1, .q), (2, .q), (3, .q), (4, .q), (5, .q), (6, .q), (7, .q), (8, .q)] mixed (fun x hx => by cases hx) (by kernel_rfl) (fun x hx => by cases hx) (fun r hr => hr) ?_  -- region 10 (line 46)
          refine w_q rfl (fun h' L' hh hR => ov_move rfl) rfl ?_
          refine w_q rfl (fun h' L' hh hR => ov_move rfl) rfl ?_
          refine w_q rfl (fun h' L' hh hR => ov_index_us (j - 1) Try.underlying22 Try.sizeOf45 rfl rfl (hv.mono hh) (by omega) (by omega)) rfl ?_
          refine w_q rfl (fun h' L' hh hR => ov_load_us Try.isAgg45 rfl (hv.mono hh) (by omega)) rfl ?_
          refine w_q rfl (fun h' L' hh hR => ov_move rfl) rfl ?_
          refine w_q rfl (fun h' L' hh hR => ov_move rfl) rfl ?_
          refine w_q rfl (fun h' L' hh hR => ov_index_us (j - 1) Try.underlying22 Try.sizeOf45 rfl rfl (hv'.mono hh) (by omega) (by omega)) rfl ?_
          refine w_q rfl (fun h' L' hh hR => ov_load_us Try.isAgg45 rfl (hv'.mono hh) (by omega)) rfl ?_
          refine w_q rfl (fun h' L' hh hR => ov_gtr_u (k := .u32) rfl rfl) rfl ?_
          refine w_nil ?_
          refine gq_keep (e' := [(0, _), (1, _), (5, _), (40, _)]) ⟨rfl, rfl, rfl, rfl, trivial⟩ ?_
          refine gq_then ?_
          refine gc_cond rfl (fun hc40 => ?_) (fun hc40 => ?_)
          · skip
            refine gc_keep (e' := []) trivial ?_
            refine gc_seq ?_
            refine gc_region ?_  -- region 11 (line 47)
            refine gl_val (ov_assign (v := vI (1)) rfl) rfl rfl rfl ?_
            refine gl_nil ?_
            refine gq_then ?_
            refine gc_ret ?_
            refine gr_in ?_
            refine gr_then ?_
            refine gr_then ?_
            refine gr_in ?_
            refine gr_then ?_
            refine gq_body1 rfl rfl ?_
            rw [← vA, ← vB', cmpN_gt (val_top fB hl.symm (by omega) (by omega) hd.symm (by omega))]
          · skip
            refine gc_keep (e' := [(0, _), (1, _), (5, _)]) ⟨rfl, rfl, rfl, trivial⟩ ?_
            refine gc_skip ?_
            refine gq_in ?_
            refine gq_then ?_
            refine gc_region ?_  -- region 7 (line 42)
            refine gl_val (ov_move rfl) rfl rfl rfl ?_
            refine gl_val (ov_sub_i (q := 1) rfl rfl (by omega) (by omega)) rfl rfl rfl ?_
            refine gl_val (ov_assign rfl) rfl rfl rfl ?_
            refine gl_nil ?_
            refine gq_round (j - 1) ?_ ?_ ⟨?_, ?_, ?_, trivial⟩ ?_ rfl
            · skip
              refine ⟨by omega, ?_⟩
              rw [drop_eq_cons AA (j - 1) (by omega), drop_eq_cons BB (j - 1) (by omega)]
              have e : j - 1 + 1 = j := by omega
              rw [e, hd, Classical.not_not.1 (show ¬ ¬ AA.getD (j - 1) 0 = BB.getD (j - 1) 0 by omega)]
            · skip
              omega
            · exact rfl
            · exact rfl
            · exact congrArg some (congrArg vI (by omega))
            · exact rfl
      · skip
        refine gc_keep (e' := []) trivial ?_
        refine gc_exit ?_
        refine gx_then ?_
        refine gx_then ?_
        refine gx_here ?_
        refine gq_then ?_
        refine gc_seq ?_
        refine gc_region ?_  -- region 12 (line 50)
        refine gl_val (ov_assign (v := vI (0)) rfl) rfl rfl rfl ?_
        refine gl_nil ?_
        refine gq_then ?_
        refine gc_ret ?_
        refine gq_body1 rfl rfl ?_
        have h0 : j = 0 := by omega
        subst h0
        simp only [List.drop_zero] at hd
        rw [← vA, ← vB', hd, cmpN_eq]

theorem ref_bits {w0 : World} {h0 : Mem}  (hs : MLe h0 (mem w0)) {v : Value} {X : Nat} (hv : Us .u32 h0 v (limbs X)) (hl : (limbs X).length ≤ 1099511627776) :
    Calls Try.prog 19 #[v] w0 (Ret w0 h0 (fun _ r => r = vI ↑(bitsN X))) := by
  refine calls_begin (n := 25) (e := [(0, v)]) (vs := [v]) Try.func19 rfl rfl (Nat.le_of_ble_eq_true rfl) hs ⟨rfl, trivial⟩ ?_
  refine gc_seq ?_
  refine gc_region ?_  -- region 0 (line 54)
  refine gl_val (ov_assign (v := vI (0)) rfl) rfl rfl rfl ?_
  refine gl_nil ?_
  refine gq_keep (e' := [(0, _)]) ⟨rfl, trivial⟩ ?_
  refine gq_then ?_
  refine gc_seq ?_
  refine gc_seq ?_
  refine gc_region ?_  -- region 1 (line 55)
  refine gl_val (ov_move rfl) rfl rfl rfl ?_
  refine gl_val (ov_len_us Try.underlying22 rfl hv) rfl rfl rfl ?_
  refine gl_val (ov_eql_i (q := 0) rfl rfl) rfl rfl rfl ?_
  refine gl_nil ?_
  refine gq_keep (e' := [(0, _), (7, _)]) ⟨rfl, rfl, trivial⟩ ?_
  refine gq_then ?_
  refine gc_cond rfl (fun hc7 => ?_) (fun hc7 => ?_)
  · skip
    refine gc_keep (e' := []) trivial ?_
    refine gc_seq ?_
    refine gc_region ?_  -- region 2 (line 56)
    refine gl_val (ov_assign (v := vI (0)) rfl) rfl rfl rfl ?_
    refine gl_nil ?_
    refine gq_then ?_
    refine gc_ret ?_
    refine gr_then ?_
    refine gq_body1 rfl rfl ?_
    have h0 : X = 0 := Classical.byContradiction fun hne => by have := limbs_len_pos.2 hne; omega
    rw [h0]; rfl
  · skip
    have hpos : 0 < (limbs X).length := by omega
    have hb := bitsN_top (fit_limbs X) (k := (limbs X).length - 1) (by omega) (limbs_top_ne hpos)
    rw [val_limbs] at hb
    refine gc_keep (e' := [(0, _)]) ⟨rfl, trivial⟩ ?_
    refine gc_skip ?_
    refine gq_then ?_
    refine gc_seq ?_
    refine gc_region ?_  -- region 3 (line 58)
    refine gl_val (ov_move rfl) rfl rfl rfl ?_
    refine gl_val (ov_len_us Try.underlying22 rfl hv) rfl rfl rfl ?_
    refine gl_val (ov_sub_i (q := 1) rfl rfl (by omega) (by omega)) rfl rfl rfl ?_
    refine gl_val (ov_mul_i (p := 32) rfl rfl (by omega) (by omega)) rfl rfl rfl ?_
    refine gl_val (ov_assign rfl) rfl rfl rfl ?_
    refine gl_nil ?_
    refine gq_keep (e' := [(0, _), (3, _)]) ⟨rfl, rfl, trivial⟩ ?_
    refine gq_then ?_
    refine gc_seq ?_
    refine gc_seq ?_
    refine gc_region ?_  -- region 4 (line 59)
    refine gl_val (ov_move rfl) rfl rfl rfl ?_
    refine gl_val (ov_move rfl) rfl rfl rfl ?_
    refine gl_val (ov_len_us Try.underlying22 rfl hv) rfl rfl rfl ?_
    refine gl_val (ov_sub_i (q := 1) rfl rfl (by omega) (by omega)) rfl rfl rfl ?_
    refine gl_val (ov_index_us ((limbs X).length - 1) Try.underlying22 Try.sizeOf45 rfl rfl hv (by omega) (by omega)) rfl rfl rfl ?_
    refine gl_val (ov_load_us Try.isAgg45 rfl hv (by omega)) rfl rfl rfl ?_
    have hx1 := hv.get32 ((limbs X).length - 1)
    refine gl_val (ov_assign rfl) rfl rfl rfl ?_
    refine gl_nil ?_
    refine gq_keep (e' := [(3, _), (4, _)]) ⟨rfl, rfl, trivial⟩ ?_
    refine gq_then ?_
    refine gc_block ?_
    refine gc_loop (ι := Nat × Nat) (fun (x_ : (Nat × Nat)) => match x_ with | (c, x) => x < 4294967296 ∧ bitsN ((limbs X).getD ((limbs X).length - 1) 0) = c + bitsN x ∧ c ≤ 32) (fun (x_ : (Nat × Nat)) => match x_ with | (c, x) => [(3, vI (32 * (↑(limbs X).length - 1) + ↑c)), (4, vU .u32 x)]) (fun (x_ : (Nat × Nat)) => match x_ with | (c, x) => []) (fun (x_ : (Nat × Nat)) => match x_ with | (c, x) => h0) (fun (x_ : (Nat × Nat)) => match x_ with | (c, x) => x) (0, (limbs X).getD ((limbs X).length - 1) 0) ?_ ⟨?_, ?_, trivial⟩ rfl rfl ?_
    · skip
      exact ⟨hx1, by omega, by omega⟩
    · exact congrArg some (congrArg vI (by omega))
    · exact rfl
    · skip
      intro x hx
      obtain ⟨c, x⟩ := x
      obtain ⟨hx, hcx, hc32⟩ := hx
      show GC _ _ _ _ _ _ [(3, vI (32 * (↑(limbs X).length - 1) + ↑c)), (4, vU .u32 x)] [] h0
      have hb32 := bitsN_le (n := (limbs X).getD ((limbs X).length - 1) 0) (k := 32) hx1
      refine gc_seq ?_
      refine gc_seq ?_
      refine gc_region ?_  -- region 5 (line 59)
      refine gl_val (ov_move rfl) rfl rfl rfl ?_
      refine gl_val (ov_neq_u (k := .u32) (q := 0) rfl rfl) rfl rfl rfl ?_
      refine gl_nil ?_
      refine gq_keep (e' := [(3, _), (4, _), (19, _)]) ⟨rfl, rfl, rfl, trivial⟩ ?_
      refine gq_then ?_
      refine gc_cond rfl (fun hc19 => ?_) (fun hc19 => ?_)
      · skip
        refine gc_keep (e' := [(3, _), (4, _)]) ⟨rfl, rfl, trivial⟩ ?_
        refine gc_skip ?_
        refine gq_then ?_
        refine gc_seq ?_
        refine gc_block ?_
        refine gc_region ?_  -- region 7 (line 60)
        refine gl_val (ov_move rfl) rfl rfl rfl ?_
        refine gl_val (ov_add_i (q := 1) rfl rfl (by omega) (by omega)) rfl rfl rfl ?_
        refine gl_val (ov_assign rfl) rfl rfl rfl ?_
        refine gl_nil ?_
        refine gq_in ?_
        refine gq_keep (e' := [(4, _), (3, _)]) ⟨rfl, rfl, trivial⟩ ?_
        refine gq_then ?_
        refine gc_region ?_  -- region 6 (line 59)
        refine gl_val (ov_move rfl) rfl rfl rfl ?_
        refine gl_val (ov_shr_u (k := .u32) (s := 1) (yk := .u64) rfl rfl rfl (by simp only [ub]; omega)) rfl rfl rfl ?_
        refine gl_val (ov_assign rfl) rfl rfl rfl ?_
        refine gl_nil ?_
        refine gq_round (c + 1, x / 2 ^ 1) ?_ ?_ ⟨?_, ?_, trivial⟩ ?_ rfl
        · skip
          have h1 := bitsN_half hc19
          exact ⟨by omega, by rw [hcx, h1, show x / 2 ^ 1 = x / 2 from rfl]; omega, by omega⟩
        · skip
          dsimp only
          omega
        · exact congrArg some (congrArg vI (by omega))
        · exact rfl
        · exact rfl
      · skip
        refine gc_keep (e' := [(3, _)]) ⟨rfl, trivial⟩ ?_
        refine gc_exit ?_
        refine gx_then ?_
        refine gx_then ?_
        refine gx_here ?_
        refine gq_then ?_
        refine gc_seq ?_
        refine gc_region ?_  -- region 8 (line 62)
        refine gl_val (ov_move rfl) rfl rfl rfl ?_
        refine gl_val (ov_assign rfl) rfl rfl rfl ?_
        refine gl_nil ?_
        refine gq_keep (e' := [(2, _)]) ⟨rfl, trivial⟩ ?_
        refine gq_then ?_
        refine gc_ret ?_
        refine gq_body1 rfl rfl ?_
        have hx0 : x = 0 := Classical.not_not.1 hc19
        rw [hx0, bitsN_zero] at hcx
        exact congrArg vI (by omega)

end Go.Proofs.Ytoionddicppahaa
