/- The statement RationalRounds holds: for every input the given function returns true, without a panic, and changes nothing that was there. -/
import Derived.Test.YtimoeckkdodogaaL2r
import Derived.Test.YtimoeckkdodogaaLaw
import Derived.Test.YtimoeckkdodogaaRows
import Derived.WalkKit
import Derived.ProofKit
import Derived.OpenShut
import Derived.ShutString
import Derived.ChangeOld
import Derived.Below
import Derived.Deep.Strs
import Derived.Test.YtimoeckkdodogaaFrame
namespace Go.Proofs.Ytimoeckkdodogaa.rationalRounds
open Go.ChangeShapes Go.WideShapes Go.ChangeAt Go.RowKit
open Go.ChangeMaps (open_string shut_string)
set_option linter.unusedVariables false

theorem own : ownKnob Try.prog.godebug = none := by kernel_rfl
theorem laidOut : laidOutB Try.prog = true := by kernel_rfl

/-- What is known of a slice of integers that came in: nil, or a row of its numbers. -/
def IsRow (k : IntKind) (w : World) (a : Option Addr) (len cap : Nat) (zs : List Int) : Prop :=
  (a = none ∧ len = 0 ∧ cap = 0 ∧ zs = []) ∨
  ∃ x, a = some x ∧ len ≤ cap ∧ cap ≤ maxLen ∧ zs.length = cap ∧ (∀ i, i < zs.length → w.cell? (x.add i) = some (.int k (zs.getD i 0))) ∧ ∀ n ∈ zs, (Lit.int k n).wf = true

theorem row_of {H : Type} {enc : TypeId × Value → H} {P : Program} {w : World} {base : Nat} {held : Bool} {t e : TypeId} {k : IntKind} {fuel : Nat} {cs : List Value} {x : DataW H × List MemPlace} (ht : P.underlying t = some (.slice e)) (he : P.underlying e = some (.int k)) (hc : P.cellsOf e = 1)
    (h : DataW.trod enc P w base (fun _ => true) held fuel t cs = some x) : ∃ a l c zs, cs = [.slice a l c] ∧ IsRow k w a l c zs := by
  rcases open_ints ht he hc h with ⟨hcs, _⟩ | ⟨x, l, c, zs, hcs, _, hl, hm, hz, _, hcell, hwz⟩
  · exact ⟨none, 0, 0, [], hcs, .inl ⟨rfl, rfl, rfl, rfl⟩⟩
  · exact ⟨_, l, c, zs, hcs, .inr ⟨_, rfl, hl, hm, by simpa using hz, hcell, hwz⟩⟩

theorem walk (b0 : Bool) (aa0 : Option Addr) (lena0 capa0 : Nat) (za0 : List Int) (ab0 : Option Addr) (lenb0 capb0 : Nat) (zb0 : List Int) (a1 : Int) (w : World) (wa0 : IsRow .u32 w aa0 lena0 capa0 za0) (wb0 : IsRow .u32 w ab0 lenb0 capb0 zb0) (w1 : (Lit.int .i64 a1).wf = true) :
    Calls Try.prog 7 #[.agg #[.bool b0, .slice aa0 lena0 capa0, .slice ab0 lenb0 capb0], .int .i64 a1] w fun e w' => e = .returned (.bool true) ∧ Below w.heap.size w w' := by
  obtain ⟨xa0, ha0⟩ := Bk.us_of_row (k := .u32) rfl wa0
  obtain ⟨xb0, hb0⟩ := Bk.us_of_row (k := .u32) rfl wb0
  obtain ⟨lo1, hi1⟩ := Bk.int_of_wf w1
  exact Bk.law_true (law2_rounds (Bk.MLe.refl _) (Bk.vB_bool b0) ha0 hb0 lo1 hi1)

set_option maxRecDepth 100000 in
theorem lifted (os : Os) (started : os.Started) (H : Type) (enc : TypeId × Value → H) :
    ReturnsInHanded {} Try.checked os 7 .any (Rows.rationalRoundsSpec.pre6 enc Try.prog Try.f7 Rows.rationalRoundsRow.domain false) (Rows.rationalRoundsSpec.post enc Try.prog Try.f7 false true false false) := by
  refine returnsInHanded_of_change (C := Try.checked) own started (by kernel_rfl) Try.func7
    (ChangeSpec.witness6 (enc := enc) (C := Try.checked) false ⟨#[], #[.agg #[.bool false, .slice none 0 0, .slice none 0 0], .int .i64 0], []⟩ 8 (by kernel_rfl) (by kernel_rfl) (by kernel_rfl) (by kernel_rfl)) ?_
  intro W base args ds gs before hval0 hW hcnd _
  have hval : ∀ (j : Nat) t v, Try.f7.params[j]? = some t → args[j]? = some v → Value.okWide Try.prog W .any base t v := hval0
  have hW' := hW
  obtain ⟨p, q, hA0, hV, rfl, hfz, hnd⟩ := hW
  have hA : DataW.TrodAll enc Try.prog W 0 (fun _ => true) true Try.f7.params.toList args.toList ds p := hA0
  rw [Try.params7] at hA hval
  obtain ⟨v0, vs0, d0, ds0, p0, q0, hargs, rfl, rfl, h0, r0⟩ := trodAll_cons hA
  obtain ⟨v1, vs1, d1, ds1, p1, q1, rfl, rfl, rfl, h1, r1⟩ := trodAll_cons r0
  obtain ⟨rfl, rfl, rfl⟩ := trodAll_nil r1
  obtain rfl : args = #[v0, v1] := by cases args; simp_all
  obtain ⟨rfl, rfl⟩ := trodVars_none hV
  obtain ⟨cs0, rfl, hsz0⟩ := okWide_struct Try.underlying24 (hval 0 24 v0 rfl rfl)
  have k0 := h0
  have lt0 : ∀ x ∈ p0, x.block < W.heap.size := by obtain ⟨m, hm⟩ := k0; exact DataW.trod_lt m _ _ _ hm
  obtain ⟨b0, aa0, lena0, capa0, za0, ab0, lenb0, capb0, zb0, rfl, wa0, wb0⟩ : ∃ b aa la ca za ab lb cb zb, cs0 = #[.bool b, .slice aa la ca, .slice ab lb cb] ∧ IsRow .u32 W aa la ca za ∧ IsRow .u32 W ab lb cb zb := by
    obtain ⟨fuel, hf⟩ := h0
    obtain ⟨y0, y1, y2, n, _, hlen, t0, t1, t2⟩ := Go.Deep.trod_struct3 Try.underlying24 hf
    have hl3 : cs0.toList.length = 3 := by rw [show cs0.toList.length = _ from hlen]; kernel_rfl
    match hcl : cs0.toList, hl3 with
    | [c0, c1, c2], _ =>
    have hcl' : (Value.agg cs0).cells.toList = [c0, c1, c2] := hcl
    rw [hcl'] at t0 t1 t2
    rw [show Try.prog.cellsOf 4 = 1 by kernel_rfl] at t0
    rw [show Try.prog.cellsOf 22 = 1 by kernel_rfl] at t1 t2
    obtain ⟨b, hb⟩ := Bk.trod_bool Try.underlying4 t0
    simp at hb
    subst hb
    have e0 : cs0 = #[.bool b, c1, c2] := by rw [← Array.toArray_toList (xs := cs0), hcl]
    obtain ⟨aa, la, ca, za, h1, r1⟩ := row_of Try.underlying22 Try.underlying61 (by kernel_rfl) t1
    obtain ⟨ab, lb, cb, zb, h2, r2⟩ := row_of Try.underlying22 Try.underlying61 (by kernel_rfl) t2
    simp at h1 h2
    subst h1 h2
    exact ⟨b, aa, la, ca, za, ab, lb, cb, zb, e0, r1, r2⟩
  obtain ⟨a1, rfl, rfl, rfl, w1⟩ := open_int Try.underlying3 (hval 1 3 v1 rfl rfl) h1
  clear hA0 hval0
  refine (walk b0 aa0 lena0 capa0 za0 ab0 lenb0 capb0 zb0 a1 W wa0 wb0 w1).mono fun e W' ⟨he, bel⟩ => ?_
  subst he
  exact ⟨_, rfl, _, _, _, [], _, [], hW', trodAll_mk1 (shut_bool Try.underlying4 _), (trodAll_cons_mk (Below.trod laidOut (by kernel_rfl) (of_decide_eq_true (by kernel_rfl)) k0 bel lt0) (trodAll_cons_mk (shut_int Try.underlying3 w1) trodAll_mk0)), rfl, bel.frame _, fun h => by cases h⟩

theorem over : Rows.rationalRoundsRow.holds Try.pinned (OpenSpec.ofChange Rows.rationalRoundsSpec) :=
  OpenClaim.holds_of_wide 7 Try.f7 rfl rfl rfl rfl rfl rfl rfl ⟨rfl, rfl, rfl, rfl, rfl⟩ rfl rfl rfl rfl rfl (by kernel_rfl) Try.func7 (by kernel_rfl)
    (of_decide_eq_true (by kernel_rfl)) (by unfold Func.isWrapper; first | (rw [if_pos (by decide +kernel)]; kernel_rfl) | (rw [if_neg (by decide +kernel)]; exact ⟨rfl, rfl⟩))
    (fun os started H enc _ => lifted os started H enc)

/-- The statement. -/
theorem proved : Rows.RationalRoundsSaid := over
end Go.Proofs.Ytimoeckkdodogaa.rationalRounds
