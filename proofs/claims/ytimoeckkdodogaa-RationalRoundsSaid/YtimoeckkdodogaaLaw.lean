/- What the laws' walks begin with: a slice of whole numbers that came in is one that can be read. -/
import Derived.Test.YtimoeckkdodogaaOps2
import Derived.Test.YtimoeckkdodogaaNat
namespace Bk
set_option linter.unusedVariables false
set_option linter.unusedSimpArgs false
open Go Go.RowKit

theorem wf_range {k : IntKind} (hk : k.signed = false) {x : Int} (h : (Lit.int k x).wf = true) : 0 ≤ x ∧ x < (ub k : Int) := by
  simp only [Lit.wf, Bool.and_eq_true, decide_eq_true_eq] at h
  cases k <;> simp [IntKind.signed] at hk <;> simp [IntKind.min, IntKind.max, IntKind.signed, IntKind.bits] at h <;> simp only [ub] <;> omega

theorem us_of_row {k : IntKind} (hk : k.signed = false) {w : World} {a : Option Addr} {len cap : Nat} {zs : List Int}
    (h : (a = none ∧ len = 0 ∧ cap = 0 ∧ zs = []) ∨ ∃ x, a = some x ∧ len ≤ cap ∧ cap ≤ maxLen ∧ zs.length = cap ∧ (∀ i, i < zs.length → w.cell? (x.add i) = some (.int k (zs.getD i 0))) ∧ ∀ n ∈ zs, (Lit.int k n).wf = true) :
    ∃ xs : List Nat, Us k (mem w) (.slice a len cap) xs := by
  rcases h with ⟨rfl, rfl, rfl, rfl⟩ | ⟨x, rfl, h1, h2, h3, h4, h5⟩
  · exact ⟨[], Us.nil _ _⟩
  · refine ⟨(zs.take len).map Int.toNat, ⟨?_, ?_⟩⟩
    · have hl : ((zs.take len).map Int.toNat).length = len := by simp; omega
      rw [hl]
      refine ⟨_, cap, rfl, h1, h2, by simp [Bk.us]; omega, fun i hi => ?_⟩
      have hi' : i < len := by simp [Bk.us] at hi; omega
      have hc := h4 i (by omega)
      have hspot : (x.add 0).spot = none := World.cell?_spot (h4 0 (by omega))
      obtain ⟨b, o, sp⟩ := x
      simp [Addr.add] at hspot
      subst hspot
      refine ⟨b, o, rfl, ?_⟩
      rw [addr_add] at hc
      rw [cell_of_world hc, us_get (by rw [hl]; exact hi')]
      have hm : zs.getD i 0 ∈ zs := by
        rw [List.getD_eq_getElem?_getD, List.getElem?_eq_getElem (by omega)]
        exact List.getElem_mem _
      have hr := wf_range hk (h5 _ hm)
      have e : ((List.map Int.toNat (List.take len zs)).getD i 0 : Int) = zs.getD i 0 := by
        rw [List.getD_eq_getElem?_getD, List.getElem?_map, List.getElem?_take, if_pos hi']
        rw [List.getD_eq_getElem?_getD] at hr ⊢
        rw [List.getElem?_eq_getElem (by omega)] at hr ⊢
        simp at hr ⊢
        omega
      rw [vU, e]
    · intro n hn
      obtain ⟨z, hz, rfl⟩ := List.mem_map.1 hn
      have hr := wf_range hk (h5 z (List.mem_of_mem_take hz))
      omega

theorem nat_of_wf {k : IntKind} (hk : k.signed = false) {x : Int} (h : (Lit.int k x).wf = true) : ∃ n : Nat, x = (n : Int) ∧ n < ub k := by
  obtain ⟨h1, h2⟩ := wf_range hk h
  exact ⟨x.toNat, by omega, by omega⟩
theorem int_of_wf {x : Int} (h : (Lit.int .i64 x).wf = true) : -9223372036854775808 ≤ x ∧ x < 9223372036854775808 := by
  simp only [Lit.wf, Bool.and_eq_true, decide_eq_true_eq] at h
  simp [IntKind.min, IntKind.max, IntKind.signed, IntKind.bits] at h
  omega

theorem byt_strOf {xs : List Nat} (h : ∀ x ∈ xs, x < 256) : byt (strOf xs) = xs := by
  simp only [byt, strOf, List.map_map]
  conv => rhs; rw [← List.map_id xs]
  refine List.map_congr_left fun x hx => ?_
  simp only [Function.comp, id]
  exact Nat.mod_eq_of_lt (h x hx)

theorem us_len_add {k : IntKind} {h : Mem} {v : Value} {m n : Nat} (_ : Us k h v (limbs (m + n))) : (limbs (m + n)).length ≤ (limbs m).length + (limbs n).length + 1 := limbs_len_add m n
theorem us_len_mul {k : IntKind} {h : Mem} {v : Value} {m n : Nat} (_ : Us k h v (limbs (m * n))) : (limbs (m * n)).length ≤ (limbs m).length + (limbs n).length := limbs_len_mul m n
end Bk
