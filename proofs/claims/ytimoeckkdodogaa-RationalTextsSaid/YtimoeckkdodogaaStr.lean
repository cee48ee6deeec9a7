/- Strings by the numbers of their bytes. They hold for any program P. -/
import Derived.Test.YtimoeckkdodogaaLaw
import Derived.Test.YtimoeckkdodogaaTxt
namespace Bk
set_option linter.unusedVariables false
set_option linter.unusedSimpArgs false
open Go Go.RowKit

/-- Numbers of bytes. -/
def ByB (bs : List Nat) : Prop := ∀ x ∈ bs, x < 256
theorem ByB.nil : ByB [] := fun x hx => by cases hx
theorem ByB.app {a b : List Nat} (ha : ByB a) (hb : ByB b) : ByB (a ++ b) := fun x hx => (List.mem_append.1 hx).elim (ha x) (hb x)
theorem ByB.dr {a : List Nat} (ha : ByB a) (k : Nat) : ByB (a.drop k) := fun x hx => ha x (List.mem_of_mem_drop hx)
theorem ByB.tk {a : List Nat} (ha : ByB a) (k : Nat) : ByB (a.take k) := fun x hx => ha x (List.mem_of_mem_take hx)
theorem ByB.lt {a : List Nat} (ha : ByB a) (i : Nat) : a.getD i 0 < 256 := by
  by_cases hi : i < a.length
  · rw [List.getD_eq_getElem?_getD, List.getElem?_eq_getElem hi]
    exact ha _ (List.getElem_mem hi)
  · rw [List.getD_eq_getElem?_getD, List.getElem?_eq_none (by omega)]; decide
theorem byB_byt (s : ByteArray) : ByB (byt s) := by
  intro x hx
  obtain ⟨y, _, rfl⟩ := List.mem_map.1 hx
  exact UInt8.toNat_lt _
theorem byB_txt (n : Nat) : ByB (txt n) := txt_lt n

theorem strOf_byt (s : ByteArray) : strOf (byt s) = s := by
  unfold strOf byt
  rw [List.map_map]
  have : (UInt8.ofNat ∘ UInt8.toNat) = id := by funext x; simp
  rw [this, List.map_id]
theorem strOf_append (a b : List Nat) : strOf a ++ strOf b = strOf (a ++ b) := by
  apply ByteArray.ext
  simp [strOf]
theorem strOf_extract (bs : List Nat) (l h : Nat) : (strOf bs).extract l h = strOf ((bs.drop l).take (h - l)) := by
  apply ByteArray.ext
  apply Array.ext'
  simp [strOf, List.map_drop, List.map_take, List.drop_take]
theorem strOf_inj {a b : List Nat} (ha : ByB a) (hb : ByB b) : strOf a = strOf b ↔ a = b :=
  ⟨fun h => by rw [← byt_strOf ha, ← byt_strOf hb, h], fun h => by rw [h]⟩

section
variable {P : Program} {n : Nat} {w0 : World} {h0 : Mem} {e : List (Nat × Value)} {L : List Res} {h : Mem}
variable {ds : Option Tmp} {ty : TypeId} {ps : String} {af : Array Edge} {gd : Option (Nat × Bool)}

theorem ov_len_s {bs : List Nat} {t : TypeId} {x : Operand} (ht : P.underlying t = some .string) (hx : evalO e x = some (.string (strOf bs))) :
    OpV P n w0 h0 ⟨ds, .call { callee := .builtin .len, args := #[x], argTypes := #[t] }, ty, ps, af, gd⟩ e L h (vI (bs.length : Int)) := by
  have := ov_len_str (P := P) (n := n) (w0 := w0) (h0 := h0) (L := L) (h := h) (ds := ds) (ty := ty) (ps := ps) (af := af) (gd := gd) ht hx
  rw [Us.str_size] at this
  exact this
theorem ov_index_s {bs : List Nat} {t : TypeId} {x y : Operand} {q : Int} (hb : ByB bs) (i : Nat) (ht : P.underlying t = some .string) (hx : evalO e x = some (.string (strOf bs))) (hy : evalO e y = some (vI q)) (hq : q = (i : Int)) (hi : i < bs.length) :
    OpV P n w0 h0 ⟨ds, .index t x y, ty, ps, af, gd⟩ e L h (vU .u8 (bs.getD i 0)) := by
  have := ov_index_byt (P := P) (n := n) (w0 := w0) (h0 := h0) (L := L) (h := h) (ds := ds) (ty := ty) (ps := ps) (af := af) (gd := gd) i ht hx hy hq (by rw [Us.str_size]; exact hi)
  rw [byt_strOf hb] at this
  exact this
theorem ov_slice_s_lh {bs : List Nat} {t : TypeId} {x lo hi : Operand} {p q : Int} (i j : Nat) (ht : P.underlying t = some .string) (hx : evalO e x = some (.string (strOf bs))) (hl : evalO e lo = some (vI p)) (hh : evalO e hi = some (vI q)) (hp : p = (i : Int)) (hq : q = (j : Int)) (h1 : i ≤ j) (h2 : j ≤ bs.length) :
    OpV P n w0 h0 ⟨ds, .slice t x (some lo) (some hi) none, ty, ps, af, gd⟩ e L h (.string (strOf ((bs.drop i).take (j - i)))) := by
  subst hp; subst hq
  intro a w Ev S
  have hs := Us.str_size (xs := bs)
  have h3 : (j : Int) ≤ ((strOf bs).size : Int) := by omega
  have h4 : j ≤ (strOf bs).size := by omega
  simp [execOp, Ev.eval hx, Ev.eval hl, Ev.eval hh, Instr.sliceAt, Instr.slice, run_underlying ht, Instr.sliceBounds, Instr.sliceBound, asIntOf, vI, h4, h1, strOf_extract]
theorem ov_slice_s_l {bs : List Nat} {t : TypeId} {x lo : Operand} {p : Int} (i : Nat) (ht : P.underlying t = some .string) (hx : evalO e x = some (.string (strOf bs))) (hl : evalO e lo = some (vI p)) (hp : p = (i : Int)) (h1 : i ≤ bs.length) :
    OpV P n w0 h0 ⟨ds, .slice t x (some lo) none none, ty, ps, af, gd⟩ e L h (.string (strOf (bs.drop i))) := by
  subst hp
  intro a w Ev S
  have hs := Us.str_size (xs := bs)
  have h4 : i ≤ (strOf bs).size := by omega
  have h5 : (bs.drop i).take (bs.length - i) = bs.drop i := List.take_of_length_le (by rw [List.length_drop]; omega)
  simp [execOp, Ev.eval hx, Ev.eval hl, Instr.sliceAt, Instr.slice, run_underlying ht, Instr.sliceBounds, Instr.sliceBound, asIntOf, vI, h4, strOf_extract, hs, h5]
  intro h6
  omega
theorem ov_slice_s_h {bs : List Nat} {t : TypeId} {x hi : Operand} {q : Int} (j : Nat) (ht : P.underlying t = some .string) (hx : evalO e x = some (.string (strOf bs))) (hh : evalO e hi = some (vI q)) (hq : q = (j : Int)) (h2 : j ≤ bs.length) :
    OpV P n w0 h0 ⟨ds, .slice t x none (some hi) none, ty, ps, af, gd⟩ e L h (.string (strOf (bs.take j))) := by
  subst hq
  intro a w Ev S
  have hs := Us.str_size (xs := bs)
  have h4 : j ≤ (strOf bs).size := by omega
  simp [execOp, Ev.eval hx, Ev.eval hh, Instr.sliceAt, Instr.slice, run_underlying ht, Instr.sliceBounds, Instr.sliceBound, asIntOf, vI, h4, strOf_extract]
theorem ov_add_s {pa pb : List Nat} {t yt : TypeId} {x y : Operand} (hx : evalO e x = some (.string (strOf pa))) (hy : evalO e y = some (.string (strOf pb))) (hlen : pa.length + pb.length ≤ 9223372036854775807) :
    OpV P n w0 h0 ⟨ds, .binOp .add t x y yt, ty, ps, af, gd⟩ e L h (.string (strOf (pa ++ pb))) := by
  intro a w Ev S
  have h1 := Us.str_size (xs := pa)
  have h2 := Us.str_size (xs := pb)
  have h3 : ¬ (((strOf pa).size + (strOf pb).size : Nat) : Int) > IntKind.i64.max := by
    have : IntKind.i64.max = 9223372036854775807 := rfl
    rw [this]
    omega
  have h4 : (Op.stringOp .add (strOf pa) (strOf pb)).run P w = .ok (.string (strOf (pa ++ pb))) w := by
    simp only [Op.stringOp]
    rw [if_neg h3, strOf_append]
    rfl
  simp only [execOp, Ev.eval hx, Ev.eval hy]
  simp [eqGuard, binOp, h4]
theorem ov_eql_s {pa pb : List Nat} {t yt : TypeId} {x y : Operand} (ha : ByB pa) (hb : ByB pb) (hx : evalO e x = some (.string (strOf pa))) (hy : evalO e y = some (.string (strOf pb))) : OpV P n w0 h0 ⟨ds, .binOp .eql t x y yt, ty, ps, af, gd⟩ e L h (vB (pa = pb)) := by
  have := ov_eql_str (P := P) (n := n) (w0 := w0) (h0 := h0) (L := L) (h := h) (ds := ds) (ty := ty) (ps := ps) (af := af) (gd := gd) (t := t) (yt := yt) hx hy
  rw [vB_iff (strOf_inj ha hb)] at this
  exact this
theorem ov_neq_s {pa pb : List Nat} {t yt : TypeId} {x y : Operand} (ha : ByB pa) (hb : ByB pb) (hx : evalO e x = some (.string (strOf pa))) (hy : evalO e y = some (.string (strOf pb))) : OpV P n w0 h0 ⟨ds, .binOp .neq t x y yt, ty, ps, af, gd⟩ e L h (vB (pa ≠ pb)) := by
  have h1 : ((strOf pa).toList == (strOf pb).toList) = @decide (strOf pa = strOf pb) (Classical.propDecidable _) := by
    rw [Bool.eq_iff_iff]
    simp only [beq_iff_eq, decide_eq_true_eq]
    exact ⟨fun hh => by
      have h2 : (strOf pa).data.toList = (strOf pb).data.toList := by
        rwa [ByteArray.toList_eq, ByteArray.toList_eq] at hh
      exact ByteArray.ext (Array.toList_inj.1 h2), fun hh => by rw [hh]⟩
  rw [← vB_iff (not_congr (strOf_inj ha hb))]
  intro a w Ev S
  simp only [execOp, Ev.eval hx, Ev.eval hy, binOp, vB]
  simp [eqGuard, Op.stringOp, h1]
end
end Bk
