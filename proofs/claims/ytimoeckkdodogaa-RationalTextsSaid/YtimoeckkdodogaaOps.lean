/- The operations of the walking logic: for each form of operation, the value that it yields or what it does to own memory. It holds for any program P. -/
import Derived.Test.YtimoeckkdodogaaCore
import Derived.WalkSpells
import Derived.WalkLawsBesides
import Derived.Laws.AppendOwnNone
namespace Bk
set_option linter.unusedVariables false
set_option linter.unusedSimpArgs false
open Go Go.RowKit

/-! ### Values -/

/-- An int. -/
def vI (x : Int) : Value := .int .i64 x
/-- A number of an unsigned kind. -/
def vU (k : IntKind) (x : Nat) : Value := .int k (x : Int)

/-- How many numbers an unsigned kind has. -/
def ub : IntKind → Nat
  | .u8 => 256
  | .u16 => 65536
  | .u32 => 4294967296
  | .u64 => 18446744073709551616
  | _ => 0

theorem wrap_u {k : IntKind} (hk : k.signed = false) (x : Int) : k.wrap x = x % (ub k : Int) := by
  cases k <;> simp [IntKind.signed] at hk <;> simp [IntKind.wrap, IntKind.signed, IntKind.bits, ub]

theorem wrap_un {k : IntKind} (hk : k.signed = false) (x : Nat) : k.wrap (x : Int) = ((x % ub k : Nat) : Int) := by
  rw [wrap_u hk]; omega

theorem wrap_lt {k : IntKind} (hk : k.signed = false) {x : Nat} (hx : x < ub k) : k.wrap (x : Int) = (x : Int) := by
  rw [wrap_un hk, Nat.mod_eq_of_lt hx]

theorem wrap_i {x : Int} (h1 : -9223372036854775808 ≤ x) (h2 : x < 9223372036854775808) : IntKind.i64.wrap x = x := by
  rw [IntKind.wrap_i64]; omega

section ops
variable {P : Program} {n : Nat} {w0 : World} {h0 : Mem} {e : List (Nat × Value)} {L : List Res} {h : Mem}
variable {ds : Option Tmp} {ty : TypeId} {ps : String} {af : Array Edge} {gd : Option (Nat × Bool)}

theorem ov_move {x : Operand} {v : Value} (hx : evalO e x = some v) : OpV P n w0 h0 ⟨ds, .move x, ty, ps, af, gd⟩ e L h v := by
  intro a w E S; simp [execOp, E.eval hx]
theorem ov_assign {x : Operand} {v : Value} (hx : evalO e x = some v) : OpV P n w0 h0 ⟨ds, .assign x, ty, ps, af, gd⟩ e L h v := by
  intro a w E S; simp [execOp, E.eval hx]
theorem ov_pick_t {c x y : Operand} {v : Value} (hc : evalO e c = some (.bool true)) (hx : evalO e x = some v) : OpV P n w0 h0 ⟨ds, .pick c x y, ty, ps, af, gd⟩ e L h v := by
  intro a w E S; simp [execOp, E.eval hc, E.eval hx, asBool]
theorem ov_pick_f {c x y : Operand} {v : Value} (hc : evalO e c = some (.bool false)) (hy : evalO e y = some v) : OpV P n w0 h0 ⟨ds, .pick c x y, ty, ps, af, gd⟩ e L h v := by
  intro a w E S; simp [execOp, E.eval hc, E.eval hy, asBool]
theorem ov_extract {x : Operand} {i : Nat} {vs : List Value} {v : Value} (hx : evalO e x = some (.tuple vs.toArray)) (hv : vs[i]? = some v) : OpV P n w0 h0 ⟨ds, .extract x i, ty, ps, af, gd⟩ e L h v := by
  intro a w E S; simp [execOp, E.eval hx, Instr.extract, hv]

theorem ov_not {t : TypeId} {x : Operand} {p : Prop} (hx : evalO e x = some (vB p)) : OpV P n w0 h0 ⟨ds, .unOp .not t x, ty, ps, af, gd⟩ e L h (vB (¬ p)) := by
  intro a w E S; simp [execOp, E.eval hx, Op.unary, vB]
theorem ov_not_b {t : TypeId} {x : Operand} {b : Bool} (hx : evalO e x = some (.bool b)) : OpV P n w0 h0 ⟨ds, .unOp .not t x, ty, ps, af, gd⟩ e L h (.bool !b) := by
  intro a w E S; simp [execOp, E.eval hx, Op.unary]
theorem ov_neg_i {t : TypeId} {x : Operand} {m : Int} (hx : evalO e x = some (vI m)) (h1 : -9223372036854775808 < m) (h2 : m ≤ 9223372036854775808) : OpV P n w0 h0 ⟨ds, .unOp .neg t x, ty, ps, af, gd⟩ e L h (vI (-m)) := by
  intro a w E S
  have := wrap_i (x := -m) (by omega) (by omega)
  simp [execOp, E.eval hx, Op.unary, Op.intArith, vI, this]

/-! int -/

theorem eqGuard_int (op : BinOp) (t : TypeId) (x y : Operand) (k k' : IntKind) (m m' : Int) (w : World) : (eqGuard op t x y (.int k m) (.int k' m')).run P w = .ok () w := by
  cases op <;> simp [eqGuard]

theorem ov_add_i {t yt : TypeId} {x y : Operand} {p q : Int} (hx : evalO e x = some (vI p)) (hy : evalO e y = some (vI q)) (h1 : -9223372036854775808 ≤ p + q) (h2 : p + q < 9223372036854775808) :
    OpV P n w0 h0 ⟨ds, .binOp .add t x y yt, ty, ps, af, gd⟩ e L h (vI (p + q)) := by
  intro a w E S; simp [execOp, E.eval hx, E.eval hy, vI, eqGuard_int, binOp, Op.intArith, wrap_i h1 h2]
theorem ov_sub_i {t yt : TypeId} {x y : Operand} {p q : Int} (hx : evalO e x = some (vI p)) (hy : evalO e y = some (vI q)) (h1 : -9223372036854775808 ≤ p - q) (h2 : p - q < 9223372036854775808) :
    OpV P n w0 h0 ⟨ds, .binOp .sub t x y yt, ty, ps, af, gd⟩ e L h (vI (p - q)) := by
  intro a w E S; simp [execOp, E.eval hx, E.eval hy, vI, eqGuard_int, binOp, Op.intArith, wrap_i h1 h2]
theorem ov_mul_i {t yt : TypeId} {x y : Operand} {p q : Int} (hx : evalO e x = some (vI p)) (hy : evalO e y = some (vI q)) (h1 : -9223372036854775808 ≤ p * q) (h2 : p * q < 9223372036854775808) :
    OpV P n w0 h0 ⟨ds, .binOp .mul t x y yt, ty, ps, af, gd⟩ e L h (vI (p * q)) := by
  intro a w E S; simp [execOp, E.eval hx, E.eval hy, vI, eqGuard_int, binOp, Op.intArith, wrap_i h1 h2]
theorem ov_quo_i {t yt : TypeId} {x y : Operand} {p q : Int} (hx : evalO e x = some (vI p)) (hy : evalO e y = some (vI q)) (h1 : 0 ≤ p) (h2 : p < 9223372036854775808) (h3 : 0 < q) :
    OpV P n w0 h0 ⟨ds, .binOp .quo t x y yt, ty, ps, af, gd⟩ e L h (vI (p / q)) := by
  intro a w E S
  have h4 : p.tdiv q = p / q := Int.tdiv_eq_ediv_of_nonneg h1
  have h5 : 0 ≤ p / q := Int.ediv_nonneg h1 (by omega)
  have h6 : p / q ≤ p := Int.ediv_le_self q h1
  have h7 : q ≠ 0 := by omega
  simp [execOp, E.eval hx, E.eval hy, vI, eqGuard_int, binOp, Op.intDiv, h7, h4, wrap_i (x := p / q) (by omega) (by omega)]
theorem ov_rem_i {t yt : TypeId} {x y : Operand} {p q : Int} (hx : evalO e x = some (vI p)) (hy : evalO e y = some (vI q)) (h1 : 0 ≤ p) (h3 : 0 < q) :
    OpV P n w0 h0 ⟨ds, .binOp .rem t x y yt, ty, ps, af, gd⟩ e L h (vI (p % q)) := by
  intro a w E S
  have h4 : p.tmod q = p % q := Int.tmod_eq_emod_of_nonneg h1
  have h7 : q ≠ 0 := by omega
  simp [execOp, E.eval hx, E.eval hy, vI, eqGuard_int, binOp, Op.intDiv, h7, h4]

theorem ov_lss_i {t yt : TypeId} {x y : Operand} {p q : Int} (hx : evalO e x = some (vI p)) (hy : evalO e y = some (vI q)) : OpV P n w0 h0 ⟨ds, .binOp .lss t x y yt, ty, ps, af, gd⟩ e L h (vB (p < q)) := by
  intro a w E S; simp [execOp, E.eval hx, E.eval hy, vI, eqGuard_int, binOp, Op.intCmp, vB]
theorem ov_leq_i {t yt : TypeId} {x y : Operand} {p q : Int} (hx : evalO e x = some (vI p)) (hy : evalO e y = some (vI q)) : OpV P n w0 h0 ⟨ds, .binOp .leq t x y yt, ty, ps, af, gd⟩ e L h (vB (p ≤ q)) := by
  intro a w E S; simp [execOp, E.eval hx, E.eval hy, vI, eqGuard_int, binOp, Op.intCmp, vB]
theorem ov_gtr_i {t yt : TypeId} {x y : Operand} {p q : Int} (hx : evalO e x = some (vI p)) (hy : evalO e y = some (vI q)) : OpV P n w0 h0 ⟨ds, .binOp .gtr t x y yt, ty, ps, af, gd⟩ e L h (vB (q < p)) := by
  intro a w E S; simp [execOp, E.eval hx, E.eval hy, vI, eqGuard_int, binOp, Op.intCmp, vB]
theorem ov_geq_i {t yt : TypeId} {x y : Operand} {p q : Int} (hx : evalO e x = some (vI p)) (hy : evalO e y = some (vI q)) : OpV P n w0 h0 ⟨ds, .binOp .geq t x y yt, ty, ps, af, gd⟩ e L h (vB (q ≤ p)) := by
  intro a w E S; simp [execOp, E.eval hx, E.eval hy, vI, eqGuard_int, binOp, Op.intCmp, vB]
theorem ov_eql_i {t yt : TypeId} {x y : Operand} {p q : Int} (hx : evalO e x = some (vI p)) (hy : evalO e y = some (vI q)) : OpV P n w0 h0 ⟨ds, .binOp .eql t x y yt, ty, ps, af, gd⟩ e L h (vB (p = q)) := by
  intro a w E S; simp [execOp, E.eval hx, E.eval hy, vI, eqGuard_int, binOp, Op.intCmp, vB, BEq.beq]
theorem ov_neq_i {t yt : TypeId} {x y : Operand} {p q : Int} (hx : evalO e x = some (vI p)) (hy : evalO e y = some (vI q)) : OpV P n w0 h0 ⟨ds, .binOp .neq t x y yt, ty, ps, af, gd⟩ e L h (vB (p ≠ q)) := by
  intro a w E S
  have : (p != q) = !decide (p = q) := rfl
  simp [execOp, E.eval hx, E.eval hy, vI, eqGuard_int, binOp, Op.intCmp, vB, this]

/-! unsigned kinds -/

theorem ov_add_u {k : IntKind} {W : Nat} {t yt : TypeId} {x y : Operand} {p q : Nat} (hk : k.signed = false) (hW : ub k = W) (hx : evalO e x = some (vU k p)) (hy : evalO e y = some (vU k q)) (hlt : p + q < W) :
    OpV P n w0 h0 ⟨ds, .binOp .add t x y yt, ty, ps, af, gd⟩ e L h (vU k (p + q)) := by
  intro a w E S
  have := wrap_lt hk (x := p + q) (by omega)
  simp only [Int.natCast_add] at this
  simp [execOp, E.eval hx, E.eval hy, vU, eqGuard_int, binOp, Op.intArith, this]
theorem ov_addw_u {k : IntKind} {W : Nat} {t yt : TypeId} {x y : Operand} {p q : Nat} (hk : k.signed = false) (hW : ub k = W) (hx : evalO e x = some (vU k p)) (hy : evalO e y = some (vU k q)) :
    OpV P n w0 h0 ⟨ds, .binOp .add t x y yt, ty, ps, af, gd⟩ e L h (vU k ((p + q) % W)) := by
  intro a w E S
  have := wrap_un hk (p + q)
  rw [hW] at this
  simp only [Int.natCast_add] at this
  simp [execOp, E.eval hx, E.eval hy, vU, eqGuard_int, binOp, Op.intArith, this]
theorem ov_sub_u {k : IntKind} {W : Nat} {t yt : TypeId} {x y : Operand} {p q : Nat} (hk : k.signed = false) (hW : ub k = W) (hx : evalO e x = some (vU k p)) (hy : evalO e y = some (vU k q)) (hle : q ≤ p) (hlt : p < W) :
    OpV P n w0 h0 ⟨ds, .binOp .sub t x y yt, ty, ps, af, gd⟩ e L h (vU k (p - q)) := by
  intro a w E S
  have := wrap_lt hk (x := p - q) (by omega)
  rw [Int.ofNat_sub hle] at this
  simp [execOp, E.eval hx, E.eval hy, vU, eqGuard_int, binOp, Op.intArith, this, Int.ofNat_sub hle]
theorem ov_subw_u {k : IntKind} {W : Nat} {t yt : TypeId} {x y : Operand} {p q : Nat} (hk : k.signed = false) (hW : ub k = W) (hx : evalO e x = some (vU k p)) (hy : evalO e y = some (vU k q)) (hlt : q ≤ W) :
    OpV P n w0 h0 ⟨ds, .binOp .sub t x y yt, ty, ps, af, gd⟩ e L h (vU k ((p + W - q) % W)) := by
  intro a w E S
  have h1 := wrap_u hk ((p : Int) - q)
  rw [hW] at h1
  have h2 : ((p : Int) - q) % (W : Int) = (((p + W - q) % W : Nat) : Int) := by
    have e1 : ((p + W - q : Nat) : Int) = (p : Int) - q + W := by omega
    rw [Int.natCast_emod, e1, Int.add_emod_right]
  simp [execOp, E.eval hx, E.eval hy, vU, eqGuard_int, binOp, Op.intArith, h1, h2]
theorem ov_mul_u {k : IntKind} {W : Nat} {t yt : TypeId} {x y : Operand} {p q : Nat} (hk : k.signed = false) (hW : ub k = W) (hx : evalO e x = some (vU k p)) (hy : evalO e y = some (vU k q)) (hlt : p * q < W) :
    OpV P n w0 h0 ⟨ds, .binOp .mul t x y yt, ty, ps, af, gd⟩ e L h (vU k (p * q)) := by
  intro a w E S
  have := wrap_lt hk (x := p * q) (by omega)
  simp only [Int.natCast_mul] at this
  simp [execOp, E.eval hx, E.eval hy, vU, eqGuard_int, binOp, Op.intArith, this]
theorem ov_mulw_u {k : IntKind} {W : Nat} {t yt : TypeId} {x y : Operand} {p q : Nat} (hk : k.signed = false) (hW : ub k = W) (hx : evalO e x = some (vU k p)) (hy : evalO e y = some (vU k q)) :
    OpV P n w0 h0 ⟨ds, .binOp .mul t x y yt, ty, ps, af, gd⟩ e L h (vU k ((p * q) % W)) := by
  intro a w E S
  have := wrap_un hk (p * q)
  rw [hW] at this
  simp only [Int.natCast_mul] at this
  simp [execOp, E.eval hx, E.eval hy, vU, eqGuard_int, binOp, Op.intArith, this]
theorem ov_quo_u {k : IntKind} {W : Nat} {t yt : TypeId} {x y : Operand} {p q : Nat} (hk : k.signed = false) (hW : ub k = W) (hx : evalO e x = some (vU k p)) (hy : evalO e y = some (vU k q)) (hlt : p < W) (h0' : 0 < q) :
    OpV P n w0 h0 ⟨ds, .binOp .quo t x y yt, ty, ps, af, gd⟩ e L h (vU k (p / q)) := by
  intro a w E S
  have h1 : p / q ≤ p := Nat.div_le_self _ _
  have := wrap_lt hk (x := p / q) (by omega)
  have h2 : ((p : Int)).tdiv q = (p : Int) / (q : Int) := Int.tdiv_eq_ediv_of_nonneg (by omega)
  have h3 : q ≠ 0 := by omega
  have h4 : k.wrap ((p : Int) / (q : Int)) = (p : Int) / (q : Int) := this
  simp only [execOp, E.eval hx, E.eval hy, vU, binOp]
  simp [eqGuard_int, Op.intDiv, h3, h2, h4]
theorem ov_rem_u {k : IntKind} {t yt : TypeId} {x y : Operand} {p q : Nat} (hx : evalO e x = some (vU k p)) (hy : evalO e y = some (vU k q)) (h0' : 0 < q) :
    OpV P n w0 h0 ⟨ds, .binOp .rem t x y yt, ty, ps, af, gd⟩ e L h (vU k (p % q)) := by
  intro a w E S
  have h2 : ((p : Int)).tmod q = (p : Int) % (q : Int) := Int.tmod_eq_emod_of_nonneg (by omega)
  have h3 : q ≠ 0 := by omega
  simp only [execOp, E.eval hx, E.eval hy, vU, binOp]
  simp [eqGuard_int, Op.intDiv, h3, h2]

theorem ov_lss_u {k : IntKind} {t yt : TypeId} {x y : Operand} {p q : Nat} (hx : evalO e x = some (vU k p)) (hy : evalO e y = some (vU k q)) : OpV P n w0 h0 ⟨ds, .binOp .lss t x y yt, ty, ps, af, gd⟩ e L h (vB (p < q)) := by
  intro a w E S; simp [execOp, E.eval hx, E.eval hy, vU, eqGuard_int, binOp, Op.intCmp, vB]
theorem ov_leq_u {k : IntKind} {t yt : TypeId} {x y : Operand} {p q : Nat} (hx : evalO e x = some (vU k p)) (hy : evalO e y = some (vU k q)) : OpV P n w0 h0 ⟨ds, .binOp .leq t x y yt, ty, ps, af, gd⟩ e L h (vB (p ≤ q)) := by
  intro a w E S; simp [execOp, E.eval hx, E.eval hy, vU, eqGuard_int, binOp, Op.intCmp, vB]
theorem ov_gtr_u {k : IntKind} {t yt : TypeId} {x y : Operand} {p q : Nat} (hx : evalO e x = some (vU k p)) (hy : evalO e y = some (vU k q)) : OpV P n w0 h0 ⟨ds, .binOp .gtr t x y yt, ty, ps, af, gd⟩ e L h (vB (q < p)) := by
  intro a w E S; simp [execOp, E.eval hx, E.eval hy, vU, eqGuard_int, binOp, Op.intCmp, vB]
theorem ov_geq_u {k : IntKind} {t yt : TypeId} {x y : Operand} {p q : Nat} (hx : evalO e x = some (vU k p)) (hy : evalO e y = some (vU k q)) : OpV P n w0 h0 ⟨ds, .binOp .geq t x y yt, ty, ps, af, gd⟩ e L h (vB (q ≤ p)) := by
  intro a w E S; simp [execOp, E.eval hx, E.eval hy, vU, eqGuard_int, binOp, Op.intCmp, vB]
theorem ov_eql_u {k : IntKind} {t yt : TypeId} {x y : Operand} {p q : Nat} (hx : evalO e x = some (vU k p)) (hy : evalO e y = some (vU k q)) : OpV P n w0 h0 ⟨ds, .binOp .eql t x y yt, ty, ps, af, gd⟩ e L h (vB (p = q)) := by
  intro a w E S
  have h1 : ((p : Int) == (q : Int)) = decide (p = q) := by rw [Bool.eq_iff_iff]; simp; omega
  simp only [execOp, E.eval hx, E.eval hy, vU, binOp]
  simp only [Op.intCmp, vB, h1]
  simp [eqGuard_int]
theorem ov_neq_u {k : IntKind} {t yt : TypeId} {x y : Operand} {p q : Nat} (hx : evalO e x = some (vU k p)) (hy : evalO e y = some (vU k q)) : OpV P n w0 h0 ⟨ds, .binOp .neq t x y yt, ty, ps, af, gd⟩ e L h (vB (p ≠ q)) := by
  intro a w E S
  have h1 : ((p : Int) != (q : Int)) = decide (p ≠ q) := by rw [Bool.eq_iff_iff]; simp; omega
  simp only [execOp, E.eval hx, E.eval hy, vU, binOp]
  simp only [Op.intCmp, vB, h1]
  simp [eqGuard_int]

theorem two_pow_bits (k : IntKind) (hk : k.signed = false) : 2 ^ k.bits = ub k := by cases k <;> simp [IntKind.signed] at hk <;> rfl

theorem ov_shr_u {k yk : IntKind} {t yt : TypeId} {x y : Operand} {p s : Nat} (hk : k.signed = false) (hx : evalO e x = some (vU k p)) (hy : evalO e y = some (.int yk (s : Int))) (hp : p < ub k) :
    OpV P n w0 h0 ⟨ds, .binOp .shr t x y yt, ty, ps, af, gd⟩ e L h (vU k (p / 2 ^ s)) := by
  intro a w E S
  have h1 : ¬ ((s : Int) < 0) := by omega
  have h2 : ((p : Int)).fdiv (2 ^ min s k.bits) = ((p / 2 ^ s : Nat) : Int) := by
    rw [Int.fdiv_eq_ediv_of_nonneg _ (Int.le_of_lt (Int.pow_pos (by omega)))]
    rcases Nat.le_total s k.bits with hle | hle
    · rw [Nat.min_eq_left hle]; rfl
    · rw [Nat.min_eq_right hle]
      have e1 : p / 2 ^ s = 0 := Nat.div_eq_of_lt (Nat.lt_of_lt_of_le hp (by rw [← two_pow_bits k hk]; exact Nat.pow_le_pow_right (by omega) hle))
      have e2 : p / 2 ^ k.bits = 0 := Nat.div_eq_of_lt (by rw [two_pow_bits k hk]; exact hp)
      rw [e1]
      have : ((p : Int) / (2 ^ k.bits : Int)) = ((p / 2 ^ k.bits : Nat) : Int) := rfl
      rw [this, e2]
  simp only [execOp, E.eval hx, E.eval hy, vU, binOp]
  simp [eqGuard_int, Op.shift, h1, h2]
theorem ov_shl_u {k yk : IntKind} {W : Nat} {t yt : TypeId} {x y : Operand} {p s : Nat} (hk : k.signed = false) (hW : ub k = W) (hx : evalO e x = some (vU k p)) (hy : evalO e y = some (.int yk (s : Int))) :
    OpV P n w0 h0 ⟨ds, .binOp .shl t x y yt, ty, ps, af, gd⟩ e L h (vU k (p * 2 ^ s % W)) := by
  intro a w E S
  have h1 : ¬ ((s : Int) < 0) := by omega
  have h2 : k.wrap ((p : Int) * 2 ^ min s k.bits) = ((p * 2 ^ s % W : Nat) : Int) := by
    rcases Nat.le_total s k.bits with hle | hle
    · rw [Nat.min_eq_left hle, ← hW, ← wrap_un hk]; simp
    · rw [Nat.min_eq_right hle]
      have e1 : p * 2 ^ s % W = 0 := by
        rw [← hW, ← two_pow_bits k hk]
        exact Nat.mod_eq_zero_of_dvd (Nat.dvd_trans (Nat.pow_dvd_pow 2 hle) (Nat.dvd_mul_left _ _))
      have e2 : ((p * 2 ^ k.bits % ub k : Nat) : Int) = 0 := by rw [two_pow_bits k hk]; simp
      have := wrap_un hk (p * 2 ^ k.bits)
      rw [e2] at this
      rw [e1]
      simpa using this
  simp only [execOp, E.eval hx, E.eval hy, vU, binOp]
  simp [eqGuard_int, Op.shift, h1, h2]

theorem toNat_ofInt_nat (b p : Nat) (h : p < 2 ^ b) : (BitVec.ofInt b (p : Int)).toNat = p := by
  rw [BitVec.ofInt_natCast, BitVec.toNat_ofNat, Nat.mod_eq_of_lt h]

theorem ov_or_u {k : IntKind} {t yt : TypeId} {x y : Operand} {p q : Nat} (hk : k.signed = false) (hx : evalO e x = some (vU k p)) (hy : evalO e y = some (vU k q)) (hp : p < ub k) (hq : q < ub k) :
    OpV P n w0 h0 ⟨ds, .binOp .or t x y yt, ty, ps, af, gd⟩ e L h (vU k (p ||| q)) := by
  intro a w E S
  have hb := two_pow_bits k hk
  have h3 : p ||| q < 2 ^ k.bits := Nat.or_lt_two_pow (by omega) (by omega)
  have h4 := wrap_lt hk (x := p ||| q) (by omega)
  have h5 := Nat.mod_eq_of_lt (a := p) (b := 2 ^ k.bits) (by omega)
  have h6 := Nat.mod_eq_of_lt (a := q) (b := 2 ^ k.bits) (by omega)
  simp only [execOp, E.eval hx, E.eval hy, vU, binOp]
  simp [eqGuard_int, Op.intBits, h4, h5, h6]
theorem ov_and_u {k : IntKind} {t yt : TypeId} {x y : Operand} {p q : Nat} (hk : k.signed = false) (hx : evalO e x = some (vU k p)) (hy : evalO e y = some (vU k q)) (hp : p < ub k) (hq : q < ub k) :
    OpV P n w0 h0 ⟨ds, .binOp .and t x y yt, ty, ps, af, gd⟩ e L h (vU k (p &&& q)) := by
  intro a w E S
  have hb := two_pow_bits k hk
  have h3 : p &&& q ≤ p := Nat.and_le_left
  have h4 := wrap_lt hk (x := p &&& q) (by omega)
  have h5 := Nat.mod_eq_of_lt (a := p) (b := 2 ^ k.bits) (by omega)
  have h6 := Nat.mod_eq_of_lt (a := q) (b := 2 ^ k.bits) (by omega)
  simp only [execOp, E.eval hx, E.eval hy, vU, binOp]
  simp [eqGuard_int, Op.intBits, h4, h5, h6]

/-! bools -/

theorem run_equal_bool {t : TypeId} (hu : P.underlying t = some .bool) (x y : Bool) (w : World) : (Op.equal t (.bool x) (.bool y)).run P w = .ok (x == y) w := by
  have h1 : Op.equal t (.bool x) (.bool y) = Op.equalIn (9999 + 1) t (.bool x) (.bool y) := rfl
  rw [h1, Op.equalIn]
  simp [run_underlying hu]


theorem ov_eql_b {t yt : TypeId} {x y : Operand} {p q : Prop} (hu : P.underlying t = some .bool) (hx : evalO e x = some (vB p)) (hy : evalO e y = some (vB q)) :
    OpV P n w0 h0 ⟨ds, .binOp .eql t x y yt, ty, ps, af, gd⟩ e L h (vB (p ↔ q)) := by
  intro a w E S
  simp only [execOp, E.eval hx, E.eval hy, vB, binOp]
  simp [eqGuard, run_equal_bool hu]
  by_cases hp : p <;> by_cases hq : q <;> simp [hp, hq]
theorem ov_neq_b {t yt : TypeId} {x y : Operand} {p q : Prop} (hu : P.underlying t = some .bool) (hx : evalO e x = some (vB p)) (hy : evalO e y = some (vB q)) :
    OpV P n w0 h0 ⟨ds, .binOp .neq t x y yt, ty, ps, af, gd⟩ e L h (vB (¬ (p ↔ q))) := by
  intro a w E S
  simp only [execOp, E.eval hx, E.eval hy, vB, binOp]
  simp [eqGuard, run_equal_bool hu]
  by_cases hp : p <;> by_cases hq : q <;> simp [hp, hq]

/-! conversions of numbers -/

theorem ov_conv_uu {k k' : IntKind} {W : Nat} {s t : TypeId} {d : TypeDesc} {x : Operand} {p : Nat} (hs : P.underlying s = some d) (ht : P.underlying t = some (.int k')) (hk : k'.signed = false) (hW : ub k' = W) (hx : evalO e x = some (vU k p)) :
    OpV P n w0 h0 ⟨ds, .convert s t x, ty, ps, af, gd⟩ e L h (vU k' (p % W)) := by
  intro a w E S
  have := wrap_un hk p
  rw [hW] at this
  simp [execOp, E.eval hx, vU, convert, run_underlying hs, run_underlying ht, Conv.intToInt, this]
theorem ov_conv_u {k k' : IntKind} {W : Nat} {s t : TypeId} {d : TypeDesc} {x : Operand} {p : Nat} (hs : P.underlying s = some d) (ht : P.underlying t = some (.int k')) (hk : k'.signed = false) (hW : ub k' = W) (hx : evalO e x = some (vU k p)) (hp : p < W) :
    OpV P n w0 h0 ⟨ds, .convert s t x, ty, ps, af, gd⟩ e L h (vU k' p) := by
  have := ov_conv_uu (n := n) (w0 := w0) (h0 := h0) (L := L) (h := h) (ds := ds) (ty := ty) (ps := ps) (af := af) (gd := gd) hs ht hk hW hx
  rwa [Nat.mod_eq_of_lt hp] at this
theorem ov_conv_iu {k' : IntKind} {W : Nat} {s t : TypeId} {d : TypeDesc} {x : Operand} {p : Nat} (hs : P.underlying s = some d) (ht : P.underlying t = some (.int k')) (hk : k'.signed = false) (hW : ub k' = W) (hx : evalO e x = some (vI (p : Int))) (hp : p < W) :
    OpV P n w0 h0 ⟨ds, .convert s t x, ty, ps, af, gd⟩ e L h (vU k' p) := by
  intro a w E S
  have := wrap_lt hk (x := p) (by omega)
  simp [execOp, E.eval hx, vI, vU, convert, run_underlying hs, run_underlying ht, Conv.intToInt, this]
theorem ov_conv_ui {k : IntKind} {s t : TypeId} {d : TypeDesc} {x : Operand} {p : Nat} (hs : P.underlying s = some d) (ht : P.underlying t = some (.int .i64)) (hx : evalO e x = some (vU k p)) (hp : p < 9223372036854775808) :
    OpV P n w0 h0 ⟨ds, .convert s t x, ty, ps, af, gd⟩ e L h (vI (p : Int)) := by
  intro a w E S
  have := wrap_i (x := (p : Int)) (by omega) (by omega)
  simp [execOp, E.eval hx, vI, vU, convert, run_underlying hs, run_underlying ht, Conv.intToInt, this]

/-! slices that are read -/

/-- A slice of n elements of k cells each, whose cells are readable in the memory h. -/
def Sl (h : Mem) (k : Nat) (v : Value) (m : Nat) (cs : List Value) : Prop :=
  ∃ a cap, v = .slice a m cap ∧ m ≤ cap ∧ cap ≤ maxLen ∧ cs.length = m * k ∧ ∀ i, i < cs.length → ∃ b o, a = some ⟨b, o, none⟩ ∧ cell h b (o + i) = cs[i]?

theorem Sl.mono {h h' : Mem} {k : Nat} {v : Value} {m : Nat} {cs : List Value} (s : Sl h k v m cs) (hh : MLe h h') : Sl h' k v m cs := by
  obtain ⟨a, cap, hv, h1, h2, h3, h4⟩ := s
  refine ⟨a, cap, hv, h1, h2, h3, fun i hi => ?_⟩
  obtain ⟨b, o, ha, hc⟩ := h4 i hi
  refine ⟨b, o, ha, ?_⟩
  rw [List.getElem?_eq_getElem hi] at hc ⊢
  exact cell_mono hh hc

theorem Sl.nil (h : Mem) (k : Nat) : Sl h k (.slice none 0 0) 0 [] := ⟨none, 0, rfl, Nat.le_refl _, by unfold maxLen; omega, by simp, fun i hi => by simp at hi⟩

theorem Sl.one {h : Mem} {k : Nat} {v : Value} {m : Nat} {cs : List Value} (s : Sl h k v m cs) : ∃ a cap, v = .slice a m cap := let ⟨a, cap, hv, _⟩ := s; ⟨a, cap, hv⟩

theorem Sl.lt63 {h : Mem} {k : Nat} {v : Value} {m : Nat} {cs : List Value} (s : Sl h k v m cs) : m < 9223372036854775808 := by
  obtain ⟨a, cap, hv, h1, h2, _⟩ := s
  unfold maxLen at h2
  omega

/-- The address of an element of a slice. -/
def elemPtr (k : Nat) (v : Value) (i : Nat) : Value :=
  match v with
  | .slice (some a) _ _ => .pointer (some (a.add (i * k)))
  | _ => undef

theorem addr_add (b o j : Nat) : (⟨b, o, none⟩ : Addr).add j = ⟨b, o + j, none⟩ := by
  unfold Addr.add
  split
  · simp_all
  · rfl

theorem ov_len_sl {v : Value} {m : Nat} {t : TypeId} {E : TypeId} {x : Operand} (ht : P.underlying t = some (.slice E)) (hx : evalO e x = some v) (hv : ∃ a cap, v = .slice a m cap) :
    OpV P n w0 h0 ⟨ds, .call { callee := .builtin .len, args := #[x], argTypes := #[t] }, ty, ps, af, gd⟩ e L h (vI (m : Int)) := by
  obtain ⟨a, cap, rfl⟩ := hv
  intro a w E S
  simp [execOp, resolve, invoke, builtin, Builtin.len_, E.eval hx, run_underlying ht, goInt, vI]

theorem ov_len_str {s : ByteArray} {t : TypeId} {x : Operand} (ht : P.underlying t = some .string) (hx : evalO e x = some (.string s)) :
    OpV P n w0 h0 ⟨ds, .call { callee := .builtin .len, args := #[x], argTypes := #[t] }, ty, ps, af, gd⟩ e L h (vI (s.size : Int)) := by
  intro a w E S
  simp [execOp, resolve, invoke, builtin, Builtin.len_, E.eval hx, run_underlying ht, goInt, vI]

/-- The address of element i. -/
theorem ov_index {v : Value} {m : Nat} {cs : List Value} {k : Nat} {t E : TypeId} {x y : Operand} {q : Int} (i : Nat) (ht : P.underlying t = some (.slice E)) (hsz : ∀ w, (Go.sizeOf E).run P w = .ok k w) (hx : evalO e x = some v) (hy : evalO e y = some (vI q))
    (hv : Sl h k v m cs) (hq : q = (i : Int)) (hi : i < m) (hk : 0 < k) : OpV P n w0 h0 ⟨ds, .indexAddr t x y, ty, ps, af, gd⟩ e L h (elemPtr k v i) := by
  obtain ⟨a0, cap, rfl, h1, h2, h3, h4⟩ := hv
  subst hq
  have hpos : 0 < cs.length := by rw [h3]; exact Nat.mul_pos (by omega) hk
  obtain ⟨b, o, rfl, _⟩ := h4 0 hpos
  intro a w Ev S
  have hlt : (0 : Int) ≤ (i : Int) ∧ (i : Int) < (m : Int) := by omega
  simp [execOp, Ev.eval hx, Ev.eval hy, Instr.indexAt, vI, asIntOf, run_underlying ht, hsz, elemPtr, hi]

/-- A cell of element i. -/
theorem Sl.cell {h : Mem} {k : Nat} {v : Value} {m : Nat} {cs : List Value} (s : Sl h k v m cs) {i j : Nat} {u : Value} (hj : cs[i * k + j]? = some u) : ∃ b o, elemPtr k v i = .pointer (some ⟨b, o, none⟩) ∧ Bk.cell h b (o + j) = some u := by
  obtain ⟨a, cap, rfl, h1, h2, h3, h4⟩ := s
  obtain ⟨hlt, _⟩ := List.getElem?_eq_some_iff.1 hj
  obtain ⟨b, o, rfl, hc⟩ := h4 _ hlt
  refine ⟨b, o + i * k, ?_, ?_⟩
  · simp [elemPtr, addr_add]
  · rw [hj] at hc
    rw [← hc]; congr 1; omega

/-- Reading element i of one cell. -/
theorem ov_load1 {v u : Value} {m : Nat} {cs : List Value} {t : TypeId} {x : Operand} {i : Nat} (ha : ∀ w, (isAgg t).run P w = .ok false w) (hx : evalO e x = some (elemPtr 1 v i)) (hv : Sl h 1 v m cs) (hi : cs[i]? = some u) :
    OpV P n w0 h0 ⟨ds, .load t x, ty, ps, af, gd⟩ e L h u := by
  obtain ⟨b, o, hp, hc⟩ := hv.cell (i := i) (j := 0) (u := u) (by simpa using hi)
  rw [hp] at hx
  intro a w E S
  have hw := cell_world S.sub hc
  simp only [Nat.add_zero] at hw
  simp [execOp, E.eval hx, Instr.loadAt, Instr.sureAddr, loadVar, ha, Go.load, Sem.run, hw]

/-! slices of numbers -/

/-- The cells of numbers. -/
def us (k : IntKind) (xs : List Nat) : List Value := xs.map (vU k)

/-- A slice of numbers below W. -/
structure Us (k : IntKind) (h : Mem) (v : Value) (xs : List Nat) : Prop where
  sl : Sl h 1 v xs.length (us k xs)
  lt : ∀ x ∈ xs, x < ub k

theorem Us.mono {k : IntKind} {h h' : Mem} {v : Value} {xs : List Nat} (s : Us k h v xs) (hh : MLe h h') : Us k h' v xs := ⟨s.sl.mono hh, s.lt⟩
theorem Us.nil (k : IntKind) (h : Mem) : Us k h (.slice none 0 0) [] := ⟨Sl.nil h 1, by simp⟩
theorem Us.one {k : IntKind} {h : Mem} {v : Value} {xs : List Nat} (s : Us k h v xs) : ∃ a cap, v = .slice a xs.length cap := s.sl.one
theorem Us.lt63 {k : IntKind} {h : Mem} {v : Value} {xs : List Nat} (s : Us k h v xs) : xs.length < 9223372036854775808 := s.sl.lt63

theorem us_get {k : IntKind} {xs : List Nat} {i : Nat} (hi : i < xs.length) : (us k xs)[i]? = some (vU k (xs.getD i 0)) := by
  simp [us, hi]

theorem Us.getLt {k : IntKind} {h : Mem} {v : Value} {xs : List Nat} (s : Us k h v xs) (i : Nat) : xs.getD i 0 < ub k ∨ ub k = 0 := by
  by_cases hi : i < xs.length
  · rw [List.getD_eq_getElem?_getD, List.getElem?_eq_getElem hi]
    exact .inl (s.lt _ (List.getElem_mem hi))
  · rw [List.getD_eq_getElem?_getD, List.getElem?_eq_none (by omega)]
    simp only [Option.getD_none]
    omega

theorem Us.get32 {h : Mem} {v : Value} {xs : List Nat} (s : Us .u32 h v xs) (i : Nat) : xs.getD i 0 < 4294967296 := (s.getLt i).resolve_right (by decide)
theorem Us.get8 {h : Mem} {v : Value} {xs : List Nat} (s : Us .u8 h v xs) (i : Nat) : xs.getD i 0 < 256 := (s.getLt i).resolve_right (by decide)

theorem ov_len_us {k : IntKind} {v : Value} {xs : List Nat} {t E : TypeId} {x : Operand} (ht : P.underlying t = some (.slice E)) (hx : evalO e x = some v) (hv : Us k h v xs) :
    OpV P n w0 h0 ⟨ds, .call { callee := .builtin .len, args := #[x], argTypes := #[t] }, ty, ps, af, gd⟩ e L h (vI (xs.length : Int)) := ov_len_sl ht hx hv.one

theorem ov_index_us {k : IntKind} {v : Value} {xs : List Nat} {t E : TypeId} {x y : Operand} {q : Int} (i : Nat) (ht : P.underlying t = some (.slice E)) (hsz : ∀ w, (Go.sizeOf E).run P w = .ok 1 w) (hx : evalO e x = some v) (hy : evalO e y = some (vI q))
    (hv : Us k h v xs) (hq : q = (i : Int)) (hi : i < xs.length) : OpV P n w0 h0 ⟨ds, .indexAddr t x y, ty, ps, af, gd⟩ e L h (elemPtr 1 v i) := ov_index i ht hsz hx hy hv.sl hq hi (by omega)

theorem ov_load_us {k : IntKind} {v : Value} {xs : List Nat} {t : TypeId} {x : Operand} {i : Nat} (ha : ∀ w, (isAgg t).run P w = .ok false w) (hx : evalO e x = some (elemPtr 1 v i)) (hv : Us k h v xs) (hi : i < xs.length) :
    OpV P n w0 h0 ⟨ds, .load t x, ty, ps, af, gd⟩ e L h (vU k (xs.getD i 0)) := ov_load1 ha hx hv.sl (us_get hi)

/-! a part of a slice -/

/-- v[lo:hi]. -/
def subSl (k : Nat) (v : Value) (lo hi : Nat) : Value :=
  match v with
  | .slice a _ cap => .slice (if cap = lo then a else a.map (·.add (lo * k))) (hi - lo) (cap - lo)
  | _ => undef

theorem Sl.sub {h : Mem} {k : Nat} {v : Value} {m : Nat} {cs : List Value} (s : Sl h k v m cs) {lo hi : Nat} (h1 : lo ≤ hi) (h2 : hi ≤ m) : Sl h k (subSl k v lo hi) (hi - lo) ((cs.drop (lo * k)).take ((hi - lo) * k)) := by
  obtain ⟨a, cap, rfl, h3, h4, h5, h6⟩ := s
  have hm : (hi - lo) * k ≤ m * k - lo * k := by rw [← Nat.sub_mul]; exact Nat.mul_le_mul_right _ (by omega)
  refine ⟨_, _, rfl, by omega, by omega, by rw [List.length_take, List.length_drop, h5]; omega, fun i hi' => ?_⟩
  rw [List.length_take, List.length_drop, h5] at hi'
  have hlt : lo * k + i < cs.length := by omega
  obtain ⟨b, o, rfl, hc⟩ := h6 _ hlt
  by_cases hcl : cap = lo
  · exfalso
    have : hi - lo = 0 := by omega
    rw [this] at hi'
    omega
  · refine ⟨b, o + lo * k, by simp [hcl, addr_add], ?_⟩
    rw [List.getElem?_take, if_pos (by omega), List.getElem?_drop, ← hc]
    congr 1
    omega

theorem Us.sub {k : IntKind} {h : Mem} {v : Value} {xs : List Nat} (s : Us k h v xs) {lo hi : Nat} (h1 : lo ≤ hi) (h2 : hi ≤ xs.length) : Us k h (subSl 1 v lo hi) ((xs.drop lo).take (hi - lo)) := by
  have := s.sl.sub h1 h2
  simp only [Nat.mul_one] at this
  refine ⟨?_, fun x hx => s.lt x (List.mem_of_mem_drop (List.mem_of_mem_take hx))⟩
  have hl : ((xs.drop lo).take (hi - lo)).length = hi - lo := by rw [List.length_take, List.length_drop]; omega
  rw [hl]
  simpa [us] using this

theorem run_slice_lh {k : Nat} {t E : TypeId} (w : World) (ht : P.underlying t = some (.slice E)) (hsz : ∀ w, (Go.sizeOf E).run P w = .ok k w) (a : Option Addr) (m cap lo hi : Nat) (h1 : lo ≤ hi) (h2 : hi ≤ cap) :
    (Instr.sliceAt t (.slice a m cap) (some (vI lo)) (some (vI hi)) none).run P w = .ok (subSl k (.slice a m cap) lo hi) w := by
  have c1 : (0 : Int) ≤ (hi : Int) ∧ (hi : Int) ≤ (cap : Int) := by omega
  have c2 : (0 : Int) ≤ (lo : Int) ∧ (lo : Int) ≤ (hi : Int) := by omega
  simp [Instr.sliceAt, Instr.slice, run_underlying ht, Instr.sliceBounds, Instr.sliceBound, asIntOf, vI, hsz, subSl, h1, h2]
theorem run_slice_h {k : Nat} {t E : TypeId} (w : World) (ht : P.underlying t = some (.slice E)) (hsz : ∀ w, (Go.sizeOf E).run P w = .ok k w) (a : Option Addr) (m cap hi : Nat) (h2 : hi ≤ cap) :
    (Instr.sliceAt t (.slice a m cap) none (some (vI hi)) none).run P w = .ok (subSl k (.slice a m cap) 0 hi) w := by
  simp [Instr.sliceAt, Instr.slice, run_underlying ht, Instr.sliceBounds, Instr.sliceBound, asIntOf, vI, hsz, subSl, h2]
theorem run_slice_l {k : Nat} {t E : TypeId} (w : World) (ht : P.underlying t = some (.slice E)) (hsz : ∀ w, (Go.sizeOf E).run P w = .ok k w) (a : Option Addr) (m cap lo : Nat) (h1 : lo ≤ m) :
    (Instr.sliceAt t (.slice a m cap) (some (vI lo)) none none).run P w = .ok (subSl k (.slice a m cap) lo m) w := by
  simp [Instr.sliceAt, Instr.slice, run_underlying ht, Instr.sliceBounds, Instr.sliceBound, asIntOf, vI, hsz, subSl, h1]

theorem ov_slice_lh {v : Value} {m k : Nat} {t E : TypeId} {x lo hi : Operand} {p q : Int} (i j : Nat) (ht : P.underlying t = some (.slice E)) (hsz : ∀ w, (Go.sizeOf E).run P w = .ok k w) (hx : evalO e x = some v) (hl : evalO e lo = some (vI p)) (hh : evalO e hi = some (vI q))
    (hv : ∃ a cap, v = .slice a m cap ∧ m ≤ cap) (hp : p = (i : Int)) (hq : q = (j : Int)) (h1 : i ≤ j) (h2 : j ≤ m) : OpV P n w0 h0 ⟨ds, .slice t x (some lo) (some hi) none, ty, ps, af, gd⟩ e L h (subSl k v i j) := by
  obtain ⟨a, cap, rfl, hc⟩ := hv
  subst hp; subst hq
  intro a' w Ev S
  have := run_slice_lh (P := P) w ht hsz a m cap i j h1 (by omega)
  simp [execOp, Ev.eval hx, Ev.eval hl, Ev.eval hh, this]
theorem ov_slice_h {v : Value} {m k : Nat} {t E : TypeId} {x hi : Operand} {q : Int} (j : Nat) (ht : P.underlying t = some (.slice E)) (hsz : ∀ w, (Go.sizeOf E).run P w = .ok k w) (hx : evalO e x = some v) (hh : evalO e hi = some (vI q))
    (hv : ∃ a cap, v = .slice a m cap ∧ m ≤ cap) (hq : q = (j : Int)) (h2 : j ≤ m) : OpV P n w0 h0 ⟨ds, .slice t x none (some hi) none, ty, ps, af, gd⟩ e L h (subSl k v 0 j) := by
  obtain ⟨a, cap, rfl, hc⟩ := hv
  subst hq
  intro a' w Ev S
  have := run_slice_h (P := P) w ht hsz a m cap j (by omega)
  simp [execOp, Ev.eval hx, Ev.eval hh, this]
theorem ov_slice_l {v : Value} {m k : Nat} {t E : TypeId} {x lo : Operand} {p : Int} (i : Nat) (ht : P.underlying t = some (.slice E)) (hsz : ∀ w, (Go.sizeOf E).run P w = .ok k w) (hx : evalO e x = some v) (hl : evalO e lo = some (vI p))
    (hv : ∃ a cap, v = .slice a m cap ∧ m ≤ cap) (hp : p = (i : Int)) (h1 : i ≤ m) : OpV P n w0 h0 ⟨ds, .slice t x (some lo) none none, ty, ps, af, gd⟩ e L h (subSl k v i m) := by
  obtain ⟨a, cap, rfl, hc⟩ := hv
  subst hp
  intro a' w Ev S
  have := run_slice_l (P := P) w ht hsz a m cap i h1
  simp [execOp, Ev.eval hx, Ev.eval hl, this]

theorem Sl.shape {h : Mem} {k : Nat} {v : Value} {m : Nat} {cs : List Value} (s : Sl h k v m cs) : ∃ a cap, v = .slice a m cap ∧ m ≤ cap := let ⟨a, cap, hv, h1, _⟩ := s; ⟨a, cap, hv, h1⟩
theorem Us.shape {k : IntKind} {h : Mem} {v : Value} {xs : List Nat} (s : Us k h v xs) : ∃ a cap, v = .slice a xs.length cap ∧ xs.length ≤ cap := s.sl.shape

/-! a slice and nil -/

theorem ov_eql_nil {v : Value} {t E yt : TypeId} {x : Operand} (ht : P.underlying t = some (.slice E)) (hx : evalO e x = some v) (hv : ∃ a m cap, v = .slice a m cap) :
    OpV P n w0 h0 ⟨ds, .binOp .eql t x (.const (.slice none 0 0)) yt, ty, ps, af, gd⟩ e L h (vB (∃ m cap, v = .slice none m cap)) := by
  obtain ⟨a, m, cap, rfl⟩ := hv
  intro a' w Ev S
  have h1 := Lib.run_eql_slice_nil (P := P) w t E a m cap 0 0 ht
  have h2 : (vB (∃ m' cap', Value.slice a m cap = .slice none m' cap')) = .bool a.isNone := by
    cases a <;> simp [vB]
  simp only [execOp, Ev.eval hx, h2]
  have h3 : (eqGuard .eql t x (.const (.slice none 0 0)) (.slice a m cap) (.slice none 0 0)).run P w = .ok () w := by simp [eqGuard]
  simp [h3, Act.eval, h1]

/-! strings -/

theorem ov_index_str {s : ByteArray} {t : TypeId} {x y : Operand} {q : Int} (i : Nat) (ht : P.underlying t = some .string) (hx : evalO e x = some (.string s)) (hy : evalO e y = some (vI q)) (hq : q = (i : Int)) (hi : i < s.size) :
    OpV P n w0 h0 ⟨ds, .index t x y, ty, ps, af, gd⟩ e L h (vU .u8 (s.get i hi).toNat) := by
  subst hq
  intro a w Ev S
  have : s[i]? = some (s.get i hi) := by
    rw [getElem?_pos s i hi]; rfl
  simp [execOp, Ev.eval hx, Ev.eval hy, Instr.index, asIntOf, vI, vU, run_underlying ht, this]

theorem ov_eql_str {s r : ByteArray} {t yt : TypeId} {x y : Operand} (hx : evalO e x = some (.string s)) (hy : evalO e y = some (.string r)) : OpV P n w0 h0 ⟨ds, .binOp .eql t x y yt, ty, ps, af, gd⟩ e L h (vB (s = r)) := by
  intro a w Ev S
  have h1 : (s.toList == r.toList) = @decide (s = r) (Classical.propDecidable _) := by
    rw [Bool.eq_iff_iff]
    simp only [beq_iff_eq, decide_eq_true_eq]
    exact ⟨fun hh => by
      have h2 : s.data.toList = r.data.toList := by
        rwa [ByteArray.toList_eq, ByteArray.toList_eq] at hh
      cases s; cases r
      simp only [ByteArray.mk.injEq]
      exact Array.toList_inj.1 h2, fun hh => by rw [hh]⟩
  simp only [execOp, Ev.eval hx, Ev.eval hy, binOp, vB]
  simp [eqGuard, Op.stringOp, h1]

end ops

/-! Own slices -/

section own
variable {P : Program} {n : Nat} {w0 : World} {h0 : Mem} {e : List (Nat × Value)} {L : List Res} {h : Mem} {Q : Exit → Act → World → Prop}

/-- An own slice of numbers. -/
def Res.us (E : Nat) (k : IntKind) (v : Value) (xs : List Nat) : Res := .gs E 1 v xs.length (Bk.us k xs)

/-- An own slice becomes one that is only read. -/
theorem gl_freeze {ops : Array Oper} {l : List Oper} {A B : List Res} {E k m : Nat} {v : Value} {cs : List Value} (k' : ∀ h', MLe h h' → Sl h' k v m cs → GL P n w0 h0 ops Q l e (A ++ B) h') : GL P n w0 h0 ops Q l e (A ++ .gs E k v m cs :: B) h := by
  intro a w Ev S
  have hok := S.ok (.gs E k v m cs) (by simp)
  have hok' := hok
  obtain ⟨hl, hr⟩ := hok
  rcases hr with ⟨rfl, rfl⟩ | ⟨g, cap, cur, rfl, hb, hg, hn, hm, hcs, ht⟩
  · have hnil : cs = [] := List.eq_nil_of_length_eq_zero (by simpa using hl)
    subst hnil
    exact k' h (MLe.refl h) (Sl.nil h k) a w Ev S.drop
  · obtain ⟨S', hle⟩ := S.freeze (b := g) (o := .cells cur E (0, 0)) rfl hg
    refine k' _ hle ?_ a w Ev S'
    refine ⟨_, cap, rfl, hn, hm, hl, fun i hi => ⟨g, 0, rfl, ?_⟩⟩
    unfold cell
    simp only [if_true, Nat.zero_add]
    rw [← ht, List.getElem?_take, if_pos (by omega)]
    simp

theorem gl_freeze_us {ops : Array Oper} {l : List Oper} {A B : List Res} {E : Nat} {k : IntKind} {v : Value} {xs : List Nat} (hlt : ∀ x ∈ xs, x < ub k) (k' : ∀ h', MLe h h' → Us k h' v xs → GL P n w0 h0 ops Q l e (A ++ B) h') :
    GL P n w0 h0 ops Q l e (A ++ .us E k v xs :: B) h := gl_freeze fun h' hh hs => k' h' hh ⟨hs, hlt⟩

/-- The owned slices can be read, too: what is owned, seen as memory. -/
theorem own_cell {A B : List Res} {E k m : Nat} {v : Value} {cs : List Value} {w : World} (S : St w0 h0 (A ++ .gs E k v m cs :: B) h w) : Sl (mem w) k v m cs := by
  have hok := S.ok (.gs E k v m cs) (by simp)
  obtain ⟨hl, hr⟩ := hok
  rcases hr with ⟨rfl, rfl⟩ | ⟨g, cap, cur, rfl, hb, hg, hn, hm, hcs, ht⟩
  · have hnil : cs = [] := List.eq_nil_of_length_eq_zero (by simpa using hl)
    subst hnil
    exact Sl.nil _ k
  · refine ⟨_, cap, rfl, hn, hm, hl, fun i hi => ⟨g, 0, rfl, ?_⟩⟩
    unfold cell mem
    rw [hg]
    simp only [Nat.zero_add]
    rw [← ht, List.getElem?_take, if_pos (by omega)]
    simp

section vals
variable {A B : List Res} {E : Nat} {ds : Option Tmp} {ty : TypeId} {ps : String} {af : Array Edge} {gd : Option (Nat × Bool)}

theorem ov_len_own {k m : Nat} {cs : List Value} {v : Value} {t E' : TypeId} {x : Operand} (ht : P.underlying t = some (.slice E')) (hx : evalO e x = some v) :
    OpV P n w0 h0 ⟨ds, .call { callee := .builtin .len, args := #[x], argTypes := #[t] }, ty, ps, af, gd⟩ e (A ++ .gs E k v m cs :: B) h (vI (m : Int)) :=
  fun a w Ev S => ov_len_sl (L := A ++ .gs E k v m cs :: B) (h := h) ht hx (own_cell S).one a w Ev S

theorem ov_index_own {k m : Nat} {cs : List Value} {v : Value} {t E' : TypeId} {x y : Operand} {q : Int} (i : Nat) (ht : P.underlying t = some (.slice E')) (hsz : ∀ w, (Go.sizeOf E').run P w = .ok k w) (hx : evalO e x = some v) (hy : evalO e y = some (vI q))
    (hq : q = (i : Int)) (hi : i < m) (hk : 0 < k) : OpV P n w0 h0 ⟨ds, .indexAddr t x y, ty, ps, af, gd⟩ e (A ++ .gs E k v m cs :: B) h (elemPtr k v i) := by
  intro a w Ev S
  have S' : St w (mem w) [] (mem w) w := St.begin (MLe.refl _)
  exact ov_index (n := n) (w0 := w) (h0 := mem w) (L := []) (h := mem w) i ht hsz hx hy (own_cell S) hq hi hk a w Ev S'

theorem ov_load_own {m : Nat} {cs : List Value} {v u : Value} {t : TypeId} {x : Operand} {i : Nat} (ha : ∀ w, (isAgg t).run P w = .ok false w) (hx : evalO e x = some (elemPtr 1 v i)) (hi : cs[i]? = some u) :
    OpV P n w0 h0 ⟨ds, .load t x, ty, ps, af, gd⟩ e (A ++ .gs E 1 v m cs :: B) h u := by
  intro a w Ev S
  have S' : St w (mem w) [] (mem w) w := St.begin (MLe.refl _)
  exact ov_load1 (n := n) (w0 := w) (h0 := mem w) (L := []) (h := mem w) ha hx (own_cell S) hi a w Ev S'

theorem ov_index_ous {k : IntKind} {xs : List Nat} {v : Value} {t E' : TypeId} {x y : Operand} {q : Int} (i : Nat) (ht : P.underlying t = some (.slice E')) (hsz : ∀ w, (Go.sizeOf E').run P w = .ok 1 w) (hx : evalO e x = some v) (hy : evalO e y = some (vI q))
    (hq : q = (i : Int)) (hi : i < xs.length) : OpV P n w0 h0 ⟨ds, .indexAddr t x y, ty, ps, af, gd⟩ e (A ++ .us E k v xs :: B) h (elemPtr 1 v i) := ov_index_own i ht hsz hx hy hq hi (by omega)

theorem ov_load_ous {k : IntKind} {xs : List Nat} {v : Value} {t : TypeId} {x : Operand} {i : Nat} (ha : ∀ w, (isAgg t).run P w = .ok false w) (hx : evalO e x = some (elemPtr 1 v i)) (hi : i < xs.length) :
    OpV P n w0 h0 ⟨ds, .load t x, ty, ps, af, gd⟩ e (A ++ .us E k v xs :: B) h (vU k (xs.getD i 0)) := ov_load_own ha hx (us_get hi)

theorem ov_len_ous {k : IntKind} {xs : List Nat} {v : Value} {t E' : TypeId} {x : Operand} (ht : P.underlying t = some (.slice E')) (hx : evalO e x = some v) :
    OpV P n w0 h0 ⟨ds, .call { callee := .builtin .len, args := #[x], argTypes := #[t] }, ty, ps, af, gd⟩ e (A ++ .us E k v xs :: B) h (vI (xs.length : Int)) := ov_len_own ht hx
end vals

theorem us_set {k : IntKind} {xs : List Nat} {i y : Nat} : (Bk.us k xs).set i (vU k y) = Bk.us k (xs.set i y) := by simp [Bk.us, List.map_set]

/-- A store into an own slice of one-cell elements. -/
theorem upd_store_own {A B : List Res} {E m : Nat} {v u : Value} {cs : List Value} {t : TypeId} {x y : Operand} {i : Nat} {ds : Option Tmp} {ty : TypeId} {ps : String} {af : Array Edge} {gd : Option (Nat × Bool)} (hsz : ∀ w, (Go.sizeOf t).run P w = .ok 1 w)
    (hx : evalO e x = some (elemPtr 1 v i)) (hy : evalO e y = some u) (hu : u.oneCell' = true) (hi : i < cs.length) : Upd P n w0 h0 ⟨ds, .store t x y, ty, ps, af, gd⟩ e A (.gs E 1 v m cs) B h (.gs E 1 v m (cs.set i u)) := by
  intro a w Ev S
  have hok := S.ok (.gs E 1 v m cs) (by simp)
  have hok' := hok
  obtain ⟨hl, hr⟩ := hok
  rcases hr with ⟨rfl, rfl⟩ | ⟨g, cap, cur, rfl, hb, hg, hn, hm, hcs, ht⟩
  · simp at hl; subst hl; simp at hi
  · have hp : elemPtr 1 (.slice (some ⟨g, 0, none⟩) m cap) i = .pointer (some ⟨g, i, none⟩) := by simp [elemPtr, addr_add]
    rw [hp] at hx
    obtain ⟨h1, h2⟩ := World.ownsRow.stored hok' i u
    refine ⟨_, ?_, h2, h1⟩
    have hi' : i < m * 1 := by omega
    have hc := World.ownsRow.cellAt hok' i hi'
    rw [List.getElem?_eq_getElem hi] at hc
    have hf := World.ownsRow.frozenAt hok' i
    have hcells : u.cells = #[u] := by cases u <;> simp [Value.oneCell'] at hu <;> rfl
    cases u <;> simp [Value.oneCell'] at hu <;>
      simp [execOp, Ev.eval hx, Ev.eval hy, Instr.storeAt, Instr.sureAddr, storeVar, hsz, Value.cells, storeCells, Go.store, Sem.run, hc, hf, Addr.add]


theorem gl_store_own {ops : Array Oper} {rest : List Oper} {A B : List Res} {E m : Nat} {v u : Value} {cs : List Value} {t : TypeId} {x y : Operand} {i : Nat} {ty : TypeId} {ps : String} {af : Array Edge} (hsz : ∀ w, (Go.sizeOf t).run P w = .ok 1 w)
    (hx : evalO e x = some (elemPtr 1 v i)) (hy : evalO e y = some u) (hu : u.oneCell' = true) (hi : i < cs.length) (k : GL P n w0 h0 ops Q rest e (A ++ .gs E 1 v m (cs.set i u) :: B) h) :
    GL P n w0 h0 ops Q (⟨none, .store t x y, ty, ps, af, none⟩ :: rest) e (A ++ .gs E 1 v m cs :: B) h := gl_upd (upd_store_own hsz hx hy hu hi) rfl rfl rfl k

theorem us_res {E : Nat} {k : IntKind} {v : Value} {xs : List Nat} {i z : Nat} : Res.gs E 1 v xs.length ((Bk.us k xs).set i (vU k z)) = Res.us E k v (xs.set i z) := by
  rw [us_set]; simp [Res.us]

theorem upd_store_ous {A B : List Res} {E : Nat} {k : IntKind} {v : Value} {xs : List Nat} {t : TypeId} {x y : Operand} {i z : Nat} {ds : Option Tmp} {ty : TypeId} {ps : String} {af : Array Edge} {gd : Option (Nat × Bool)} (hsz : ∀ w, (Go.sizeOf t).run P w = .ok 1 w)
    (hx : evalO e x = some (elemPtr 1 v i)) (hy : evalO e y = some (vU k z)) (hi : i < xs.length) : Upd P n w0 h0 ⟨ds, .store t x y, ty, ps, af, gd⟩ e A (.us E k v xs) B h (.us E k v (xs.set i z)) := by
  have := upd_store_own (P := P) (n := n) (w0 := w0) (h0 := h0) (A := A) (B := B) (h := h) (E := E) (m := xs.length) (cs := Bk.us k xs) (ds := ds) (ty := ty) (ps := ps) (af := af) (gd := gd) hsz hx hy rfl (by simpa [Bk.us] using hi)
  rw [us_res] at this
  exact this

theorem gl_store_ous {ops : Array Oper} {rest : List Oper} {A B : List Res} {E : Nat} {k : IntKind} {v : Value} {xs : List Nat} {t : TypeId} {x y : Operand} {i z : Nat} {ty : TypeId} {ps : String} {af : Array Edge} (hsz : ∀ w, (Go.sizeOf t).run P w = .ok 1 w)
    (hx : evalO e x = some (elemPtr 1 v i)) (hy : evalO e y = some (vU k z)) (hi : i < xs.length) (k' : GL P n w0 h0 ops Q rest e (A ++ .us E k v (xs.set i z) :: B) h) :
    GL P n w0 h0 ops Q (⟨none, .store t x y, ty, ps, af, none⟩ :: rest) e (A ++ .us E k v xs :: B) h := gl_upd (upd_store_ous hsz hx hy hi) rfl rfl rfl k'

/-- Something new is owned. -/
theorem St.new {w0 w w' : World} {h0 h : Mem} {L : List Res} {r : Res} (S : St w0 h0 L h w) (hgr : w.grownBy w' none) (hok : r.ok w0.heap.size w') (hfp : ∀ b, r.fp = some b → w.heap.size ≤ b) : St w0 h0 (r :: L) h w' := by
  have hsz : w0.heap.size ≤ w.heap.size := S.below.size
  have hlt : ∀ r ∈ L, ∀ b, r.fp = some b → b < w.heap.size := fun r hr b hb => Res.fp_lt (S.ok r hr) hb
  have hold : ∀ b, b < w.heap.size → w'.heap[b]? = w.heap[b]? := fun b hb => hgr.block b hb (by simp)
  refine ⟨S.below.trans ⟨hgr.os, hgr.tape, hgr.output, hgr.size, fun k hk => hold k (by omega)⟩, S.le, ?_, S.fresh, ?_, ?_, ?_⟩
  · intro b o hb
    have h1 := S.sub b o hb
    unfold mem at *
    exact (hold b (Array.getElem?_eq_some_iff.1 h1).1).trans h1
  · intro r hr
    rcases List.mem_cons.1 hr with rfl | hr
    · exact hok
    · exact Res.kept (S.ok r hr) fun b hb => hold b (hlt r hr b hb)
  · intro r hr b hb
    rcases List.mem_cons.1 hr with rfl | hr
    · have hb' := hfp b hb
      refine ⟨?_, by omega⟩
      cases hh : h b with
      | none => rfl
      | some o' =>
        have := S.sub _ o' hh
        unfold mem at this
        have := (Array.getElem?_eq_some_iff.1 this).1
        omega
    · exact S.own r hr b hb
  · refine List.pairwise_cons.2 ⟨fun r hr b hb hb' => ?_, S.apart⟩
    have := hlt r hr b hb'
    have := hfp b hb
    omega

/-- An operation that makes something new and yields a value. -/
def NewOp (P : Program) (n : Nat) (w0 : World) (h0 : Mem) (o : Oper) (e : List (Nat × Value)) (L : List Res) (h : Mem) (G : Value → Res → Prop) : Prop :=
  ∀ a w, Env n e a → St w0 h0 L h w → ∃ v w' r, (execOp a.eval o).run P w = .ok (.value v) w' ∧ w.grownBy w' none ∧ r.ok w0.heap.size w' ∧ (∀ b, r.fp = some b → w.heap.size ≤ b) ∧ G v r

theorem gl_newop {ops : Array Oper} {rest : List Oper} {o : Oper} {d : Nat} {G : Value → Res → Prop} (hv : NewOp P n w0 h0 o e L h G) (hg : o.guard = none) (hd : o.dst = some d) (hn : Nat.ble (d + 1) n = true)
    (k : ∀ v r, G v r → GL P n w0 h0 ops Q rest ((d, v) :: e) (r :: L) h) : GL P n w0 h0 ops Q (o :: rest) e L h := by
  intro a w Ev S
  refine wpList_plain hg fun K hK => ?_
  obtain ⟨v, w', r, hr, hgr, hok, hfp, hG⟩ := hv a w Ev S
  unfold Oper.wp
  rw [hr, Oper.upon_value, hd]
  exact hK _ _ (k v r hG _ _ (Ev.put (Nat.le_of_ble_eq_true hn)) (S.new hgr hok hfp))

/-- A slice is made: m zeros. -/
theorem new_make {t E : TypeId} {i : TypeInfo} {z : Value} {x y : Operand} {ds : Option Tmp} {ty : TypeId} {ps : String} {af : Array Edge} {gd : Option (Nat × Bool)} {q q' : Int} (m : Nat) (ht : P.underlying t = some (.slice E)) (hi : P.info? E = some i) (hz : i.zero = some z) (hone : z.cells = #[z]) (hsize : i.size = 1)
    (hx : evalO e x = some (vI q)) (hy : evalO e y = some (vI q')) (hq : q = (m : Int)) (hq' : q' = (m : Int)) (hb : i.bytes * m ≤ 281474976710656) (hm : m < 9223372036854775808) :
    NewOp P n w0 h0 ⟨ds, .makeSlice t x y, ty, ps, af, gd⟩ e L h (fun v r => r = .gs E 1 v m (List.replicate m z)) := by
  subst hq; subst hq'
  intro a w Ev S
  obtain ⟨w', hr, hown, hgr⟩ := run_make_full (P := P) w w0.heap.size t E i z 1 ht hi hz hsize .i64 .i64 m hb (by unfold maxLen; omega) S.below.size
  have hcells : (madeCells z.cells (m * 1)).toList = List.replicate m z := by rw [hone, Nat.mul_one]; exact toList_madeCells_one z m
  rw [hcells] at hown
  refine ⟨_, w', .gs E 1 (.slice (some ⟨w.heap.size, 0, none⟩) m m) m (List.replicate m z), ?_, hgr, hown, fun b hb => ?_, rfl⟩
  · simp only [execOp, Ev.eval hx, Ev.eval hy, vI]
    simp [hr]
  · simp only [Res.fp, Value.ownBlock, Option.some.injEq] at hb
    omega

theorem new_make_us {t E : TypeId} {i : TypeInfo} {kd : IntKind} {x y : Operand} {ds : Option Tmp} {ty : TypeId} {ps : String} {af : Array Edge} {gd : Option (Nat × Bool)} {q q' : Int} {by' : Nat} (m : Nat) (ht : P.underlying t = some (.slice E)) (hi : P.info? E = some i) (hz : i.zero = some (.int kd 0)) (hsize : i.size = 1)
    (hby : i.bytes = by') (hx : evalO e x = some (vI q)) (hy : evalO e y = some (vI q')) (hq : q = (m : Int)) (hq' : q' = (m : Int)) (hb : by' * m ≤ 281474976710656) (hm : m < 9223372036854775808) :
    NewOp P n w0 h0 ⟨ds, .makeSlice t x y, ty, ps, af, gd⟩ e L h (fun v r => r = .us E kd v (List.replicate m 0)) := by
  subst hby
  intro a w Ev S
  obtain ⟨v, w', r, h1, h2, h3, h4, h5⟩ := new_make (n := n) (L := L) (h := h) (ds := ds) (ty := ty) (ps := ps) (af := af) (gd := gd) m ht hi hz rfl hsize hx hy hq hq' hb hm a w Ev S
  refine ⟨v, w', r, h1, h2, h3, h4, ?_⟩
  rw [h5]
  simp [Res.us, Bk.us, vU]

theorem gl_make_us {ops : Array Oper} {rest : List Oper} {t E : TypeId} {i : TypeInfo} {kd : IntKind} {x y : Operand} {d : Nat} {ty : TypeId} {ps : String} {af : Array Edge} {q q' : Int} {by' : Nat} (m : Nat) (ht : P.underlying t = some (.slice E)) (hi : P.info? E = some i) (hz : i.zero = some (.int kd 0)) (hsize : i.size = 1)
    (hby : i.bytes = by') (hx : evalO e x = some (vI q)) (hy : evalO e y = some (vI q')) (hq : q = (m : Int)) (hq' : q' = (m : Int)) (hb : by' * m ≤ 281474976710656) (hm : m < 9223372036854775808) (hn : Nat.ble (d + 1) n = true)
    (k : ∀ v, GL P n w0 h0 ops Q rest ((d, v) :: e) (.us E kd v (List.replicate m 0) :: L) h) : GL P n w0 h0 ops Q (⟨some d, .makeSlice t x y, ty, ps, af, none⟩ :: rest) e L h :=
  gl_newop (new_make_us m ht hi hz hsize hby hx hy hq hq' hb hm) rfl rfl hn fun v r hr => hr ▸ k v

/-! The same by place -/

theorem gl_store_ous0 {ops : Array Oper} {rest : List Oper} {B : List Res} {E : Nat} {k : IntKind} {v : Value} {xs : List Nat} {t : TypeId} {x y : Operand} {i z : Nat} {ty : TypeId} {ps : String} {af : Array Edge} (hsz : ∀ w, (Go.sizeOf t).run P w = .ok 1 w)
    (hx : evalO e x = some (elemPtr 1 v i)) (hy : evalO e y = some (vU k z)) (hi : i < xs.length) (k' : GL P n w0 h0 ops Q rest e (.us E k v (xs.set i z) :: B) h) :
    GL P n w0 h0 ops Q (⟨none, .store t x y, ty, ps, af, none⟩ :: rest) e (.us E k v xs :: B) h := gl_store_ous (A := []) hsz hx hy hi k'
theorem gl_freeze_us0 {ops : Array Oper} {l : List Oper} {B : List Res} {E : Nat} {k : IntKind} {v : Value} {xs : List Nat} (hlt : ∀ x ∈ xs, x < ub k) (k' : ∀ h', MLe h h' → Us k h' v xs → GL P n w0 h0 ops Q l e (B) h') :
    GL P n w0 h0 ops Q l e (.us E k v xs :: B) h := gl_freeze_us (A := []) hlt k'
theorem gq_drop0 {x : Exit} {B : List Res} {r : Res} (k' : GQ n w0 h0 Q x e (B) h) : GQ n w0 h0 Q x e (r :: B) h := gq_drop (A := []) k'

theorem gl_store_ous1 {ops : Array Oper} {rest : List Oper} {r0 : Res} {B : List Res} {E : Nat} {k : IntKind} {v : Value} {xs : List Nat} {t : TypeId} {x y : Operand} {i z : Nat} {ty : TypeId} {ps : String} {af : Array Edge} (hsz : ∀ w, (Go.sizeOf t).run P w = .ok 1 w)
    (hx : evalO e x = some (elemPtr 1 v i)) (hy : evalO e y = some (vU k z)) (hi : i < xs.length) (k' : GL P n w0 h0 ops Q rest e (r0 :: .us E k v (xs.set i z) :: B) h) :
    GL P n w0 h0 ops Q (⟨none, .store t x y, ty, ps, af, none⟩ :: rest) e (r0 :: .us E k v xs :: B) h := gl_store_ous (A := [r0]) hsz hx hy hi k'
theorem gl_freeze_us1 {ops : Array Oper} {l : List Oper} {r0 : Res} {B : List Res} {E : Nat} {k : IntKind} {v : Value} {xs : List Nat} (hlt : ∀ x ∈ xs, x < ub k) (k' : ∀ h', MLe h h' → Us k h' v xs → GL P n w0 h0 ops Q l e (r0 :: B) h') :
    GL P n w0 h0 ops Q l e (r0 :: .us E k v xs :: B) h := gl_freeze_us (A := [r0]) hlt k'
theorem gq_drop1 {x : Exit} {r0 : Res} {B : List Res} {r : Res} (k' : GQ n w0 h0 Q x e (r0 :: B) h) : GQ n w0 h0 Q x e (r0 :: r :: B) h := gq_drop (A := [r0]) k'

theorem gl_store_ous2 {ops : Array Oper} {rest : List Oper} {r0 r1 : Res} {B : List Res} {E : Nat} {k : IntKind} {v : Value} {xs : List Nat} {t : TypeId} {x y : Operand} {i z : Nat} {ty : TypeId} {ps : String} {af : Array Edge} (hsz : ∀ w, (Go.sizeOf t).run P w = .ok 1 w)
    (hx : evalO e x = some (elemPtr 1 v i)) (hy : evalO e y = some (vU k z)) (hi : i < xs.length) (k' : GL P n w0 h0 ops Q rest e (r0 :: r1 :: .us E k v (xs.set i z) :: B) h) :
    GL P n w0 h0 ops Q (⟨none, .store t x y, ty, ps, af, none⟩ :: rest) e (r0 :: r1 :: .us E k v xs :: B) h := gl_store_ous (A := [r0, r1]) hsz hx hy hi k'
theorem gl_freeze_us2 {ops : Array Oper} {l : List Oper} {r0 r1 : Res} {B : List Res} {E : Nat} {k : IntKind} {v : Value} {xs : List Nat} (hlt : ∀ x ∈ xs, x < ub k) (k' : ∀ h', MLe h h' → Us k h' v xs → GL P n w0 h0 ops Q l e (r0 :: r1 :: B) h') :
    GL P n w0 h0 ops Q l e (r0 :: r1 :: .us E k v xs :: B) h := gl_freeze_us (A := [r0, r1]) hlt k'
theorem gq_drop2 {x : Exit} {r0 r1 : Res} {B : List Res} {r : Res} (k' : GQ n w0 h0 Q x e (r0 :: r1 :: B) h) : GQ n w0 h0 Q x e (r0 :: r1 :: r :: B) h := gq_drop (A := [r0, r1]) k'

theorem gl_store_ous3 {ops : Array Oper} {rest : List Oper} {r0 r1 r2 : Res} {B : List Res} {E : Nat} {k : IntKind} {v : Value} {xs : List Nat} {t : TypeId} {x y : Operand} {i z : Nat} {ty : TypeId} {ps : String} {af : Array Edge} (hsz : ∀ w, (Go.sizeOf t).run P w = .ok 1 w)
    (hx : evalO e x = some (elemPtr 1 v i)) (hy : evalO e y = some (vU k z)) (hi : i < xs.length) (k' : GL P n w0 h0 ops Q rest e (r0 :: r1 :: r2 :: .us E k v (xs.set i z) :: B) h) :
    GL P n w0 h0 ops Q (⟨none, .store t x y, ty, ps, af, none⟩ :: rest) e (r0 :: r1 :: r2 :: .us E k v xs :: B) h := gl_store_ous (A := [r0, r1, r2]) hsz hx hy hi k'
theorem gl_freeze_us3 {ops : Array Oper} {l : List Oper} {r0 r1 r2 : Res} {B : List Res} {E : Nat} {k : IntKind} {v : Value} {xs : List Nat} (hlt : ∀ x ∈ xs, x < ub k) (k' : ∀ h', MLe h h' → Us k h' v xs → GL P n w0 h0 ops Q l e (r0 :: r1 :: r2 :: B) h') :
    GL P n w0 h0 ops Q l e (r0 :: r1 :: r2 :: .us E k v xs :: B) h := gl_freeze_us (A := [r0, r1, r2]) hlt k'
theorem gq_drop3 {x : Exit} {r0 r1 r2 : Res} {B : List Res} {r : Res} (k' : GQ n w0 h0 Q x e (r0 :: r1 :: r2 :: B) h) : GQ n w0 h0 Q x e (r0 :: r1 :: r2 :: r :: B) h := gq_drop (A := [r0, r1, r2]) k'

end own
end Bk
