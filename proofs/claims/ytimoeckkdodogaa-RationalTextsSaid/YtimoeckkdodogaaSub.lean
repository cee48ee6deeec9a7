/- Parts of slices that the call owns, and full slice expressions. They hold for any program P. -/
import Derived.Test.YtimoeckkdodogaaBox
namespace Bk
set_option linter.unusedVariables false
set_option linter.unusedSimpArgs false
open Go Go.RowKit

/-- A full slice expression's value. -/
def subSl3 (k : Nat) (v : Value) (lo hi mx : Nat) : Value :=
  match v with
  | .slice a _ _ => .slice (if mx = lo then a else a.map (·.add (lo * k))) (hi - lo) (mx - lo)
  | _ => undef

section
variable {P : Program} {n : Nat} {w0 : World} {h0 : Mem} {e : List (Nat × Value)} {L : List Res} {h : Mem} {Q : Exit → Act → World → Prop}
variable {ds : Option Tmp} {ty : TypeId} {ps : String} {af : Array Edge} {gd : Option (Nat × Bool)}

theorem Sl.sub3 {h : Mem} {k : Nat} {v : Value} {m : Nat} {cs : List Value} (s : Sl h k v m cs) {lo hi mx : Nat} (h1 : lo ≤ hi) (h2 : hi ≤ mx) (h3 : mx ≤ m) : Sl h k (subSl3 k v lo hi mx) (hi - lo) ((cs.drop (lo * k)).take ((hi - lo) * k)) := by
  obtain ⟨a, cap, rfl, h4, h5, h6, h7⟩ := s
  refine ⟨_, _, rfl, by omega, by omega, ?_, fun i hi' => ?_⟩
  · rw [List.length_take, List.length_drop, h6]
    have := Nat.mul_le_mul_right k (show lo + (hi - lo) ≤ m by omega)
    rw [Nat.add_mul] at this
    omega
  · rw [List.length_take, List.length_drop] at hi'
    have hlt : i < (hi - lo) * k := by omega
    have hpos : 0 < (hi - lo) * k := by omega
    have hlohi : lo < hi := by
      rcases Nat.lt_or_ge lo hi with h' | h'
      · exact h'
      · rw [show hi - lo = 0 by omega, Nat.zero_mul] at hpos; omega
    obtain ⟨b, o, ha, hc⟩ := h7 (lo * k + i) (by omega)
    subst ha
    refine ⟨b, o + lo * k, by rw [if_neg (by omega)]; simp [addr_add], ?_⟩
    rw [List.getElem?_take, if_pos hlt, List.getElem?_drop, ← hc, Nat.add_assoc]

theorem Us.sub3 {k : IntKind} {h : Mem} {v : Value} {xs : List Nat} (s : Us k h v xs) {lo hi mx : Nat} (h1 : lo ≤ hi) (h2 : hi ≤ mx) (h3 : mx ≤ xs.length) : Us k h (subSl3 1 v lo hi mx) ((xs.drop lo).take (hi - lo)) := by
  have := s.sl.sub3 h1 h2 h3
  simp only [Nat.mul_one] at this
  refine ⟨?_, fun x hx => s.lt x (List.mem_of_mem_drop (List.mem_of_mem_take hx))⟩
  have hl : ((xs.drop lo).take (hi - lo)).length = hi - lo := by rw [List.length_take, List.length_drop]; omega
  rw [hl]
  simpa [us] using this

/-- The shape of a slice that is owned. -/
theorem St.own_shape {E : Nat} {k : IntKind} {v : Value} {xs : List Nat} {w : World} (S : St w0 h0 L h w) (hm : .us E k v xs ∈ L) : ∃ a cap, v = .slice a xs.length cap ∧ xs.length ≤ cap ∧ cap ≤ maxLen ∧ (0 < xs.length → ∃ g, a = some ⟨g, 0, none⟩) := by
  obtain ⟨hl, hr⟩ := S.ok _ hm
  rcases hr with ⟨rfl, h0'⟩ | ⟨g, cap, cur, rfl, hb, hg, hn, hcm, hcs, ht⟩
  · exact ⟨none, 0, by rw [h0'], by omega, by omega, fun h => by omega⟩
  · exact ⟨_, cap, rfl, hn, hcm, fun _ => ⟨g, rfl⟩⟩

theorem St.own_self {E : Nat} {k : IntKind} {v : Value} {xs : List Nat} {w : World} (S : St w0 h0 L h w) (hm : .us E k v xs ∈ L) : v = subSl 1 v 0 xs.length := by
  obtain ⟨a, cap, rfl, h1, h2, h3⟩ := S.own_shape hm
  simp only [subSl, Nat.zero_mul, Nat.sub_zero]
  by_cases hc : cap = 0
  · rw [if_pos hc]
  · rw [if_neg hc]
    cases a with
    | none => rfl
    | some x =>
      obtain ⟨b, o, sp⟩ := x
      simp [Addr.add]

/-- A part of an own slice, up to its end. -/
theorem ov_slice_own_l {E : Nat} {k : IntKind} {v : Value} {xs : List Nat} {t E' : TypeId} {x lo : Operand} {p : Int} (hm : .us E k v xs ∈ L) (i : Nat) (ht : P.underlying t = some (.slice E')) (hsz : ∀ w, (Go.sizeOf E').run P w = .ok 1 w) (hx : evalO e x = some v) (hl : evalO e lo = some (vI p))
    (hp : p = (i : Int)) (h1 : i ≤ xs.length) : OpV P n w0 h0 ⟨ds, .slice t x (some lo) none none, ty, ps, af, gd⟩ e L h (subSl 1 v i xs.length) := by
  intro a w Ev S
  obtain ⟨ad, cap, hv, hc, _⟩ := S.own_shape hm
  exact ov_slice_l i ht hsz hx hl ⟨ad, cap, hv, hc⟩ hp h1 a w Ev S

theorem run_slice3 {t E : TypeId} {w : World} (ht : P.underlying t = some (.slice E)) (hsz : ∀ w, (Go.sizeOf E).run P w = .ok 1 w) (a : Option Addr) (m cap lo hi mx : Nat) (h1 : lo ≤ hi) (h2 : hi ≤ mx) (h3 : mx ≤ cap) :
    (Instr.sliceAt t (.slice a m cap) (some (vI lo)) (some (vI hi)) (some (vI mx))).run P w = .ok (subSl3 1 (.slice a m cap) lo hi mx) w := by
  simp [Instr.sliceAt, Instr.slice, run_underlying ht, Instr.sliceBounds, Instr.sliceBound, asIntOf, vI, hsz, subSl3, h1, h2, h3]
theorem run_slice30 {t E : TypeId} {w : World} (ht : P.underlying t = some (.slice E)) (hsz : ∀ w, (Go.sizeOf E).run P w = .ok 1 w) (a : Option Addr) (m cap hi mx : Nat) (h2 : hi ≤ mx) (h3 : mx ≤ cap) :
    (Instr.sliceAt t (.slice a m cap) none (some (vI hi)) (some (vI mx))).run P w = .ok (subSl3 1 (.slice a m cap) 0 hi mx) w := by
  simp [Instr.sliceAt, Instr.slice, run_underlying ht, Instr.sliceBounds, Instr.sliceBound, asIntOf, vI, hsz, subSl3, h2, h3]

theorem ov_slice_own3 {E : Nat} {k : IntKind} {v : Value} {xs : List Nat} {t E' : TypeId} {x lo hi mx : Operand} {p q r : Int} (hm : .us E k v xs ∈ L) (i j l : Nat) (ht : P.underlying t = some (.slice E')) (hsz : ∀ w, (Go.sizeOf E').run P w = .ok 1 w) (hx : evalO e x = some v) (hl : evalO e lo = some (vI p)) (hh : evalO e hi = some (vI q)) (hmx : evalO e mx = some (vI r))
    (hp : p = (i : Int)) (hq : q = (j : Int)) (hr : r = (l : Int)) (h1 : i ≤ j) (h2 : j ≤ l) (h3 : l ≤ xs.length) : OpV P n w0 h0 ⟨ds, .slice t x (some lo) (some hi) (some mx), ty, ps, af, gd⟩ e L h (subSl3 1 v i j l) := by
  subst hp; subst hq; subst hr
  intro a w Ev S
  obtain ⟨ad, cap, rfl, hc, _⟩ := S.own_shape hm
  have := run_slice3 (P := P) (w := w) ht hsz ad xs.length cap i j l h1 h2 (by omega)
  simp [execOp, Ev.eval hx, Ev.eval hl, Ev.eval hh, Ev.eval hmx, this]
theorem ov_slice_own30 {E : Nat} {k : IntKind} {v : Value} {xs : List Nat} {t E' : TypeId} {x hi mx : Operand} {q r : Int} (hm : .us E k v xs ∈ L) (j l : Nat) (ht : P.underlying t = some (.slice E')) (hsz : ∀ w, (Go.sizeOf E').run P w = .ok 1 w) (hx : evalO e x = some v) (hh : evalO e hi = some (vI q)) (hmx : evalO e mx = some (vI r))
    (hq : q = (j : Int)) (hr : r = (l : Int)) (h2 : j ≤ l) (h3 : l ≤ xs.length) : OpV P n w0 h0 ⟨ds, .slice t x none (some hi) (some mx), ty, ps, af, gd⟩ e L h (subSl3 1 v 0 j l) := by
  subst hq; subst hr
  intro a w Ev S
  obtain ⟨ad, cap, rfl, hc, _⟩ := S.own_shape hm
  have := run_slice30 (P := P) (w := w) ht hsz ad xs.length cap j l h2 (by omega)
  simp [execOp, Ev.eval hx, Ev.eval hh, Ev.eval hmx, this]

/-- An element of a part of an own slice. -/
theorem ov_index_osub {E : Nat} {k : IntKind} {v u : Value} {xs : List Nat} {t E' : TypeId} {x y : Operand} {q : Int} {lo : Nat} (hm : .us E k v xs ∈ L) (hu : u = subSl 1 v lo xs.length) (i : Nat) (ht : P.underlying t = some (.slice E')) (hsz : ∀ w, (Go.sizeOf E').run P w = .ok 1 w) (hx : evalO e x = some u) (hy : evalO e y = some (vI q))
    (hq : q = (i : Int)) (hi : lo + i < xs.length) : OpV P n w0 h0 ⟨ds, .indexAddr t x y, ty, ps, af, gd⟩ e L h (elemPtr 1 v (lo + i)) := by
  subst hq; subst hu
  intro a w Ev S
  obtain ⟨ad, cap, rfl, hc, hc2, hg⟩ := S.own_shape hm
  obtain ⟨g, rfl⟩ := hg (by omega)
  have hcl : ¬ cap = lo := by omega
  have h2 : (i : Int) < ((xs.length - lo : Nat) : Int) := by omega
  have h3 : (0 : Int) ≤ (i : Int) := by omega
  simp only [subSl, if_neg hcl, Option.map_some, addr_add, Nat.mul_one, Nat.zero_add] at hx
  simp [execOp, Ev.eval hx, Ev.eval hy, Instr.indexAt, asIntOf, vI, run_underlying ht, h2, h3, hsz, elemPtr, addr_add]
  intro hge
  omega

/-- The shape of what is owned, as a fact of the walk. -/
theorem gl_shape {ops : Array Oper} {l : List Oper} {E : Nat} {k : IntKind} {v : Value} {xs : List Nat} (hm : .us E k v xs ∈ L) (k' : ∀ a cap, v = .slice a xs.length cap → xs.length ≤ cap → GL P n w0 h0 ops Q l e L h) : GL P n w0 h0 ops Q l e L h := by
  intro a w Ev S
  obtain ⟨ad, cap, hv, hc, _⟩ := S.own_shape hm
  exact k' ad cap hv hc a w Ev S

/-- What is owned comes to the front. -/
theorem gl_front {ops : Array Oper} {l : List Oper} {A B : List Res} {r : Res} (k' : GL P n w0 h0 ops Q l e (r :: (A ++ B)) h) : GL P n w0 h0 ops Q l e (A ++ r :: B) h :=
  fun a w Ev S => k' a w Ev (S.perm List.perm_middle)


/-- A call of a function that the model stands in for. -/
theorem ov_callx {f : Nat} {xs : List Operand} {ts : Array TypeId} {vs : List Value} {v : Value} (hcall : ∀ w, (callFunc f vs.toArray).run P w = .ok (.value v) w) (hvs : Evals e xs vs) :
    OpV P n w0 h0 ⟨ds, .call { callee := .value (.func f), args := xs.toArray, argTypes := ts }, ty, ps, af, gd⟩ e L h v := by
  intro a w Ev S
  have hargs : xs.toArray.map a.eval = vs.toArray := by rw [List.map_toArray, Ev.evals hvs]
  simp only [execOp, resolve, Act.eval]
  simp [Deferred.ofValue, invoke, hcall, hargs]

theorem AlOk.nil : AlOk P n [] := fun x hx => by cases hx
theorem AlOk.cons {i d E : Nat} {cs : List Value} {al : Als} (hd : Nat.ble (d + 1) n = true) (hz : ∀ w, ∃ z, (zeroValue E).run P w = .ok z w ∧ z.cells = cs.toArray) (h : AlOk P n al) : AlOk P n ((i, (d, E, cs)) :: al) := by
  intro x hx
  rcases List.mem_cons.1 hx with rfl | hx
  · exact ⟨Nat.le_of_ble_eq_true hd, hz⟩
  · exact h x hx
theorem zero_run {E : TypeId} {i : TypeInfo} {z : Value} {cs : List Value} (hi : P.info? E = some i) (hz : i.zero = some z) (hc : z.cells = cs.toArray) (w : World) : ∃ z, (zeroValue E).run P w = .ok z w ∧ z.cells = cs.toArray :=
  ⟨z, by simp [zeroValue, typeInfo, hi, hz], hc⟩
theorem hae_nil {e : List (Nat × Value)} {al : Als} : ∀ x ∈ ([] : Als), al.lookup x.1 = some x.2 ∧ e.lookup x.2.1 = none := fun x hx => by cases hx
theorem hae_cons {e : List (Nat × Value)} {al al' : Als} {y : Nat × (Nat × TypeId × List Value)} (h1 : al.lookup y.1 = some y.2) (h2 : e.lookup y.2.1 = none) (h : ∀ x ∈ al', al.lookup x.1 = some x.2 ∧ e.lookup x.2.1 = none) : ∀ x ∈ y :: al', al.lookup x.1 = some x.2 ∧ e.lookup x.2.1 = none := by
  intro x hx
  rcases List.mem_cons.1 hx with rfl | hx
  · exact ⟨h1, h2⟩
  · exact h x hx
theorem ov_shl_i {yk : IntKind} {t yt : TypeId} {x y : Operand} {p s : Nat} (hx : evalO e x = some (vI (p : Int))) (hy : evalO e y = some (.int yk (s : Int))) (hs : s ≤ 63) (hp : p * 2 ^ s < 9223372036854775808) :
    OpV P n w0 h0 ⟨ds, .binOp .shl t x y yt, ty, ps, af, gd⟩ e L h (vI ((p * 2 ^ s : Nat) : Int)) := by
  intro a w E S
  have h1 : ¬ ((s : Int) < 0) := by omega
  have hm : min s IntKind.i64.bits = s := Nat.min_eq_left (by have : IntKind.i64.bits = 64 := rfl; omega)
  have h3 : IntKind.i64.wrap ((p : Int) * 2 ^ s) = (p : Int) * 2 ^ s := by
    have e : (p : Int) * 2 ^ s = ((p * 2 ^ s : Nat) : Int) := by rw [Int.natCast_mul, Int.natCast_pow]; rfl
    rw [e]
    exact wrap_i (by omega) (by omega)
  simp only [execOp, E.eval hx, E.eval hy, vI, binOp]
  simp [eqGuard_int, Op.shift, h1, hm, h3]
end
end Bk
