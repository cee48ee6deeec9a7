/- Texts that the proof needs, part 3. -/
import Derived.Test.YtkdmphehabpcfaaGreatK2
import Derived.Deep.MidRow

namespace Bk
set_option linter.unusedVariables false
set_option linter.unusedSimpArgs false
open Go Go.RowKit

section
variable {P : Program} {n : Nat} {w0 : World} {h0 : Mem} {e : List (Nat × Value)} {L : List Res} {h : Mem} {Q : Exit → Act → World → Prop}
variable {ds : Option Tmp} {ty : TypeId} {ps : String} {af : Array Edge} {gd : Option (Nat × Bool)}

/-- A variable in memory. -/
abbrev Res.var (b : Nat) (E : TypeId) (cs : List Value) : Res := .blk b (.cells cs.toArray E)
/-- Its address, or that of a part. -/
abbrev vP (b k : Nat) : Value := .pointer (some ⟨b, k, none⟩)

theorem heap_last (w : World) (o : Obj) : (w.alloc o).heap[w.heap.size]? = some o := by
  show (w.heap.push o)[w.heap.size]? = some o
  exact Array.getElem?_push_size

theorem new_box {E : TypeId} {x : Operand} {v : Value} {cs : List Value} (hx : evalO e x = some v) (hc : v.cells = cs.toArray) :
    NewOp P n w0 h0 ⟨ds, .box E x, ty, ps, af, gd⟩ e L h (fun u r => ∃ b, u = vP b 0 ∧ r = .var b E cs) := by
  intro a w Ev S
  refine ⟨_, w.alloc (.cells cs.toArray E), .var w.heap.size E cs, ?_, World.grownBy_alloc w _ none, ?_, fun b hb => ?_, _, rfl, rfl⟩
  · simp [execOp, Ev.eval hx, Instr.box, newVar, newRow, newObj, Sem.run, hc]
  · exact heap_last w _
  · simp only [Res.fp, Option.some.injEq] at hb
    omega

theorem new_alloc {E : TypeId} {i : TypeInfo} {z : Value} {cs : List Value} (hi : P.info? E = some i) (hz : i.zero = some z) (hc : z.cells = cs.toArray) :
    NewOp P n w0 h0 ⟨ds, .alloc E, ty, ps, af, gd⟩ e L h (fun u r => ∃ b, u = vP b 0 ∧ r = .var b E cs) := by
  intro a w Ev S
  refine ⟨_, w.alloc (.cells cs.toArray E), .var w.heap.size E cs, ?_, World.grownBy_alloc w _ none, ?_, fun b hb => ?_, _, rfl, rfl⟩
  · have hz' : (zeroValue E).run P w = .ok z w := by simp [zeroValue, typeInfo, hi, hz]
    simp [execOp, Instr.alloc, hz', newVar, newRow, newObj, Sem.run, hc]
  · exact heap_last w _
  · simp only [Res.fp, Option.some.injEq] at hb
    omega

theorem ov_field_addr {t : TypeId} {x : Operand} {f b k : Nat} {fs : Array Field} {fl : Field} {m : Nat} (ht : P.underlying t = some (.struct fs)) (hf : fs[f]? = some fl) (hsz : ∀ w, (Go.sizeOf fl.type).run P w = .ok (m + 1) w) (hx : evalO e x = some (vP b k)) :
    OpV P n w0 h0 ⟨ds, .fieldAddr t x f, ty, ps, af, gd⟩ e L h (vP b (k + fl.offset)) := by
  intro a w Ev S
  simp [execOp, Ev.eval hx, Instr.fieldAt, run_underlying ht, hf, Instr.sureAddr, fieldPlace, hsz, addr_add]

theorem var_range {b : Nat} {E : TypeId} {cs : List Value} {w : World} (hw : w.heap[b]? = some (.cells cs.toArray E)) (k : Nat) (vs : List Value) (hv : (cs.drop k).take vs.length = vs) : w.rangeAt b k vs := by
  intro j v hj
  have hjl : j < vs.length := (List.getElem?_eq_some_iff.1 hj).1
  have h1 : cs[k + j]? = some v := by
    rw [← hv, List.getElem?_take, if_pos hjl, List.getElem?_drop] at hj
    exact hj
  unfold World.cell?
  simp [hw, h1]

/-- A variable of one cell, or a part of one cell, is read. -/
theorem ov_load_var {t : TypeId} {x : Operand} {b k : Nat} {E : TypeId} {cs : List Value} {v : Value} (hm : .var b E cs ∈ L) (ha : ∀ w, (isAgg t).run P w = .ok false w) (hx : evalO e x = some (vP b k)) (hv : cs[k]? = some v) :
    OpV P n w0 h0 ⟨ds, .load t x, ty, ps, af, gd⟩ e L h v := by
  intro a w Ev S
  have hw : w.heap[b]? = some (.cells cs.toArray E) := S.ok _ hm
  have hc : w.cell? ⟨b, k, none⟩ = some v := by unfold World.cell?; simp [hw, hv]
  simp [execOp, Ev.eval hx, Instr.loadAt, Instr.sureAddr, loadVar, ha, Go.load, Sem.run, hc]

/-- A struct is read. -/
theorem ov_load_agg {t : TypeId} {x : Operand} {b k : Nat} {E : TypeId} {cs vs : List Value} {d : TypeDesc} (hm : .var b E cs ∈ L) (hu : P.underlying t = some d) (hd : d.isRow = true) (hi : (P.info? t).map (·.size) = some vs.length) (hx : evalO e x = some (vP b k)) (hv : (cs.drop k).take vs.length = vs) :
    OpV P n w0 h0 ⟨ds, .load t x, ty, ps, af, gd⟩ e L h (.agg vs.toArray) := by
  intro a w Ev S
  have hw : w.heap[b]? = some (.cells cs.toArray E) := S.ok _ hm
  simp only [execOp, Ev.eval hx]
  rw [Sem.run_bind, run_loadAt_mid w b k t vs d (var_range hw k vs hv) hu hd hi]
  rfl

theorem setCells_var {b : Nat} {E : TypeId} : ∀ (vs : List Value) (k : Nat) (cs : List Value) (w : World), w.heap[b]? = some (.cells cs.toArray E) →
    (w.setCells b k vs).heap[b]? = some (.cells (vs.zipIdx.foldl (fun c p => c.set (k + p.2) p.1) cs).toArray E) ∧ w.grownBy (w.setCells b k vs) (some b)
  | [], k, cs, w, hw => ⟨hw, ⟨rfl, rfl, rfl, Nat.le_refl _, fun _ _ _ => rfl⟩⟩
  | v :: r, k, cs, w, hw => by
    have h1 : (w.setCell ⟨b, k, none⟩ v).heap[b]? = some (.cells (cs.set k v).toArray E) := by
      simp [World.setCell, Array.getElem?_modify, hw]
    obtain ⟨h2, h3⟩ := setCells_var r (k + 1) (cs.set k v) _ h1
    have e1 : ((v :: r).zipIdx.foldl (fun c p => c.set (k + p.2) p.1) cs) = (r.zipIdx.foldl (fun c p => c.set (k + 1 + p.2) p.1) (cs.set k v)) := by
      rw [List.zipIdx_cons, List.foldl_cons, Nat.add_zero, List.zipIdx_succ, List.foldl_map]
      congr 1
      funext c p
      rw [show k + (p.2 + 1) = k + 1 + p.2 by omega]
    refine ⟨?_, ?_⟩
    · rw [World.setCells, e1]; exact h2
    · have hlt : b < w.heap.size := (Array.getElem?_eq_some_iff.1 hw).1
      refine ⟨?_, ?_, ?_, ?_, ?_⟩
      · exact h3.os
      · exact h3.tape
      · exact h3.output
      · have := h3.size
        simpa [World.setCells, World.setCell] using this
      · intro b' hb' hne
        have h4 := h3.block b' (by simpa [World.setCell] using hb') hne
        rw [World.setCells, h4]
        have : b ≠ b' := fun hh => hne (by rw [hh])
        simp [World.setCell, Array.getElem?_modify, this]

/-- What lies there behind a store. -/
def putAt (cs : List Value) (k : Nat) (vs : List Value) : List Value := vs.zipIdx.foldl (fun c p => c.set (k + p.2) p.1) cs

/-- A variable, or a part of it, is written. -/
theorem upd_store_var {A B : List Res} {E t : TypeId} {b k : Nat} {cs vs : List Value} {v : Value} {x y : Operand} (hx : evalO e x = some (vP b k)) (hy : evalO e y = some v) (hv : v.cells = vs.toArray) (h1 : vs.all (·.oneCell') = true)
    (hi : (P.info? t).map (·.size) = some vs.length) (hk : k + vs.length ≤ cs.length) : Upd P n w0 h0 ⟨ds, .store t x y, ty, ps, af, gd⟩ e A (.var b E cs) B h (.var b E (putAt cs k vs)) := by
  intro a w Ev S
  have hw : w.heap[b]? = some (.cells cs.toArray E) := S.ok (.var b E cs) (by simp)
  obtain ⟨h2, h3⟩ := setCells_var vs k cs w hw
  refine ⟨w.setCells b k vs, ?_, h3, h2⟩
  have hthere : w.there b k vs.length := by
    intro j hj
    have : k + j < cs.length := by omega
    refine ⟨?_, ?_⟩
    · unfold World.cell?
      simp [hw, this]
    · simp [World.frozen?, hw]
  have hrun := run_storeCells_cells (P := P) b k vs 0 w (fun j hj => by simpa using (hthere j hj).1) (fun j hj => by simpa using (hthere j hj).2) (fun u hu => List.all_eq_true.1 h1 u hu)
  have hsz : (Go.sizeOf t).run P w = .ok vs.length w := by
    cases hq : P.info? t with
    | none => simp [hq] at hi
    | some i =>
      have : i.size = vs.length := by simpa [hq] using hi
      simp [Go.sizeOf, typeInfo, hq, this]
  simp only [Nat.add_zero] at hrun
  simp [execOp, Ev.eval hx, Ev.eval hy, Instr.storeAt, Instr.sureAddr, storeVar, hsz, hv, hrun]

def PartsV (e : List (Nat × Value)) : List (Nat × Operand) → List (Nat × Value) → Prop
  | [], [] => True
  | (i, x) :: r, (j, v) :: s => i = j ∧ evalO e x = some v ∧ PartsV e r s
  | _, _ => False

theorem PartsV.eval {a : Act} (Ev : Env n e a) : ∀ {ps : List (Nat × Operand)} {vs : List (Nat × Value)}, PartsV e ps vs → (ps.map fun p => (p.1, a.eval p.2)) = vs
  | [], [], _ => rfl
  | (i, x) :: r, (j, v) :: s, h => by
    obtain ⟨rfl, h2, h3⟩ := h
    rw [List.map_cons, PartsV.eval Ev h3, Ev.eval h2]
  | [], _ :: _, h => h.elim
  | _ :: _, [], h => h.elim

theorem Us.oneCell {k : IntKind} {v : Value} {xs : List Nat} (s : Us k h v xs) : v.oneCell' = true := by
  obtain ⟨_, _, rfl⟩ := s.one
  rfl
theorem Us.cells {k : IntKind} {v : Value} {xs : List Nat} (s : Us k h v xs) : v.cells = [v].toArray := by
  obtain ⟨_, _, rfl⟩ := s.one
  rfl

theorem oc0 : ([] : List Value).all (·.oneCell') = true := rfl
theorem ocu {k : IntKind} {h : Mem} {v : Value} {xs : List Nat} {cs : List Value} (s : Us k h v xs) (r : cs.all (·.oneCell') = true) : (v :: cs).all (·.oneCell') = true := by
  rw [List.all_cons, s.oneCell, r]; rfl
theorem ocr {v : Value} {cs : List Value} (s : v.oneCell' = true) (r : cs.all (·.oneCell') = true) : (v :: cs).all (·.oneCell') = true := by
  rw [List.all_cons, s, r]; rfl
/-- One part of what is built is laid in place. -/
theorem setAll_mid : ∀ (cs B A C : List Value), cs.length = B.length → (cs.zipIdx.foldl (fun (a : Array Value) (p : Value × Nat) => a.setIfInBounds (A.length + p.2) p.1) (A ++ B ++ C).toArray) = (A ++ cs ++ C).toArray := by
  have key : ∀ (cs B A C : List Value) (k : Nat) (A0 : Nat), A.length = A0 + k → cs.length = B.length → ((cs.zipIdx k).foldl (fun (a : Array Value) (p : Value × Nat) => a.setIfInBounds (A0 + p.2) p.1) (A ++ B ++ C).toArray) = (A ++ cs ++ C).toArray := by
    intro cs
    induction cs with
    | nil =>
      intro B A C k A0 hA hB
      have : B = [] := List.eq_nil_of_length_eq_zero hB.symm
      subst this; rfl
    | cons c cs ih =>
      intro B A C k A0 hA hB
      cases B with
      | nil => simp at hB
      | cons b B =>
        have e : (A ++ b :: B ++ C).toArray.setIfInBounds (A0 + k) c = ((A ++ [c]) ++ B ++ C).toArray := by
          rw [← hA]
          simp [List.set_append]
        rw [List.zipIdx_cons, List.foldl_cons]
        show List.foldl _ ((A ++ b :: B ++ C).toArray.setIfInBounds (A0 + k) c) _ = _
        rw [e, ih B (A ++ [c]) C (k + 1) A0 (by simp; omega) (by simpa using hB)]
        simp
  intro cs B A C h
  exact key cs B A C 0 A.length rfl h
theorem fill_one {place : Nat → Option (Nat × Nat)} {i off size : Nat} {A B C cs : List Value} {v : Value} {rest : List (Nat × Value)} {r : Option (Array Value)} (hp : place i = some (off, size)) (hA : A.length = off) (hB : B.length = size) (hs : cs.length = size) (hc : v.cells = cs.toArray)
    (k : Instr.fill place (A ++ cs ++ C).toArray rest = r) : Instr.fill place (A ++ B ++ C).toArray ((i, v) :: rest) = r := by
  subst hA
  have h1 : v.cells.size = size := by rw [hc]; simpa using hs
  have h3 : (decide (v.cells.size ≠ size) || decide (A.length + v.cells.size > (A ++ B ++ C).toArray.size)) = false := by
    rw [h1]; simp; omega
  simp only [Instr.fill, hp]
  rw [h3, if_neg (by decide), hc, ← Array.foldl_toList, Array.toList_zipIdx, setAll_mid cs B A C (by omega)]
  exact k
theorem fill_nil {place : Nat → Option (Nat × Nat)} {vs : List Value} : Instr.fill place vs.toArray [] = some vs.toArray := rfl
/-- A struct is built. -/
theorem ov_build_parts {t : TypeId} {i : TypeInfo} {z : Value} {fs : Array Field} {places : Array (Nat × Nat)} {parts : List (Nat × Operand)} {ps' : List (Nat × Value)} {vs : List Value} (ht : P.underlying t = some (.struct fs)) (hi : P.info? t = some i) (hz : i.zero = some z)
    (hpl : ∀ w, (fs.mapM fun (f : Field) => do pure (f.offset, ← Go.sizeOf f.type)).run P w = .ok places w) (hp : PartsV e parts ps') (hf : Instr.fill (places[·]?) z.cells ps' = some vs.toArray) :
    OpV P n w0 h0 ⟨ds, .build t parts.toArray, ty, ps, af, gd⟩ e L h (.agg vs.toArray) := by
  intro a w Ev S
  have hpa : (parts.toArray.map fun (p : Nat × Operand) => (p.1, a.eval p.2)).toList = ps' := by
    rw [List.map_toArray]
    exact hp.eval Ev
  have hz' : (zeroValue t).run P w = .ok z w := by simp [zeroValue, typeInfo, hi, hz]
  simp only [execOp, Instr.build]
  rw [show (parts.toArray.map fun (i, x) => (i, a.eval x)).toList = ps' from hpa]
  simp only [Sem.run_bind, hz', Result.andThen_ok, run_underlying ht, hpl, hf]
  rfl

/-- The same, by values. -/
theorem ov_build {t : TypeId} {i : TypeInfo} {z : Value} {fs : Array Field} {places : Array (Nat × Nat)} {parts : Array (Nat × Operand)} {ps' : List (Nat × Value)} {vs : List Value} (ht : P.underlying t = some (.struct fs)) (hi : P.info? t = some i) (hz : i.zero = some z)
    (hpl : ∀ w, (fs.mapM fun (f : Field) => do pure (f.offset, ← Go.sizeOf f.type)).run P w = .ok places w) (hp : ∀ a, Env n e a → (parts.map fun (i, x) => (i, a.eval x)).toList = ps') (hf : Instr.fill (places[·]?) z.cells ps' = some vs.toArray) :
    OpV P n w0 h0 ⟨ds, .build t parts, ty, ps, af, gd⟩ e L h (.agg vs.toArray) := by
  intro a w Ev S
  have hpa := hp a Ev
  have hz' : (zeroValue t).run P w = .ok z w := by simp [zeroValue, typeInfo, hi, hz]
  simp only [execOp, Instr.build]
  rw [show (parts.map fun (i, x) => (i, a.eval x)).toList = ps' from hpa]
  simp only [Sem.run_bind, hz', Result.andThen_ok, run_underlying ht, hpl, hf]
  rfl

/-- A field of a struct's value. -/
theorem ov_field {t : TypeId} {x : Operand} {cs : List Value} {f : Nat} {v : Value} (hr : ∀ w, (Instr.field t (.agg cs.toArray) f).run P w = .ok v w) (hx : evalO e x = some (.agg cs.toArray)) : OpV P n w0 h0 ⟨ds, .field t x f, ty, ps, af, gd⟩ e L h v := by
  intro a w Ev S
  simp [execOp, Ev.eval hx, hr]

/-! ### Results -/

/-- One result is read. -/
def resRun (tmps : Array Value) : ResultVar → Sem Value
  | .tmp t => pure (tmps.getD t undef)
  | .cell a t => do loadVar t (← asAddr (tmps.getD a undef))

def RV (P : Program) (n : Nat) (w0 : World) (h0 : Mem) (r : ResultVar) (e : List (Nat × Value)) (L : List Res) (h : Mem) (v : Value) : Prop := ∀ a w, Env n e a → St w0 h0 L h w → (resRun a.tmps r).run P w = .ok v w

theorem rv_tmp {t : Nat} {v : Value} (hv : evalO e (.tmp t) = some v) : RV P n w0 h0 (.tmp t) e L h v := by
  intro a w E S
  have := E.eval hv
  simp only [Act.eval] at this
  simp [resRun, this]
theorem rv_var {t : Nat} {T E : TypeId} {b : Nat} {cs : List Value} {v : Value} (hm : .var b E cs ∈ L) (ha : ∀ w, (isAgg T).run P w = .ok false w) (hx : evalO e (.tmp t) = some (vP b 0)) (hv : cs[0]? = some v) : RV P n w0 h0 (.cell t T) e L h v := by
  intro a w Ev S
  have hw : w.heap[b]? = some (.cells cs.toArray E) := S.ok _ hm
  have hc : w.cell? ⟨b, 0, none⟩ = some v := by unfold World.cell?; simp [hw, hv]
  have := Ev.eval hx
  simp only [Act.eval] at this
  simp [resRun, this, asAddr, loadVar, ha, Go.load, Sem.run, hc]
theorem rv_agg {t : Nat} {T E : TypeId} {b : Nat} {cs : List Value} {d : TypeDesc} (hm : .var b E cs ∈ L) (hu : P.underlying T = some d) (hd : d.isRow = true) (hi : (P.info? T).map (·.size) = some cs.length) (hx : evalO e (.tmp t) = some (vP b 0)) : RV P n w0 h0 (.cell t T) e L h (.agg cs.toArray) := by
  intro a w Ev S
  have hw : w.heap[b]? = some (.cells cs.toArray E) := S.ok _ hm
  have := Ev.eval hx
  simp only [Act.eval] at this
  have h2 := run_loadVar_mid (P := P) w b 0 T cs d (var_range hw 0 cs (by simp)) hu hd hi
  simp [resRun, this, asAddr, h2]

theorem results_run (fn : Func) (tmps : Array Value) : results fn tmps = (do let vs ← fn.results.mapM (resRun tmps); pure (if h : vs.size = 1 then vs[0] else .tuple vs)) := by
  unfold results
  congr 1

section
variable {fn : Func} {r1 r2 r3 r4 : ResultVar} {v1 v2 v3 v4 : Value} {R : Mem → Value → Prop} {RO : Mem → Value → List Res → Prop}

theorem run_res1 (hr : fn.results = #[r1]) (h1 : RV P n w0 h0 r1 e L h v1) {a : Act} {w : World} (Ev : Env n e a) (S : St w0 h0 L h w) : (results fn a.tmps).run P w = .ok v1 w := by
  simp [results_run, hr, h1 a w Ev S]
theorem run_res2 (hr : fn.results = #[r1, r2]) (h1 : RV P n w0 h0 r1 e L h v1) (h2 : RV P n w0 h0 r2 e L h v2) {a : Act} {w : World} (Ev : Env n e a) (S : St w0 h0 L h w) : (results fn a.tmps).run P w = .ok (.tuple #[v1, v2]) w := by
  simp [results_run, hr, h1 a w Ev S, h2 a w Ev S]
theorem run_res3 (hr : fn.results = #[r1, r2, r3]) (h1 : RV P n w0 h0 r1 e L h v1) (h2 : RV P n w0 h0 r2 e L h v2) (h3 : RV P n w0 h0 r3 e L h v3) {a : Act} {w : World} (Ev : Env n e a) (S : St w0 h0 L h w) : (results fn a.tmps).run P w = .ok (.tuple #[v1, v2, v3]) w := by
  simp [results_run, hr, h1 a w Ev S, h2 a w Ev S, h3 a w Ev S]
theorem run_res4 (hr : fn.results = #[r1, r2, r3, r4]) (h1 : RV P n w0 h0 r1 e L h v1) (h2 : RV P n w0 h0 r2 e L h v2) (h3 : RV P n w0 h0 r3 e L h v3) (h4 : RV P n w0 h0 r4 e L h v4) {a : Act} {w : World} (Ev : Env n e a) (S : St w0 h0 L h w) : (results fn a.tmps).run P w = .ok (.tuple #[v1, v2, v3, v4]) w := by
  simp [results_run, hr, h1 a w Ev S, h2 a w Ev S, h3 a w Ev S, h4 a w Ev S]

theorem gq_res {v : Value} (hres : ∀ {a : Act} {w : World}, Env n e a → St w0 h0 L h w → (results fn a.tmps).run P w = .ok v w) (hR : R h v) : GQ n w0 h0 (bodyPost P fn (Ret w0 h0 R)) .ret e L h := by
  intro a w E S
  exact bodyPost_ret (hres E S) E.defers ⟨_, h, rfl, hR, S.sublist (List.nil_sublist _)⟩
theorem gq_res_own {v : Value} (hres : ∀ {a : Act} {w : World}, Env n e a → St w0 h0 L h w → (results fn a.tmps).run P w = .ok v w) (hR : RO h v L) : GQ n w0 h0 (bodyPost P fn (RetOwn w0 h0 RO)) .ret e L h := by
  intro a w E S
  exact bodyPost_ret (hres E S) E.defers ⟨_, h, L, rfl, hR, S⟩
end
end
end Bk

namespace Bk
set_option linter.unusedVariables false
set_option linter.unusedSimpArgs false
open Go Go.RowKit

/-- A full slice expression's value. -/
def subSl3 (k : Nat) (v : Value) (lo hi mx : Nat) : Value :=
  match v with
  | .slice a _ _ => .slice (if mx = lo then a else a.map (·.add (lo * k))) (hi - lo) (mx - lo)
  | _ => undef

section
variable {P : Program} {n : Nat} {w0 : World} {h0 : Mem} {e : List (Nat × Value)} {L : List Res} {h : Mem} {Q : Exit → Act → World → Prop}
variable {ds : Option Tmp} {ty : TypeId} {ps : String} {af : Array Edge} {gd : Option (Nat × Bool)}

theorem Sl.sub3 {h : Mem} {k : Nat} {v : Value} {m : Nat} {cs : List Value} (s : Sl h k v m cs) {lo hi mx : Nat} (h1 : lo ≤ hi) (h2 : hi ≤ mx) (h3 : mx ≤ m) : Sl h k (subSl3 k v lo hi mx) (hi - lo) ((cs.drop (lo * k)).take ((hi - lo) * k)) := by
  obtain ⟨a, cap, rfl, h4, h5, h6, h7⟩ := s
  refine ⟨_, _, rfl, by omega, by omega, ?_, fun i hi' => ?_⟩
  · rw [List.length_take, List.length_drop, h6]
    have := Nat.mul_le_mul_right k (show lo + (hi - lo) ≤ m by omega)
    rw [Nat.add_mul] at this
    omega
  · rw [List.length_take, List.length_drop] at hi'
    have hlt : i < (hi - lo) * k := by omega
    have hpos : 0 < (hi - lo) * k := by omega
    have hlohi : lo < hi := by
      rcases Nat.lt_or_ge lo hi with h' | h'
      · exact h'
      · rw [show hi - lo = 0 by omega, Nat.zero_mul] at hpos; omega
    obtain ⟨b, o, ha, hc⟩ := h7 (lo * k + i) (by omega)
    subst ha
    refine ⟨b, o + lo * k, by rw [if_neg (by omega)]; simp [addr_add], ?_⟩
    rw [List.getElem?_take, if_pos hlt, List.getElem?_drop, ← hc, Nat.add_assoc]

theorem Us.sub3 {k : IntKind} {h : Mem} {v : Value} {xs : List Nat} (s : Us k h v xs) {lo hi mx : Nat} (h1 : lo ≤ hi) (h2 : hi ≤ mx) (h3 : mx ≤ xs.length) : Us k h (subSl3 1 v lo hi mx) ((xs.drop lo).take (hi - lo)) := by
  have := s.sl.sub3 h1 h2 h3
  simp only [Nat.mul_one] at this
  refine ⟨?_, fun x hx => s.lt x (List.mem_of_mem_drop (List.mem_of_mem_take hx))⟩
  have hl : ((xs.drop lo).take (hi - lo)).length = hi - lo := by rw [List.length_take, List.length_drop]; omega
  rw [hl]
  simpa [us] using this

/-- The shape of a slice that is owned. -/
theorem St.own_shape {E : Nat} {k : IntKind} {v : Value} {xs : List Nat} {w : World} (S : St w0 h0 L h w) (hm : .us E k v xs ∈ L) : ∃ a cap, v = .slice a xs.length cap ∧ xs.length ≤ cap ∧ cap ≤ maxLen ∧ (0 < xs.length → ∃ g, a = some ⟨g, 0, none⟩) := by
  obtain ⟨hl, hr⟩ := S.ok _ hm
  rcases hr with ⟨rfl, h0'⟩ | ⟨g, cap, cur, rfl, hb, hg, hn, hcm, hcs, ht⟩
  · exact ⟨none, 0, by rw [h0'], by omega, by omega, fun h => by omega⟩
  · exact ⟨_, cap, rfl, hn, hcm, fun _ => ⟨g, rfl⟩⟩

theorem St.own_self {E : Nat} {k : IntKind} {v : Value} {xs : List Nat} {w : World} (S : St w0 h0 L h w) (hm : .us E k v xs ∈ L) : v = subSl 1 v 0 xs.length := by
  obtain ⟨a, cap, rfl, h1, h2, h3⟩ := S.own_shape hm
  simp only [subSl, Nat.zero_mul, Nat.sub_zero]
  by_cases hc : cap = 0
  · rw [if_pos hc]
  · rw [if_neg hc]
    cases a with
    | none => rfl
    | some x =>
      obtain ⟨b, o, sp⟩ := x
      simp [Addr.add]

/-- A part of an own slice, up to its end. -/
theorem ov_slice_own_l {E : Nat} {k : IntKind} {v : Value} {xs : List Nat} {t E' : TypeId} {x lo : Operand} {p : Int} (hm : .us E k v xs ∈ L) (i : Nat) (ht : P.underlying t = some (.slice E')) (hsz : ∀ w, (Go.sizeOf E').run P w = .ok 1 w) (hx : evalO e x = some v) (hl : evalO e lo = some (vI p))
    (hp : p = (i : Int)) (h1 : i ≤ xs.length) : OpV P n w0 h0 ⟨ds, .slice t x (some lo) none none, ty, ps, af, gd⟩ e L h (subSl 1 v i xs.length) := by
  intro a w Ev S
  obtain ⟨ad, cap, hv, hc, _⟩ := S.own_shape hm
  exact ov_slice_l i ht hsz hx hl ⟨ad, cap, hv, hc⟩ hp h1 a w Ev S

theorem run_slice3 {t E : TypeId} {w : World} (ht : P.underlying t = some (.slice E)) (hsz : ∀ w, (Go.sizeOf E).run P w = .ok 1 w) (a : Option Addr) (m cap lo hi mx : Nat) (h1 : lo ≤ hi) (h2 : hi ≤ mx) (h3 : mx ≤ cap) :
    (Instr.sliceAt t (.slice a m cap) (some (vI lo)) (some (vI hi)) (some (vI mx))).run P w = .ok (subSl3 1 (.slice a m cap) lo hi mx) w := by
  simp [Instr.sliceAt, Instr.slice, run_underlying ht, Instr.sliceBounds, Instr.sliceBound, asIntOf, vI, hsz, subSl3, h1, h2, h3]
theorem run_slice30 {t E : TypeId} {w : World} (ht : P.underlying t = some (.slice E)) (hsz : ∀ w, (Go.sizeOf E).run P w = .ok 1 w) (a : Option Addr) (m cap hi mx : Nat) (h2 : hi ≤ mx) (h3 : mx ≤ cap) :
    (Instr.sliceAt t (.slice a m cap) none (some (vI hi)) (some (vI mx))).run P w = .ok (subSl3 1 (.slice a m cap) 0 hi mx) w := by
  simp [Instr.sliceAt, Instr.slice, run_underlying ht, Instr.sliceBounds, Instr.sliceBound, asIntOf, vI, hsz, subSl3, h2, h3]

theorem ov_slice_own3 {E : Nat} {k : IntKind} {v : Value} {xs : List Nat} {t E' : TypeId} {x lo hi mx : Operand} {p q r : Int} (hm : .us E k v xs ∈ L) (i j l : Nat) (ht : P.underlying t = some (.slice E')) (hsz : ∀ w, (Go.sizeOf E').run P w = .ok 1 w) (hx : evalO e x = some v) (hl : evalO e lo = some (vI p)) (hh : evalO e hi = some (vI q)) (hmx : evalO e mx = some (vI r))
    (hp : p = (i : Int)) (hq : q = (j : Int)) (hr : r = (l : Int)) (h1 : i ≤ j) (h2 : j ≤ l) (h3 : l ≤ xs.length) : OpV P n w0 h0 ⟨ds, .slice t x (some lo) (some hi) (some mx), ty, ps, af, gd⟩ e L h (subSl3 1 v i j l) := by
  subst hp; subst hq; subst hr
  intro a w Ev S
  obtain ⟨ad, cap, rfl, hc, _⟩ := S.own_shape hm
  have := run_slice3 (P := P) (w := w) ht hsz ad xs.length cap i j l h1 h2 (by omega)
  simp [execOp, Ev.eval hx, Ev.eval hl, Ev.eval hh, Ev.eval hmx, this]
theorem ov_slice_own30 {E : Nat} {k : IntKind} {v : Value} {xs : List Nat} {t E' : TypeId} {x hi mx : Operand} {q r : Int} (hm : .us E k v xs ∈ L) (j l : Nat) (ht : P.underlying t = some (.slice E')) (hsz : ∀ w, (Go.sizeOf E').run P w = .ok 1 w) (hx : evalO e x = some v) (hh : evalO e hi = some (vI q)) (hmx : evalO e mx = some (vI r))
    (hq : q = (j : Int)) (hr : r = (l : Int)) (h2 : j ≤ l) (h3 : l ≤ xs.length) : OpV P n w0 h0 ⟨ds, .slice t x none (some hi) (some mx), ty, ps, af, gd⟩ e L h (subSl3 1 v 0 j l) := by
  subst hq; subst hr
  intro a w Ev S
  obtain ⟨ad, cap, rfl, hc, _⟩ := S.own_shape hm
  have := run_slice30 (P := P) (w := w) ht hsz ad xs.length cap j l h2 (by omega)
  simp [execOp, Ev.eval hx, Ev.eval hh, Ev.eval hmx, this]

/-- An element of a part of an own slice. -/
theorem ov_index_osub {E : Nat} {k : IntKind} {v u : Value} {xs : List Nat} {t E' : TypeId} {x y : Operand} {q : Int} {lo : Nat} (hm : .us E k v xs ∈ L) (hu : u = subSl 1 v lo xs.length) (i : Nat) (ht : P.underlying t = some (.slice E')) (hsz : ∀ w, (Go.sizeOf E').run P w = .ok 1 w) (hx : evalO e x = some u) (hy : evalO e y = some (vI q))
    (hq : q = (i : Int)) (hi : lo + i < xs.length) : OpV P n w0 h0 ⟨ds, .indexAddr t x y, ty, ps, af, gd⟩ e L h (elemPtr 1 v (lo + i)) := by
  subst hq; subst hu
  intro a w Ev S
  obtain ⟨ad, cap, rfl, hc, hc2, hg⟩ := S.own_shape hm
  obtain ⟨g, rfl⟩ := hg (by omega)
  have hcl : ¬ cap = lo := by omega
  have h2 : (i : Int) < ((xs.length - lo : Nat) : Int) := by omega
  have h3 : (0 : Int) ≤ (i : Int) := by omega
  simp only [subSl, if_neg hcl, Option.map_some, addr_add, Nat.mul_one, Nat.zero_add] at hx
  simp [execOp, Ev.eval hx, Ev.eval hy, Instr.indexAt, asIntOf, vI, run_underlying ht, h2, h3, hsz, elemPtr, addr_add]
  intro hge
  omega

/-- The shape of what is owned, as a fact of the walk. -/
theorem gl_shape {ops : Array Oper} {l : List Oper} {E : Nat} {k : IntKind} {v : Value} {xs : List Nat} (hm : .us E k v xs ∈ L) (k' : ∀ a cap, v = .slice a xs.length cap → xs.length ≤ cap → GL P n w0 h0 ops Q l e L h) : GL P n w0 h0 ops Q l e L h := by
  intro a w Ev S
  obtain ⟨ad, cap, hv, hc, _⟩ := S.own_shape hm
  exact k' ad cap hv hc a w Ev S

/-- What is owned comes to the front. -/
theorem gl_front {ops : Array Oper} {l : List Oper} {A B : List Res} {r : Res} (k' : GL P n w0 h0 ops Q l e (r :: (A ++ B)) h) : GL P n w0 h0 ops Q l e (A ++ r :: B) h :=
  fun a w Ev S => k' a w Ev (S.perm List.perm_middle)


/-- A call of a function that the model stands in for. -/
theorem ov_callx {f : Nat} {xs : List Operand} {ts : Array TypeId} {vs : List Value} {v : Value} (hcall : ∀ w, (callFunc f vs.toArray).run P w = .ok (.value v) w) (hvs : Evals e xs vs) :
    OpV P n w0 h0 ⟨ds, .call { callee := .value (.func f), args := xs.toArray, argTypes := ts }, ty, ps, af, gd⟩ e L h v := by
  intro a w Ev S
  have hargs : xs.toArray.map a.eval = vs.toArray := by rw [List.map_toArray, Ev.evals hvs]
  simp only [execOp, resolve, Act.eval]
  simp [Deferred.ofValue, invoke, hcall, hargs]

theorem AlOk.nil : AlOk P n [] := fun x hx => by cases hx
theorem AlOk.cons {i d E : Nat} {cs : List Value} {al : Als} (hd : Nat.ble (d + 1) n = true) (hz : ∀ w, ∃ z, (zeroValue E).run P w = .ok z w ∧ z.cells = cs.toArray) (h : AlOk P n al) : AlOk P n ((i, (d, E, cs)) :: al) := by
  intro x hx
  rcases List.mem_cons.1 hx with rfl | hx
  · exact ⟨Nat.le_of_ble_eq_true hd, hz⟩
  · exact h x hx
theorem zero_run {E : TypeId} {i : TypeInfo} {z : Value} {cs : List Value} (hi : P.info? E = some i) (hz : i.zero = some z) (hc : z.cells = cs.toArray) (w : World) : ∃ z, (zeroValue E).run P w = .ok z w ∧ z.cells = cs.toArray :=
  ⟨z, by simp [zeroValue, typeInfo, hi, hz], hc⟩
theorem hae_nil {e : List (Nat × Value)} {al : Als} : ∀ x ∈ ([] : Als), al.lookup x.1 = some x.2 ∧ e.lookup x.2.1 = none := fun x hx => by cases hx
theorem hae_cons {e : List (Nat × Value)} {al al' : Als} {y : Nat × (Nat × TypeId × List Value)} (h1 : al.lookup y.1 = some y.2) (h2 : e.lookup y.2.1 = none) (h : ∀ x ∈ al', al.lookup x.1 = some x.2 ∧ e.lookup x.2.1 = none) : ∀ x ∈ y :: al', al.lookup x.1 = some x.2 ∧ e.lookup x.2.1 = none := by
  intro x hx
  rcases List.mem_cons.1 hx with rfl | hx
  · exact ⟨h1, h2⟩
  · exact h x hx
theorem ov_shl_i {yk : IntKind} {t yt : TypeId} {x y : Operand} {p s : Nat} (hx : evalO e x = some (vI (p : Int))) (hy : evalO e y = some (.int yk (s : Int))) (hs : s ≤ 63) (hp : p * 2 ^ s < 9223372036854775808) :
    OpV P n w0 h0 ⟨ds, .binOp .shl t x y yt, ty, ps, af, gd⟩ e L h (vI ((p * 2 ^ s : Nat) : Int)) := by
  intro a w E S
  have h1 : ¬ ((s : Int) < 0) := by omega
  have hm : min s IntKind.i64.bits = s := Nat.min_eq_left (by have : IntKind.i64.bits = 64 := rfl; omega)
  have h3 : IntKind.i64.wrap ((p : Int) * 2 ^ s) = (p : Int) * 2 ^ s := by
    have e : (p : Int) * 2 ^ s = ((p * 2 ^ s : Nat) : Int) := by rw [Int.natCast_mul, Int.natCast_pow]; rfl
    rw [e]
    exact wrap_i (by omega) (by omega)
  simp only [execOp, E.eval hx, E.eval hy, vI, binOp]
  simp [eqGuard_int, Op.shift, h1, hm, h3]
end
end Bk

namespace Bk
set_option linter.unusedVariables false
set_option linter.unusedSimpArgs false
open Go Go.RowKit
open Classical

/-- A number with a sign. -/
noncomputable def sg (s : Prop) (n : Nat) : Int := if s then -(n : Int) else n
theorem sg_t {s : Prop} (h : s) (n : Nat) : sg s n = -(n : Int) := if_pos h
theorem sg_f {s : Prop} (h : ¬ s) (n : Nat) : sg s n = n := if_neg h
theorem sg_natAbs (s : Prop) (n : Nat) : (sg s n).natAbs = n := by
  by_cases h : s
  · rw [sg_t h]; omega
  · rw [sg_f h]; omega
theorem sg_zero (s : Prop) : sg s 0 = 0 := by
  by_cases h : s
  · rw [sg_t h]; omega
  · rw [sg_f h]; omega
theorem sg_neg (s : Prop) (n : Nat) : sg s n < 0 ↔ s ∧ n ≠ 0 := by
  by_cases h : s
  · rw [sg_t h]; exact ⟨fun h1 => ⟨h, by omega⟩, fun h1 => by omega⟩
  · rw [sg_f h]; exact ⟨fun h1 => by omega, fun h1 => absurd h1.1 h⟩
theorem sg_div (s : Prop) {n g : Nat} (h : g ∣ n) : sg s n / (g : Int) = sg s (n / g) := by
  by_cases hs : s
  · rw [sg_t hs, sg_t hs]
    obtain ⟨k, rfl⟩ := h
    rcases Nat.eq_zero_or_pos g with h0 | h0
    · subst h0; simp
    · rw [Nat.mul_div_cancel_left _ h0, Int.natCast_mul, ← Int.mul_neg, Int.mul_ediv_cancel_left _ (by omega)]
  · rw [sg_f hs, sg_f hs]; omega
theorem sg_num (q : Rat) : sg (q.num < 0) q.num.natAbs = q.num := by
  by_cases h : q.num < 0
  · rw [sg_t h]; omega
  · rw [sg_f h]; omega

/-- The limbs below. -/
def denN (d : Nat) : Nat := if d = 1 then 0 else d
theorem denN_one : denN 1 = 0 := rfl
theorem denN_ne {d : Nat} (h : d ≠ 1) : denN d = d := if_neg h
theorem denL_nil_iff {d : Nat} (h0 : d ≠ 0) : limbs (denN d) = [] ↔ d = 1 := by
  by_cases h : d = 1
  · subst h; rw [denN_one, limbs_zero]; simp
  · rw [denN_ne h]
    exact ⟨fun e => by have := limbs_len_pos.2 h0; rw [e] at this; simp at this, fun e => absurd e h⟩
theorem denL_den (q : Rat) : (if limbs (denN q.den) = [] then [1] else limbs (denN q.den)) = limbs q.den := by
  by_cases h : q.den = 1
  · rw [if_pos ((denL_nil_iff q.den_nz).2 h), h, limbs_one (by omega) (by omega)]
  · rw [if_neg (fun e => h ((denL_nil_iff q.den_nz).1 e)), denN_ne h]
/-- v is the valid number q. -/
def IsRat (h : Mem) (v : Value) (q : Rat) : Prop := ∃ vn vd, v = .agg #[vB (q.num < 0), vn, vd] ∧ Us .u32 h vn (limbs q.num.natAbs) ∧ Us .u32 h vd (limbs (denN q.den))

theorem zb : vB ((0 : Rat).num < 0) = .bool false := vB_false (by decide)
theorem us_zero_num (h : Mem) : Us .u32 h (.slice none 0 0) (limbs (0 : Rat).num.natAbs) := by
  have : limbs (0 : Rat).num.natAbs = [] := limbs_zero
  rw [this]; exact Us.nil _ _
theorem us_zero_den (h : Mem) : Us .u32 h (.slice none 0 0) (limbs (denN (0 : Rat).den)) := by
  have : limbs (denN (0 : Rat).den) = [] := limbs_zero
  rw [this]; exact Us.nil _ _
theorem IsRat.zero (h : Mem) : IsRat h (.agg #[vB ((0 : Rat).num < 0), .slice none 0 0, .slice none 0 0]) 0 := ⟨_, _, rfl, us_zero_num _, us_zero_den _⟩

/-- The lowest terms. -/
theorem mkRat_num {s : Prop} {n d : Nat} (hd : d ≠ 0) : (mkRat (sg s n) d).num = sg s (n / Nat.gcd n d) := by
  rw [Rat.num_mkRat, if_neg hd, sg_natAbs, Nat.gcd_comm]
  exact sg_div s (Nat.gcd_dvd_left n d)
theorem mkRat_den {s : Prop} {n d : Nat} (hd : d ≠ 0) : (mkRat (sg s n) d).den = d / Nat.gcd n d := by
  rw [Rat.den_mkRat, if_neg hd, sg_natAbs, Nat.gcd_comm]

theorem IsRat.make {h : Mem} {s : Prop} {n d : Nat} {vn vd : Value} (hn0 : n ≠ 0) (hd0 : d ≠ 0) (hn : Us .u32 h vn (limbs (n / Nat.gcd n d))) (hd : Us .u32 h vd (limbs (denN (d / Nat.gcd n d)))) : IsRat h (.agg #[vB s, vn, vd]) (mkRat (sg s n) d) := by
  have hg : n / Nat.gcd n d ≠ 0 := by
    have h1 := Nat.gcd_dvd_left n d
    have h2 := Nat.gcd_pos_of_pos_left d (Nat.pos_of_ne_zero hn0)
    exact Nat.ne_of_gt (Nat.div_pos (Nat.le_of_dvd (Nat.pos_of_ne_zero hn0) h1) h2)
  refine ⟨vn, vd, ?_, ?_, ?_⟩
  · have : vB ((mkRat (sg s n) d).num < 0) = vB s := by
      rw [mkRat_num hd0]
      exact vB_iff ⟨fun h => ((sg_neg _ _).1 h).1, fun h => (sg_neg _ _).2 ⟨h, hg⟩⟩
    rw [this]
  · rw [mkRat_num hd0, sg_natAbs]; exact hn
  · rw [mkRat_den hd0]; exact hd

noncomputable def absQ (q : Rat) : Rat := if q.num < 0 then -q else q
theorem absQ_num (q : Rat) : (absQ q).num = q.num.natAbs := by
  unfold absQ
  by_cases h : q.num < 0
  · rw [if_pos h, Rat.neg_num]; omega
  · rw [if_neg h]; omega
theorem absQ_den (q : Rat) : (absQ q).den = q.den := by
  unfold absQ
  by_cases h : q.num < 0
  · rw [if_pos h, Rat.neg_den]
  · rw [if_neg h]
theorem IsRat.abs {h : Mem} {q : Rat} {vn vd : Value} (hn : Us .u32 h vn (limbs q.num.natAbs)) (hd : Us .u32 h vd (limbs (denN q.den))) : IsRat h (.agg #[.bool false, vn, vd]) (absQ q) := by
  refine ⟨vn, vd, ?_, ?_, ?_⟩
  · rw [vB_false (by rw [absQ_num]; omega)]
  · rw [absQ_num]; exact hn
  · rw [absQ_den]; exact hd
theorem IsRat.negB {h : Mem} {q : Rat} {vn vd : Value} (hn : Us .u32 h vn (limbs q.num.natAbs)) (hd : Us .u32 h vd (limbs (denN q.den))) : IsRat h (.agg #[vB (¬ q.num < 0 ∧ (0 : Int) < ↑(limbs q.num.natAbs).length), vn, vd]) (-q) := by
  refine ⟨vn, vd, ?_, ?_, ?_⟩
  · have : vB ((-q).num < 0) = vB (¬ q.num < 0 ∧ (0 : Int) < ↑(limbs q.num.natAbs).length) := by
      have h1 := limbs_len_pos (n := q.num.natAbs)
      rw [Rat.neg_num]
      exact vB_iff ⟨fun h => ⟨by omega, by omega⟩, fun h => by omega⟩
    rw [this]
  · rw [Rat.neg_num, Int.natAbs_neg]; exact hn
  · rw [Rat.neg_den]; exact hd

theorem limbs_len_add' {m n k : Nat} (h1 : (limbs m).length ≤ k) (h2 : (limbs n).length ≤ k) : (limbs (m + n)).length ≤ k + 1 := by
  refine limbs_len_of_lt ?_
  have a1 := Nat.lt_of_lt_of_le (limbs_lt_pow m) (Nat.pow_le_pow_right (by decide) h1)
  have a2 := Nat.lt_of_lt_of_le (limbs_lt_pow n) (Nat.pow_le_pow_right (by decide) h2)
  rw [Nat.pow_succ]
  generalize 4294967296 ^ k = p at *
  omega
theorem putL {xs : List Nat} {lo n : Nat} (h : lo + 1 ≤ xs.length) (h0 : n ≠ 0) (hn : n < 4294967296) : xs.set lo n = xs.take lo ++ limbs n ++ xs.drop (lo + (limbs n).length) := by
  rw [limbs_one h0 hn, List.set_eq_take_append_cons_drop, if_pos (by omega)]
  simp
theorem putL2 {xs : List Nat} {lo n : Nat} (h : lo + 2 ≤ xs.length) (hn : n < 18446744073709551616) (hn' : 4294967296 ≤ n) : (xs.set lo (n % 4294967296)).set (lo + 1) (n / 4294967296) = xs.take lo ++ limbs n ++ xs.drop (lo + (limbs n).length) := by
  have e : limbs n = [n % 4294967296, n / 4294967296] := by rw [limbs_pos (by omega), limbs_one (t := n / 4294967296) (by omega) (by omega)]
  rw [e]
  apply List.ext_getElem?
  intro i
  simp only [List.getElem?_set, List.length_set, List.getElem?_append, List.length_append, List.length_take, List.length_cons, List.length_nil, List.getElem?_take, List.getElem?_drop]
  rcases Nat.lt_trichotomy i lo with hi | hi | hi
  · rw [if_neg (by omega), if_neg (by omega), if_pos (by omega), if_pos (by omega), if_pos (by omega)]
  · subst hi
    rw [if_neg (by omega), if_pos rfl, if_pos (by omega), if_pos (by omega), if_neg (by omega)]
    simp [show min i xs.length = i by omega]
  · by_cases h1 : i = lo + 1
    · subst h1
      rw [if_pos rfl, if_pos (by omega), if_pos (by omega), if_neg (by omega)]
      simp [show min lo xs.length = lo by omega]
    · rw [if_neg (by omega), if_neg (by omega), if_neg (by omega)]
      congr 1
      omega
/-- A number with a sign, as a rational one. -/
noncomputable def rz (s : Prop) (n : Rat) : Rat := if s then -n else n
theorem rz_t {s : Prop} (h : s) (n : Rat) : rz s n = -n := if_pos h
theorem rz_f {s : Prop} (h : ¬ s) (n : Rat) : rz s n = n := if_neg h
theorem mk_div (s : Prop) (n d : Nat) : mkRat (sg s n) d = rz s n / d := by
  rw [Rat.mkRat_eq_div]
  by_cases h : s
  · rw [sg_t h, rz_t h, Rat.intCast_neg]; rfl
  · rw [sg_f h, rz_f h]; rfl
theorem mk_self (q : Rat) : mkRat (sg (q.num < 0) q.num.natAbs) q.den = q := by rw [sg_num, Rat.mkRat_self]
theorem cast_ne {d : Nat} (h : d ≠ 0) : (d : Rat) ≠ 0 := fun e => h (Rat.natCast_eq_zero_iff.1 e)
theorem den_ne (q : Rat) : q.den ≠ 0 := q.den_nz

theorem mk_zero (s : Prop) (d : Nat) : mkRat (sg s 0) d = 0 := by rw [sg_zero, Rat.zero_mkRat]
theorem mk_zero' (s : Prop) (n : Nat) : mkRat (sg s n) 0 = 0 := by rw [Rat.mkRat_zero]
theorem mk_iff {s t : Prop} (h : s ↔ t) (n d : Nat) : mkRat (sg s n) d = mkRat (sg t n) d := by rw [propext h]

theorem mk_add (s : Prop) {n m d e : Nat} (hd : d ≠ 0) (he : e ≠ 0) : mkRat (sg s n) d + mkRat (sg s m) e = mkRat (sg s (n * e + m * d)) (d * e) := by
  rw [mk_div, mk_div, mk_div, Rat.natCast_mul, Rat.natCast_add, Rat.natCast_mul, Rat.natCast_mul]
  have h1 := cast_ne hd
  have h2 := cast_ne he
  generalize (d : Rat) = D at *
  generalize (e : Rat) = E at *
  generalize (n : Rat) = N at *
  generalize (m : Rat) = M at *
  by_cases h : s
  · rw [rz_t h, rz_t h, rz_t h]; grind
  · rw [rz_f h, rz_f h, rz_f h]; grind
theorem mk_sub {s t : Prop} (hst : ¬ (s ↔ t)) {n m d e : Nat} (hd : d ≠ 0) (he : e ≠ 0) (hle : m * d ≤ n * e) : mkRat (sg s n) d + mkRat (sg t m) e = mkRat (sg s (n * e - m * d)) (d * e) := by
  have hsub : ((n * e - m * d : Nat) : Rat) = n * e - m * d := by
    have h3 : n * e - m * d + m * d = n * e := by omega
    have h4 : ((n * e - m * d + m * d : Nat) : Rat) = ((n * e : Nat) : Rat) := by rw [h3]
    rw [Rat.natCast_add, Rat.natCast_mul, Rat.natCast_mul] at h4
    generalize ((n * e - m * d : Nat) : Rat) = X at *
    grind
  rw [mk_div, mk_div, mk_div, hsub, Rat.natCast_mul]
  have h1 := cast_ne hd
  have h2 := cast_ne he
  generalize (d : Rat) = D at *
  generalize (e : Rat) = E at *
  generalize (n : Rat) = N at *
  generalize (m : Rat) = M at *
  by_cases h : s
  · have ht : ¬ t := fun ht => hst ⟨fun _ => ht, fun _ => h⟩
    rw [rz_t h, rz_f ht, rz_t h]; grind
  · have ht : t := Classical.byContradiction fun ht => hst ⟨fun a => absurd a h, fun a => absurd a ht⟩
    rw [rz_f h, rz_t ht, rz_f h]; grind
theorem mk_sub' {s t : Prop} (hst : ¬ (s ↔ t)) {n m d e : Nat} (hd : d ≠ 0) (he : e ≠ 0) (hle : n * e ≤ m * d) : mkRat (sg s n) d + mkRat (sg t m) e = mkRat (sg t (m * d - n * e)) (d * e) := by
  rw [Rat.add_comm, mk_sub (fun h => hst h.symm) he hd hle, Nat.mul_comm e d]
theorem mk_mul (s t : Prop) (n m d e : Nat) : mkRat (sg s n) d * mkRat (sg t m) e = mkRat (sg (¬ (s ↔ t)) (n * m)) (d * e) := by
  rw [Rat.mkRat_mul_mkRat]
  congr 1
  by_cases h : s <;> by_cases h' : t
  · rw [sg_t h, sg_t h', sg_f (by simp [h, h']), Int.natCast_mul, Int.neg_mul_neg]
  · rw [sg_t h, sg_f h', sg_t (by simp [h, h']), Int.natCast_mul, Int.neg_mul]
  · rw [sg_f h, sg_t h', sg_t (by simp [h, h']), Int.natCast_mul, Int.mul_neg]
  · rw [sg_f h, sg_f h', sg_f (by simp [h, h']), Int.natCast_mul]
theorem mk_quo (s t : Prop) {n m d e : Nat} (hd : d ≠ 0) (hm : m ≠ 0) (he : e ≠ 0) : mkRat (sg s n) d / mkRat (sg t m) e = mkRat (sg (¬ (s ↔ t)) (n * e)) (d * m) := by
  rw [mk_div, mk_div, mk_div, Rat.natCast_mul, Rat.natCast_mul]
  have h1 := cast_ne hd
  have h2 := cast_ne hm
  have h3 := cast_ne he
  generalize (d : Rat) = D at *
  generalize (e : Rat) = E at *
  generalize (n : Rat) = N at *
  generalize (m : Rat) = M at *
  by_cases h : s <;> by_cases h' : t
  · rw [rz_t h, rz_t h', rz_f (by simp [h, h'])]; grind
  · rw [rz_t h, rz_f h', rz_t (by simp [h, h'])]; grind
  · rw [rz_f h, rz_t h', rz_t (by simp [h, h'])]; grind
  · rw [rz_f h, rz_f h', rz_f (by simp [h, h'])]; grind
theorem mk_neg (s : Prop) (n d : Nat) : -mkRat (sg s n) d = mkRat (sg (¬ s) n) d := by
  rw [Rat.neg_mkRat]
  congr 1
  by_cases h : s
  · rw [sg_t h, sg_f (by simp [h])]; omega
  · rw [sg_f h, sg_t h]

/-- The same factor above and below. -/
theorem mk_scale (s : Prop) (n d : Nat) {k : Nat} (hk : k ≠ 0) : mkRat (sg s (n * k)) (d * k) = mkRat (sg s n) d := by
  rw [mk_div, mk_div, Rat.natCast_mul, Rat.natCast_mul]
  have h1 := cast_ne hk
  by_cases hd : d = 0
  · subst hd
    have : ((0 : Nat) : Rat) = 0 := rfl
    rw [this]
    grind
  have h2 := cast_ne hd
  generalize (d : Rat) = D at *
  generalize (k : Rat) = K at *
  generalize (n : Rat) = N at *
  by_cases h : s
  · rw [rz_t h, rz_t h]; grind
  · rw [rz_f h, rz_f h]; grind

/-- The greater length of numerator and denominator. -/
def lq (q : Rat) : Nat := max (limbs q.num.natAbs).length (limbs q.den).length
theorem lq_num (q : Rat) : (limbs q.num.natAbs).length ≤ lq q := Nat.le_max_left _ _
theorem lq_den (q : Rat) : (limbs q.den).length ≤ lq q := Nat.le_max_right _ _
theorem denL_len (d : Nat) : (limbs (denN d)).length ≤ (limbs d).length := by
  by_cases h : d = 1
  · subst h; rw [denN_one, limbs_zero]; simp
  · rw [denN_ne h]; exact Nat.le_refl _
theorem lq_denL (q : Rat) : (limbs (denN q.den)).length ≤ lq q := Nat.le_trans (denL_len _) (lq_den q)
theorem lq_pos (q : Rat) : 0 < lq q := Nat.lt_of_lt_of_le (limbs_len_pos.2 q.den_nz) (lq_den q)
theorem lq_mk {s : Prop} {n d k : Nat} (hn : (limbs n).length ≤ k) (hd : (limbs d).length ≤ k) (hk : 0 < k) : lq (mkRat (sg s n) d) ≤ k := by
  by_cases h0 : d = 0
  · subst h0
    rw [mk_zero']
    refine Nat.max_le.2 ⟨?_, ?_⟩
    · have : (limbs (0 : Rat).num.natAbs) = [] := limbs_zero
      rw [this]; simp
    · have : limbs (0 : Rat).den = [1] := by rw [show (0 : Rat).den = 1 from rfl, limbs_pos (by omega), limbs_zero]
      rw [this]; exact hk
  · refine Nat.max_le.2 ⟨?_, ?_⟩
    · rw [mkRat_num h0, sg_natAbs]
      exact Nat.le_trans (limbs_len_mono (Nat.div_le_self _ _)) hn
    · rw [mkRat_den h0]
      exact Nat.le_trans (limbs_len_mono (Nat.div_le_self _ _)) hd
theorem lq_zero : lq 0 = 1 := by
  have h := lq_mk (s := False) (n := 0) (d := 0) (k := 1) (by rw [limbs_zero]; simp) (by rw [limbs_zero]; simp) (by omega)
  rw [mk_zero'] at h
  have := lq_pos 0
  omega
theorem lq_neg (q : Rat) : lq (-q) = lq q := by unfold lq; rw [Rat.neg_num, Rat.neg_den, Int.natAbs_neg]
theorem lq_abs (q : Rat) : lq (absQ q) = lq q := by unfold lq; rw [absQ_num, absQ_den, Int.natAbs_natCast]
theorem lq_mul (a b : Rat) : lq (a * b) ≤ lq a + lq b := by
  rw [← mk_self a, ← mk_self b, mk_mul, mk_self, mk_self]
  have h1 := lq_num a; have h2 := lq_num b; have h3 := lq_den a; have h4 := lq_den b; have h5 := lq_pos a
  exact lq_mk (Nat.le_trans (limbs_len_mul _ _) (by omega)) (Nat.le_trans (limbs_len_mul _ _) (by omega)) (by omega)
theorem lq_add (a b : Rat) : lq (a + b) ≤ lq a + lq b + 1 := by
  have h1 := lq_num a; have h2 := lq_num b; have h3 := lq_den a; have h4 := lq_den b; have h5 := lq_pos a
  have h6 := limbs_len_mul a.num.natAbs b.den
  have h7 := limbs_len_mul b.num.natAbs a.den
  have h8 := limbs_len_mul a.den b.den
  have e : a + b = mkRat (sg (a.num < 0) a.num.natAbs) a.den + mkRat (sg (b.num < 0) b.num.natAbs) b.den := by rw [mk_self, mk_self]
  rw [e]
  by_cases h : (a.num < 0) ↔ (b.num < 0)
  · rw [mk_iff h, mk_add _ a.den_nz b.den_nz]
    refine lq_mk (Nat.le_trans (limbs_len_add' ?_ ?_) (Nat.le_refl _)) (by omega) (by omega)
    · omega
    · omega
  · rcases Nat.le_total (b.num.natAbs * a.den) (a.num.natAbs * b.den) with hle | hle
    · rw [mk_sub h a.den_nz b.den_nz hle]
      exact lq_mk (Nat.le_trans (limbs_len_mono (Nat.sub_le _ _)) (by omega)) (by omega) (by omega)
    · rw [mk_sub' h a.den_nz b.den_nz hle]
      exact lq_mk (Nat.le_trans (limbs_len_mono (Nat.sub_le _ _)) (by omega)) (by omega) (by omega)
theorem lq_sub (a b : Rat) : lq (a - b) ≤ lq a + lq b + 1 := by
  rw [Rat.sub_eq_add_neg]
  have := lq_add a (-b)
  rw [lq_neg] at this
  exact this
theorem num_ne {q : Rat} : q.num.natAbs ≠ 0 ↔ q ≠ 0 := by
  rw [Int.natAbs_ne_zero]; exact not_congr Rat.num_eq_zero
theorem lq_quo (a b : Rat) : lq (a / b) ≤ lq a + lq b := by
  have h1 := lq_num a; have h2 := lq_num b; have h3 := lq_den a; have h4 := lq_den b; have h5 := lq_pos a
  by_cases hb : b = 0
  · subst hb
    have : a / 0 = 0 := by grind
    rw [this, lq_zero]
    omega
  have e : a / b = mkRat (sg (a.num < 0) a.num.natAbs) a.den / mkRat (sg (b.num < 0) b.num.natAbs) b.den := by rw [mk_self, mk_self]
  rw [e, mk_quo _ _ a.den_nz (num_ne.2 hb) b.den_nz]
  exact lq_mk (Nat.le_trans (limbs_len_mul _ _) (by omega)) (Nat.le_trans (limbs_len_mul _ _) (by omega)) (by omega)

/-- The order. -/
noncomputable def cmpQ (a b : Rat) : Int := if a < b then -1 else if a = b then 0 else 1
noncomputable def sgnQ (q : Rat) : Int := if q = 0 then 0 else if q.num < 0 then -1 else 1
theorem lt_mk (s : Prop) {n m d e : Nat} (hd : d ≠ 0) (he : e ≠ 0) : mkRat (sg s n) d < mkRat (sg s m) e ↔ if s then m * d < n * e else n * e < m * d := by
  have e1 : ∀ x y : Nat, (x : Rat) < (y : Rat) ↔ x < y := fun x y => by rw [Rat.natCast_lt_natCast]
  have h1 : (0 : Rat) < (d : Rat) := by rw [show (0 : Rat) = ((0 : Nat) : Rat) from rfl, e1]; omega
  have h2 : (0 : Rat) < (e : Rat) := by rw [show (0 : Rat) = ((0 : Nat) : Rat) from rfl, e1]; omega
  rw [mk_div, mk_div, ← e1, ← e1, Rat.natCast_mul, Rat.natCast_mul, Rat.div_lt_iff h1]
  generalize (d : Rat) = D at *
  generalize (e : Rat) = E at *
  generalize (n : Rat) = N at *
  generalize (m : Rat) = M at *
  have e3 : ∀ X : Rat, X / E * D = X * D / E := fun X => by grind
  rw [e3, Rat.lt_div_iff h2]
  by_cases h : s
  · rw [rz_t h, rz_t h, if_pos h]; grind
  · rw [rz_f h, rz_f h, if_neg h]
theorem eq_mk (s : Prop) {n m d e : Nat} (hd : d ≠ 0) (he : e ≠ 0) : mkRat (sg s n) d = mkRat (sg s m) e ↔ n * e = m * d := by
  rw [Rat.mkRat_eq_iff hd he]
  by_cases h : s
  · rw [sg_t h, sg_t h]
    rw [Int.neg_mul, Int.neg_mul, Int.neg_inj, ← Int.natCast_mul, ← Int.natCast_mul]
    omega
  · rw [sg_f h, sg_f h, ← Int.natCast_mul, ← Int.natCast_mul]; omega
theorem cmp_mk (s : Prop) {n m d e : Nat} (hd : d ≠ 0) (he : e ≠ 0) : cmpQ (mkRat (sg s n) d) (mkRat (sg s m) e) = if s then -(cmpN (n * e) (m * d)) else cmpN (n * e) (m * d) := by
  unfold cmpQ cmpN
  by_cases h : s
  · simp only [lt_mk s hd he, eq_mk s hd he, if_pos h]
    by_cases h1 : m * d < n * e
    · rw [if_pos h1, if_neg (by omega), if_neg (by omega)]
    · rw [if_neg h1]
      by_cases h2 : n * e = m * d
      · rw [if_pos h2, if_neg (by omega)]; rfl
      · rw [if_neg h2, if_pos (by omega)]; rfl
  · simp only [lt_mk s hd he, eq_mk s hd he, if_neg h]
theorem cmpQ_num (a b : Rat) (h : (a.num < 0) ↔ (b.num < 0)) : cmpQ a b = if a.num < 0 then -(cmpN (a.num.natAbs * b.den) (b.num.natAbs * a.den)) else cmpN (a.num.natAbs * b.den) (b.num.natAbs * a.den) := by
  have := cmp_mk (a.num < 0) (n := a.num.natAbs) (m := b.num.natAbs) a.den_nz b.den_nz
  rw [mk_self, mk_iff h, mk_self] at this
  rw [this]
  by_cases h : a.num < 0
  · rw [if_pos h, if_pos h]
  · rw [if_neg h, if_neg h]
theorem num_neg_iff (q : Rat) : q.num < 0 ↔ q < 0 := by
  have := Rat.num_nonneg (q := q)
  rw [← Rat.not_le, ← this]; omega
theorem cmpQ_sgn {a b : Rat} (h : sgnQ a ≠ sgnQ b) : cmpQ a b = if sgnQ a < sgnQ b then -1 else 1 := by
  have ea : sgnQ a = if a = 0 then 0 else if a < 0 then -1 else 1 := by unfold sgnQ; simp only [num_neg_iff]
  have eb : sgnQ b = if b = 0 then 0 else if b < 0 then -1 else 1 := by unfold sgnQ; simp only [num_neg_iff]
  rw [ea, eb] at h ⊢
  unfold cmpQ
  clear ea eb
  grind
theorem sgnQ_range (q : Rat) : -1 ≤ sgnQ q ∧ sgnQ q ≤ 1 := by
  unfold sgnQ
  split
  · omega
  · split <;> omega
theorem cmpQ_range (a b : Rat) : -1 ≤ cmpQ a b ∧ cmpQ a b ≤ 1 := by
  unfold cmpQ
  split
  · omega
  · split <;> omega
theorem cmpQ_neg {a b : Rat} : cmpQ a b < 0 ↔ a < b := by
  unfold cmpQ
  by_cases h : a < b
  · simp [h]
  · by_cases h' : a = b
    · simp [h']
    · simp [h, h']
theorem cmpQ_pos {a b : Rat} : 0 < cmpQ a b ↔ b < a := by
  unfold cmpQ
  by_cases h : a < b
  · simp [h]; grind
  · by_cases h' : a = b
    · simp [h']
    · simp [h, h']; grind
theorem cmpQ_zero {a b : Rat} : cmpQ a b = 0 ↔ a = b := by
  unfold cmpQ
  by_cases h : a < b
  · simp [h]; grind
  · by_cases h' : a = b
    · simp [h']
    · simp [h, h']
/-- Numerator and denominator have at most one limb. -/
def smallQ (q : Rat) : Prop := (limbs q.num.natAbs).length ≤ 1 ∧ (limbs (denN q.den)).length ≤ 1
theorem smallQ_not {q : Rat} (h : (1 : Int) < ↑(limbs q.num.natAbs).length ∨ (1 : Int) < ↑(limbs (denN q.den)).length) : ¬ smallQ q := fun ⟨h1, h2⟩ => by omega
theorem smallQ_of {q : Rat} (h : ¬ ((1 : Int) < ↑(limbs q.num.natAbs).length ∨ (1 : Int) < ↑(limbs (denN q.den)).length)) : smallQ q := ⟨by omega, by omega⟩
theorem lt_one_limb {n : Nat} (h : (limbs n).length ≤ 1) : n < 4294967296 := by
  have := Nat.lt_of_lt_of_le (limbs_lt_pow n) (Nat.pow_le_pow_right (by decide) h)
  omega
theorem denL_one {d : Nat} (h : (↑(limbs (denN d)).length : Int) = 1) : (limbs (denN d)).getD 0 0 = d := by
  by_cases h1 : d = 1
  · subst h1; rw [denN_one, limbs_zero] at h; simp at h
  · rw [denN_ne h1] at h ⊢
    have h3 := lt_one_limb (n := d) (by omega)
    have h4 : d ≠ 0 := limbs_len_pos.1 (by omega)
    rw [limbs_one h4 h3]; rfl
theorem denL_zero {d : Nat} (h0 : d ≠ 0) (h : ¬ (↑(limbs (denN d)).length : Int) = 1) (h1 : (limbs (denN d)).length ≤ 1) : d = 1 := by
  by_cases h2 : d = 1
  · exact h2
  · rw [denN_ne h2] at h h1
    have := limbs_len_pos.2 h0
    omega
theorem denL_nil {q : Rat} (h : ¬ (↑(limbs (denN q.den)).length : Int) = 1) (hs : smallQ q) : q.den = 1 := denL_zero q.den_nz h hs.2
theorem smallQ_num {q : Rat} (h : smallQ q) : q.num.natAbs < 4294967296 := lt_one_limb h.1
theorem smallQ_den {q : Rat} (h : smallQ q) : q.den < 4294967296 := by
  by_cases h1 : q.den = 1
  · omega
  · have h2 := h.2
    rw [denN_ne h1] at h2
    exact lt_one_limb h2
noncomputable def pN (q : Rat) : Nat := if smallQ q then q.num.natAbs else 0
noncomputable def pD (q : Rat) : Nat := if smallQ q then q.den else 0
theorem pN_t {q : Rat} (h : smallQ q) : pN q = q.num.natAbs := if_pos h
theorem pN_f {q : Rat} (h : ¬ smallQ q) : pN q = 0 := if_neg h
theorem pD_t {q : Rat} (h : smallQ q) : pD q = q.den := if_pos h
theorem pD_f {q : Rat} (h : ¬ smallQ q) : pD q = 0 := if_neg h
theorem bitsN_eq_zero {n : Nat} : bitsN n = 0 ↔ n = 0 := by
  unfold bitsN
  by_cases h : n = 0
  · simp [h]
  · simp [h]
theorem limb_one_iff {Y : Nat} : ((↑(limbs Y).length : Int) = 1 ∧ (limbs Y).getD 0 0 = 1) ↔ Y = 1 := by
  constructor
  · intro ⟨h1, h2⟩
    have h3 := lt_one_limb (n := Y) (by omega)
    have h4 : Y ≠ 0 := limbs_len_pos.1 (by omega)
    rw [limbs_one h4 h3] at h2
    exact h2
  · intro h
    subst h
    rw [limbs_one (by omega) (by omega)]
    exact ⟨rfl, rfl⟩
theorem bitsN_one {n : Nat} (h : ¬ (1 : Int) < ↑(bitsN n)) (h0 : n ≠ 0) : n = 1 := by
  have h1 := lt_pow_bitsN n
  have h2 := Nat.pow_le_pow_right (n := 2) (by decide) (show bitsN n ≤ 1 by omega)
  omega
theorem IsRat.fin {h : Mem} {s : Prop} {n d : Nat} {vn vd : Value} (hn0 : n ≠ 0) (hd0 : d ≠ 0) (hn : Us .u32 h vn (limbs (n / Nat.gcd n d))) (hd : Us .u32 h vd (limbs (d / Nat.gcd n d))) (h1 : ¬ ((↑(limbs (d / Nat.gcd n d)).length : Int) = 1 ∧ (limbs (d / Nat.gcd n d)).getD 0 0 = 1)) : IsRat h (.agg #[vB s, vn, vd]) (mkRat (sg s n) d) :=
  IsRat.make hn0 hd0 hn (by rw [denN_ne (fun e => h1 (limb_one_iff.2 e))]; exact hd)
theorem IsRat.fin1 {h : Mem} {s : Prop} {n d : Nat} {vn : Value} (hn0 : n ≠ 0) (hd0 : d ≠ 0) (hn : Us .u32 h vn (limbs (n / Nat.gcd n d))) (h1 : (↑(limbs (d / Nat.gcd n d)).length : Int) = 1 ∧ (limbs (d / Nat.gcd n d)).getD 0 0 = 1) : IsRat h (.agg #[vB s, vn, .slice none 0 0]) (mkRat (sg s n) d) :=
  IsRat.make hn0 hd0 hn (by rw [limb_one_iff.1 h1, denN_one, limbs_zero]; exact Us.nil _ _)
theorem one_limbs : [1] = limbs 1 := (limbs_one (by omega) (by omega)).symm
theorem len_one : (limbs 1).length = 1 := by rw [← one_limbs]; rfl
theorem limbs_len_gcd (m n : Nat) : (limbs (Nat.gcd m n)).length ≤ max (limbs m).length (limbs n).length := by
  by_cases h : m = 0
  · subst h; rw [Nat.gcd_zero_left]; omega
  · have := limbs_len_mono (Nat.gcd_le_left n (Nat.pos_of_ne_zero h))
    omega
end Bk

namespace Bk
set_option linter.unusedVariables false
set_option linter.unusedSimpArgs false
open Go Go.RowKit
open Classical

theorem sgnQ_zero {q : Rat} (h : q = 0) : sgnQ q = 0 := if_pos h
theorem sgnQ_neg {q : Rat} (h : q.num < 0) : sgnQ q = -1 := by
  unfold sgnQ
  rw [if_neg (fun e => by rw [e] at h; exact absurd h (by decide)), if_pos h]
theorem sgnQ_pos {q : Rat} (h : q ≠ 0) (h' : ¬ q.num < 0) : sgnQ q = 1 := by unfold sgnQ; rw [if_neg h, if_neg h']
theorem num_zero_bits {q : Rat} (h : (↑(bitsN q.num.natAbs) : Int) = 0) : q = 0 := by
  have := (bitsN_eq_zero (n := q.num.natAbs)).1 (by omega)
  exact Rat.num_eq_zero.1 (by omega)
theorem bits_zero_num {q : Rat} (h : q = 0) : (↑(bitsN q.num.natAbs) : Int) = 0 := by subst h; decide
theorem den_eq {a b : Rat} : limbs (denN a.den) = limbs (denN b.den) ↔ a.den = b.den := by
  refine ⟨fun h => ?_, fun h => by rw [h]⟩
  have h1 := limbs_inj h
  have ha := a.den_nz
  have hb := b.den_nz
  unfold denN at h1
  split at h1 <;> split at h1 <;> omega
theorem rat_eq {a b : Rat} (h1 : a.num = b.num) (h2 : a.den = b.den) : a = b := by
  rw [← Rat.mkRat_self a, ← Rat.mkRat_self b, h1, h2]
theorem same_iff {a b : Rat} : (((a.num < 0 ↔ b.num < 0) ∧ limbs a.num.natAbs = limbs b.num.natAbs) ∧ limbs (denN a.den) = limbs (denN b.den)) ↔ a = b := by
  refine ⟨fun ⟨⟨h1, h2⟩, h3⟩ => rat_eq ?_ (den_eq.1 h3), fun h => by subst h; simp⟩
  have := limbs_inj h2
  omega

theorem sgn_same {a b : Rat} (h : ¬ sgnQ a ≠ sgnQ b) : a.num < 0 ↔ b.num < 0 := by
  have h := Classical.not_not.1 h
  by_cases h1 : a.num < 0 <;> by_cases h2 : b.num < 0
  · simp [h1, h2]
  · rw [sgnQ_neg h1] at h
    by_cases h3 : b = 0
    · rw [sgnQ_zero h3] at h; omega
    · rw [sgnQ_pos h3 h2] at h; omega
  · rw [sgnQ_neg h2] at h
    by_cases h3 : a = 0
    · rw [sgnQ_zero h3] at h; omega
    · rw [sgnQ_pos h3 h1] at h; omega
  · simp [h1, h2]
/-- The order of the sizes of two numbers. -/
def cN (a b : Rat) : Int := cmpN (a.num.natAbs * b.den) (b.num.natAbs * a.den)
theorem cN_range (a b : Rat) : -1 ≤ cN a b ∧ cN a b ≤ 1 := by
  unfold cN cmpN
  split
  · omega
  · split <;> omega
theorem cmpQ_cN {a b : Rat} (h : a.num < 0 ↔ b.num < 0) (hn : a.num < 0) : cmpQ a b = -(cN a b) := by rw [cmpQ_num a b h, if_pos hn]; rfl
theorem cmpQ_cN' {a b : Rat} (h : a.num < 0 ↔ b.num < 0) (hn : ¬ a.num < 0) : cmpQ a b = cN a b := by rw [cmpQ_num a b h, if_neg hn]; rfl
theorem cN_den {a b : Rat} (h : limbs (denN a.den) = limbs (denN b.den)) : cN a b = cmpN a.num.natAbs b.num.natAbs := by
  unfold cN cmpN
  rw [den_eq.1 h]
  have hp := Nat.pos_of_ne_zero b.den_nz
  by_cases h1 : a.num.natAbs < b.num.natAbs
  · rw [if_pos h1, if_pos (Nat.mul_lt_mul_of_pos_right h1 hp)]
  · rw [if_neg h1, if_neg (fun e => h1 (Nat.lt_of_mul_lt_mul_right e))]
    by_cases h2 : a.num.natAbs = b.num.natAbs
    · rw [if_pos h2, h2, if_pos rfl]
    · rw [if_neg h2, if_neg (fun e => h2 (Nat.eq_of_mul_eq_mul_right hp e))]

/-- Numbers with one limb each. -/
theorem small_mul {m n : Nat} (hm : m < 4294967296) (hn : n < 4294967296) : m * n ≤ 18446744065119617025 := by
  have := Nat.mul_le_mul (show m ≤ 4294967295 by omega) (show n ≤ 4294967295 by omega)
  omega

/-- b with another sign. -/
noncomputable def sgd (s : Prop) (b : Rat) : Rat := mkRat (sg s b.num.natAbs) b.den
theorem sgd_self (b : Rat) : sgd (b.num < 0) b = b := mk_self b
theorem sgd_neg (b : Rat) : sgd (¬ b.num < 0) b = -b := by
  unfold sgd
  rw [← mk_neg, mk_self]
theorem lq_sgd (s : Prop) (b : Rat) : lq (sgd s b) ≤ lq b := lq_mk (lq_num b) (lq_den b) (lq_pos b)
theorem add_sgd {a b : Rat} {s : Prop} (h : (a.num < 0) ↔ s) : a + sgd s b = mkRat (sg s (a.num.natAbs * b.den + b.num.natAbs * a.den)) (a.den * b.den) := by
  have := mk_add s (n := a.num.natAbs) (m := b.num.natAbs) a.den_nz b.den_nz
  rw [← mk_iff h a.num.natAbs, mk_self] at this
  exact this
theorem sub_sgd {a b : Rat} {s : Prop} (h : ¬ ((a.num < 0) ↔ s)) (hle : b.num.natAbs * a.den ≤ a.num.natAbs * b.den) : a + sgd s b = mkRat (sg (a.num < 0) (a.num.natAbs * b.den - b.num.natAbs * a.den)) (a.den * b.den) := by
  have := mk_sub h (n := a.num.natAbs) (m := b.num.natAbs) a.den_nz b.den_nz hle
  rw [mk_self] at this
  exact this
theorem sub_sgd' {a b : Rat} {s : Prop} (h : ¬ ((a.num < 0) ↔ s)) (hle : a.num.natAbs * b.den ≤ b.num.natAbs * a.den) : a + sgd s b = mkRat (sg s (b.num.natAbs * a.den - a.num.natAbs * b.den)) (a.den * b.den) := by
  have := mk_sub' h (n := a.num.natAbs) (m := b.num.natAbs) a.den_nz b.den_nz hle
  rw [mk_self] at this
  exact this
/-- The same with one denominator. -/
theorem add_sgd1 {a b : Rat} {s : Prop} (h : (a.num < 0) ↔ s) (hd : a.den = b.den) : a + sgd s b = mkRat (sg s (a.num.natAbs + b.num.natAbs)) a.den := by
  rw [add_sgd h, ← hd, ← Nat.add_mul, mk_scale _ _ _ a.den_nz]
theorem sub_sgd1 {a b : Rat} {s : Prop} (h : ¬ ((a.num < 0) ↔ s)) (hd : a.den = b.den) (hle : b.num.natAbs ≤ a.num.natAbs) : a + sgd s b = mkRat (sg (a.num < 0) (a.num.natAbs - b.num.natAbs)) a.den := by
  rw [sub_sgd h (by rw [← hd]; exact Nat.mul_le_mul_right _ hle), ← hd, ← Nat.sub_mul, mk_scale _ _ _ a.den_nz]
theorem sub_sgd1' {a b : Rat} {s : Prop} (h : ¬ ((a.num < 0) ↔ s)) (hd : a.den = b.den) (hle : a.num.natAbs ≤ b.num.natAbs) : a + sgd s b = mkRat (sg s (b.num.natAbs - a.num.natAbs)) a.den := by
  rw [sub_sgd' h (by rw [← hd]; exact Nat.mul_le_mul_right _ hle), ← hd, ← Nat.sub_mul, mk_scale _ _ _ a.den_nz]
theorem mul_eq (a b : Rat) : mkRat (sg (¬ ((a.num < 0) ↔ (b.num < 0))) (a.num.natAbs * b.num.natAbs)) (a.den * b.den) = a * b := by
  rw [← mk_mul, mk_self, mk_self]
theorem quo_eq (a : Rat) {b : Rat} (hb : b ≠ 0) : mkRat (sg (¬ ((a.num < 0) ↔ (b.num < 0))) (a.num.natAbs * b.den)) (a.den * b.num.natAbs) = a / b := by
  rw [← mk_quo _ _ a.den_nz (num_ne.2 hb) b.den_nz, mk_self, mk_self]
theorem num_zero {q : Rat} (h : (↑(limbs q.num.natAbs).length : Int) = 0) : q = 0 := by
  refine Classical.byContradiction fun hne => ?_
  have := limbs_len_pos.2 (num_ne.2 hne)
  omega
theorem sgn_zero {q : Rat} : sgnQ q = 0 ↔ q = 0 := by
  refine ⟨fun h => ?_, sgnQ_zero⟩
  unfold sgnQ at h
  by_cases h1 : q = 0
  · exact h1
  · rw [if_neg h1] at h; split at h <;> omega
noncomputable def minQ (a b : Rat) : Rat := if b < a then b else a
noncomputable def maxQ (a b : Rat) : Rat := if a < b then b else a
theorem minQ_t {a b : Rat} (h : cmpQ b a < 0) : minQ a b = b := if_pos (cmpQ_neg.1 h)
theorem minQ_f {a b : Rat} (h : ¬ cmpQ b a < 0) : minQ a b = a := if_neg (fun e => h (cmpQ_neg.2 e))
theorem maxQ_t {a b : Rat} (h : 0 < cmpQ b a) : maxQ a b = b := if_pos (cmpQ_pos.1 h)
theorem maxQ_f {a b : Rat} (h : ¬ 0 < cmpQ b a) : maxQ a b = a := if_neg (fun e => h (cmpQ_pos.2 e))
theorem lq_min (a b : Rat) : lq (minQ a b) ≤ max (lq a) (lq b) := by unfold minQ; split <;> omega
theorem lq_max (a b : Rat) : lq (maxQ a b) ≤ max (lq a) (lq b) := by unfold maxQ; split <;> omega
/-- One half. -/
noncomputable def halfQ : Rat := mkRat (sg False 1) 2
theorem half_nums : halfQ.num = 1 ∧ halfQ.den = 2 := by
  unfold halfQ
  rw [mkRat_num (by omega), mkRat_den (by omega), sg_f id]
  exact ⟨rfl, rfl⟩
theorem half_num {h : Mem} {v : Value} (s : Us .u32 h v (limbs 1)) : Us .u32 h v (limbs halfQ.num.natAbs) := by
  rw [half_nums.1]; exact s
theorem half_den {h : Mem} {v : Value} (s : Us .u32 h v [2]) : Us .u32 h v (limbs (denN halfQ.den)) := by
  rw [half_nums.2, denN_ne (by omega), limbs_one (by omega) (by omega)]; exact s
theorem half_neg : vB (halfQ.num < 0) = .bool false := vB_false (by rw [half_nums.1]; decide)
theorem lq_half : lq halfQ ≤ 1 := lq_mk (by rw [limbs_one (by omega) (by omega)]; simp) (by rw [limbs_one (by omega) (by omega)]; simp) (by omega)
theorem half_val : halfQ = 1 / 2 := by
  unfold halfQ
  rw [mk_div, rz_f id]
  rfl
noncomputable def midQ (a b : Rat) : Rat := (a + b) * halfQ
theorem lq_mid (a b : Rat) : lq (midQ a b) ≤ lq a + lq b + 2 := by
  have h1 := lq_mul (a + b) halfQ
  have h2 := lq_add a b
  have h3 := lq_half
  unfold midQ
  omega

/-- The greatest integer below. -/
noncomputable def floorQ (q : Rat) : Rat := ((q.floor : Int) : Rat)
theorem floor_mk (s : Prop) {X Y : Nat} (hY : Y ≠ 0) : (mkRat (sg s X) Y).floor = sg s X / (Y : Int) := by
  rw [Rat.floor_def, mkRat_num hY, mkRat_den hY]
  have hg : 0 < Nat.gcd X Y := Nat.gcd_pos_of_pos_right _ (Nat.pos_of_ne_zero hY)
  have e1 : sg s X = sg s (X / Nat.gcd X Y) * (Nat.gcd X Y : Int) := by
    have e2 : X = X / Nat.gcd X Y * Nat.gcd X Y := (Nat.div_mul_cancel (Nat.gcd_dvd_left X Y)).symm
    by_cases h : s
    · rw [sg_t h, sg_t h, Int.neg_mul, ← Int.natCast_mul, ← e2]
    · rw [sg_f h, sg_f h, ← Int.natCast_mul, ← e2]
  have e3 : (Y : Int) = ((Y / Nat.gcd X Y : Nat) : Int) * (Nat.gcd X Y : Int) := by
    rw [← Int.natCast_mul, Nat.div_mul_cancel (Nat.gcd_dvd_right X Y)]
  generalize Nat.gcd X Y = g at *
  generalize hA : sg s (X / g) = A at *
  generalize hB : ((Y / g : Nat) : Int) = B at *
  rw [e1, e3]
  exact (Int.mul_ediv_mul_of_pos_left _ _ (by omega)).symm
theorem sg_floor (s : Prop) {X Y : Nat} (hY : Y ≠ 0) : sg s X / (Y : Int) = sg s (if s ∧ X % Y ≠ 0 then X / Y + 1 else X / Y) := by
  have hp : (0 : Int) < Y := by omega
  have e := Nat.div_add_mod X Y
  have hm := Nat.mod_lt X (Nat.pos_of_ne_zero hY)
  by_cases h : s
  · rw [sg_t h]
    by_cases h1 : X % Y = 0
    · rw [if_neg (fun e => e.2 h1), sg_t h]
      rw [Int.neg_ediv_of_dvd (Int.natCast_dvd_natCast.2 (Nat.dvd_of_mod_eq_zero h1))]
      omega
    · rw [if_pos ⟨h, h1⟩, sg_t h]
      refine (Int.ediv_eq_iff_of_pos hp).2 ?_
      have e4 : ((Y * (X / Y) + X % Y : Nat) : Int) = (X : Int) := by rw [e]
      rw [Int.natCast_add, Int.natCast_mul] at e4
      rw [Int.natCast_add]
      have hR : ((X % Y : Nat) : Int) < Y ∧ 0 < ((X % Y : Nat) : Int) := by omega
      generalize ((X / Y : Nat) : Int) = Q at *
      generalize ((X % Y : Nat) : Int) = R at *
      have e5 : -(Q + ((1 : Nat) : Int)) * (Y : Int) = -((Y : Int) * Q) - Y := by grind
      rw [e5]
      omega
  · rw [sg_f h, if_neg (fun e => h e.1), sg_f h]; omega
theorem mk_one (s : Prop) (n : Nat) : mkRat (sg s n) 1 = ((sg s n : Int) : Rat) := by
  rw [Rat.mkRat_one]
theorem floor_eq (s : Prop) {X Y : Nat} (hY : Y ≠ 0) : mkRat (sg s (if s ∧ X % Y ≠ 0 then X / Y + 1 else X / Y)) 1 = floorQ (mkRat (sg s X) Y) := by
  unfold floorQ
  rw [mk_one, floor_mk s hY, sg_floor s hY]
theorem floor_self (q : Rat) : floorQ (mkRat (sg (q.num < 0) q.num.natAbs) q.den) = floorQ q := by rw [mk_self]
theorem floorQ_num (q : Rat) : (floorQ q).num = q.floor := by unfold floorQ; rw [Rat.num_intCast]
/-- How often numbers are halved. -/
def kN (k : Int) : Nat := (min (max k 0) 4096).toNat
noncomputable def downQ (q : Rat) (k : Int) : Rat := mkRat (q * (2 ^ kN k : Nat)).floor (2 ^ kN k)
noncomputable def upQ (q : Rat) (k : Int) : Rat := -downQ (-q) k
theorem mul_pow (q : Rat) (m : Nat) : mkRat (sg (q.num < 0) (q.num.natAbs * m)) q.den = q * (m : Rat) := by
  have e : q = mkRat (sg (q.num < 0) q.num.natAbs) q.den := (mk_self q).symm
  have e2 : q * (m : Rat) = mkRat (sg (q.num < 0) q.num.natAbs) q.den * (m : Rat) := by rw [← e]
  rw [e2, mk_div, mk_div, Rat.natCast_mul]
  by_cases h : q.num < 0
  · rw [rz_t h, rz_t h]; grind
  · rw [rz_f h, rz_f h]; grind
theorem down_eq (q : Rat) (k : Int) : mkRat (sg ((floorQ (q * (2 ^ kN k : Nat))).num < 0) (floorQ (q * (2 ^ kN k : Nat))).num.natAbs) (2 ^ kN k) = downQ q k := by
  rw [sg_num, floorQ_num]; rfl
theorem lq_floor (q : Rat) : lq (floorQ q) ≤ lq q + 1 := by
  have h1 := lq_num q
  have h5 := lq_pos q
  have e := floor_eq (q.num < 0) (X := q.num.natAbs) q.den_nz
  rw [mk_self] at e
  rw [← e]
  have h2 := limbs_len_mono (Nat.div_le_self q.num.natAbs q.den)
  have h3 := limbs_len_add' (m := q.num.natAbs / q.den) (n := 1) (k := lq q) (by omega) (by rw [limbs_one (by omega) (by omega)]; exact h5)
  refine lq_mk ?_ (by rw [limbs_one (by omega) (by omega)]; simp) (by omega)
  split
  · exact h3
  · omega
theorem kN_le (k : Int) : kN k ≤ 4096 := by unfold kN; omega
theorem pow_len {k : Nat} (h : k ≤ 4096) : (limbs (2 ^ k)).length ≤ 129 := by
  have e : (4294967296 : Nat) ^ 129 = 2 ^ (32 * 129) := (Nat.pow_mul 2 32 129).symm
  have hk : k < 32 * 129 := by omega
  generalize 32 * 129 = m at *
  refine limbs_len_of_lt ?_
  rw [e]
  exact Nat.pow_lt_pow_right (by decide) hk
theorem lq_nat (m : Nat) : lq (m : Rat) = max (limbs m).length 1 := by
  have h1 : (m : Rat).num = (m : Int) := Rat.num_natCast m
  have h2 : (m : Rat).den = 1 := Rat.den_natCast m
  unfold lq
  rw [h1, h2, Int.natAbs_natCast, show limbs 1 = [1] from limbs_one (by omega) (by omega)]
  rfl
theorem lq_down (q : Rat) (k : Int) : lq (downQ q k) ≤ lq q + 130 := by
  have h1 := lq_floor (q * (2 ^ kN k : Nat))
  have h2 := lq_mul q (2 ^ kN k : Nat)
  rw [lq_nat] at h2
  have h3 := pow_len (kN_le k)
  have h4 := lq_num (floorQ (q * (2 ^ kN k : Nat)))
  rw [← down_eq]
  exact lq_mk (by omega) (by omega) (by omega)
theorem lq_up (q : Rat) (k : Int) : lq (upQ q k) ≤ lq q + 130 := by
  unfold upQ
  have := lq_down (-q) k
  rw [lq_neg] at this ⊢
  exact this
theorem lq_quo' (a b : Rat) : lq (if b = 0 then 0 else a / b) ≤ lq a + lq b := by
  have := lq_quo a b
  have h1 := lq_pos a
  split
  · rw [lq_zero]; omega
  · exact this
theorem sub_ok {p : Prop} [Decidable p] (h : (if p then 7 else 0 : Int) = 0) : ¬ p := by
  intro hp
  rw [if_pos hp] at h
  omega
theorem sub_no {p : Prop} [Decidable p] (h : ¬ (if p then 7 else 0 : Int) = 0) : p := by
  refine Classical.byContradiction fun hp => h ?_
  rw [if_neg hp]
noncomputable def bitsQ (q : Rat) : Int := max (↑(bitsN q.num.natAbs) : Int) ↑(bitsN q.den)
theorem floor_fin {s : Prop} {X Y : Nat} (hY : Y ≠ 0) (h : s ∧ (0 : Int) < ↑(bitsN (X % Y))) : mkRat (sg s (X / Y + 1)) 1 = floorQ (mkRat (sg s X) Y) := by
  rw [← floor_eq s hY, if_pos ⟨h.1, fun e => by rw [e] at h; exact absurd h.2 (by decide)⟩]
theorem floor_fin' {s : Prop} {X Y : Nat} (hY : Y ≠ 0) (h : ¬ (s ∧ (0 : Int) < ↑(bitsN (X % Y)))) : mkRat (sg s (X / Y)) 1 = floorQ (mkRat (sg s X) Y) := by
  rw [← floor_eq s hY, if_neg (fun e => h ⟨e.1, by have := bitsN_pos e.2; omega⟩)]
theorem limbs_len_i64 {n : Int} (h1 : -9223372036854775808 ≤ n) (h2 : n < 9223372036854775808) : (limbs n.natAbs).length ≤ 2 := limbs_len_word (by omega)
/-- The quotient of two integers. -/
noncomputable def makeQ (n d : Int) : Rat := (n : Rat) / (d : Rat)
theorem makeQ_zero (n : Int) : makeQ n 0 = 0 := by
  unfold makeQ
  have : ((0 : Int) : Rat) = 0 := rfl
  rw [this]; grind
theorem int_eq (n : Int) : mkRat (sg (n < 0) n.natAbs) 1 = (n : Rat) := by
  have e : sg (n < 0) n.natAbs = n := by
    by_cases h : n < 0
    · rw [sg_t h]; omega
    · rw [sg_f h]; omega
  rw [e, Rat.mkRat_one]
theorem makeQ_eq {n d : Int} (hd : d ≠ 0) : mkRat (sg (¬ ((n < 0) ↔ (d < 0))) n.natAbs) d.natAbs = makeQ n d := by
  unfold makeQ
  rw [← int_eq n, ← int_eq d, mk_quo _ _ (by omega) (by omega) (by omega), Nat.mul_one, Nat.one_mul]
theorem lq_int (n : Int) (h1 : -9223372036854775808 ≤ n) (h2 : n < 9223372036854775808) : lq (n : Rat) ≤ 2 := by
  rw [← int_eq]
  exact lq_mk (limbs_len_i64 h1 h2) (by rw [len_one]; omega) (by omega)
theorem lq_make {n d : Int} (h1 : -9223372036854775808 ≤ n) (h2 : n < 9223372036854775808) (h3 : -9223372036854775808 ≤ d) (h4 : d < 9223372036854775808) : lq (makeQ n d) ≤ 2 := by
  by_cases hd : d = 0
  · subst hd; rw [makeQ_zero, lq_zero]; omega
  · rw [← makeQ_eq hd]; exact lq_mk (limbs_len_i64 h1 h2) (limbs_len_i64 h3 h4) (by omega)
theorem shN_k (X : Nat) (k : Int) : shN X (min (max k 0) 4096) = X * 2 ^ kN k := by
  rw [shN_up (by omega) (by omega)]; rfl
theorem shN_k1 (k : Int) : shN 1 (min (max k 0) 4096) = 2 ^ kN k := by rw [shN_k, Nat.one_mul]
theorem shE_k (k : Int) : shE (min (max k 0) 4096) = 0 := shE_zero (by omega)
theorem lq_qpow (q : Rat) (k : Int) : lq (q * ((2 ^ kN k : Nat) : Rat)) ≤ lq q + 129 := by
  have h2 := lq_mul q (2 ^ kN k : Nat)
  rw [lq_nat] at h2
  have h3 := pow_len (kN_le k)
  omega
/-- The number below, 1 if there is none. -/
def dV (ys : List Nat) : Nat := if ys = [] then 1 else val ys
theorem val_dL (ys : List Nat) : val (if ys = [] then [1] else ys) = dV ys := by
  unfold dV
  split
  · rfl
  · rfl
theorem dV_zero {ys : List Nat} (h : (0 : Int) < ↑ys.length ∧ (↑(bitsN (val ys)) : Int) = 0) : dV ys = 0 := by
  unfold dV
  rw [if_neg (fun e => by rw [e] at h; simp at h)]
  exact bitsN_eq_zero.1 (by omega)
theorem dV_ne {ys : List Nat} (h : ¬ ((0 : Int) < ↑ys.length ∧ (↑(bitsN (val ys)) : Int) = 0)) : dV ys ≠ 0 := by
  unfold dV
  split
  · omega
  · rename_i h1
    intro h2
    have h3 : bitsN (val ys) = 0 := bitsN_eq_zero.2 h2
    have h4 : 0 < ys.length := List.length_pos_iff.2 h1
    exact h ⟨by omega, by omega⟩
theorem dV_zero' {ys : List Nat} (h : (0 : Int) < ↑ys.length ∧ (↑(limbs (val ys)).length : Int) = 0) : dV ys = 0 := by
  refine dV_zero ⟨h.1, ?_⟩
  have : val ys = 0 := Classical.byContradiction fun e => by have := limbs_len_pos.2 e; omega
  rw [this]; rfl
theorem dV_ne' {ys : List Nat} (h : ¬ ((0 : Int) < ↑ys.length ∧ (↑(limbs (val ys)).length : Int) = 0)) : dV ys ≠ 0 := by
  refine dV_ne fun e => h ⟨e.1, ?_⟩
  have : val ys = 0 := bitsN_eq_zero.1 (by omega)
  rw [this, limbs_zero]; rfl
theorem dL_len (ys : List Nat) : (if ys = [] then [1] else ys).length ≤ ys.length + 1 := by
  split
  · simp
  · omega
def canon (xs : List Nat) : Prop := xs = [] ∨ xs.getD (xs.length - 1) 0 ≠ 0
def badP (xs ys : List Nat) : Prop := ((¬ canon xs) ∨ (¬ canon ys)) ∨ ((↑ys.length : Int) = 1 ∧ ys.getD 0 0 = 1)
def validP (s : Prop) (xs ys : List Nat) : Prop := ¬ badP xs ys ∧ ((xs = [] → ¬ s ∧ ys = []) ∧ (xs ≠ [] → ys = [] ∨ Nat.gcd (val xs) (val ys) = 1))
theorem len_zero {xs : List Nat} : (↑xs.length : Int) = 0 ↔ xs = [] := ⟨fun h => List.eq_nil_of_length_eq_zero (by omega), fun h => by rw [h]; rfl⟩
theorem valid_nil {s : Prop} {xs ys : List Nat} (h1 : ¬ badP xs ys) (h2 : (↑xs.length : Int) = 0) : (¬ s ∧ (↑ys.length : Int) = 0) ↔ validP s xs ys := by
  have e := len_zero.1 h2
  unfold validP
  rw [len_zero]
  exact ⟨fun h => ⟨h1, fun _ => h, fun h' => absurd e h'⟩, fun h => h.2.1 e⟩
theorem valid_cons {s : Prop} {xs ys : List Nat} (h1 : ¬ badP xs ys) (h2 : ¬ (↑xs.length : Int) = 0) : ((↑ys.length : Int) = 0 ∨ (↑(bitsN (Nat.gcd (val xs) (val ys))) : Int) = 1) ↔ validP s xs ys := by
  have e := fun h => h2 (len_zero.2 h)
  have hb : ∀ n, (↑(bitsN n) : Int) = 1 ↔ n = 1 := by
    intro n
    refine ⟨fun h => bitsN_one (by omega) (fun e => by rw [e] at h; exact absurd h (by decide)), fun h => by rw [h]; rfl⟩
  unfold validP
  rw [len_zero, hb]
  exact ⟨fun h => ⟨h1, fun h' => absurd h' e, fun _ => h⟩, fun h => h.2.2 e⟩
theorem canon_limbs {xs : List Nat} (hf : Fit xs) (h : canon xs) : xs = limbs (val xs) :=
  (limbs_of_val hf (h.imp id (fun h => Nat.pos_of_ne_zero h))).symm
theorem limbs_canon (n : Nat) : canon (limbs n) := valid_limbs n
theorem dL_limbs {ys : List Nat} (hf : Fit ys) (h : canon ys) : (if ys = [] then [1] else ys) = limbs (dV ys) := by
  unfold dV
  split
  · exact one_limbs
  · exact canon_limbs hf h
theorem valid_ref {s : Prop} {xs ys : List Nat} (h : ¬ (badP xs ys ∨ ((↑xs.length : Int) = 0 ∧ (s ∨ (0 : Int) < ↑ys.length)))) : ((↑(limbs (Nat.gcd (val xs) (dV ys))).length : Int) = 1 ∧ (limbs (Nat.gcd (val xs) (dV ys))).getD 0 0 = 1) ↔ validP s xs ys := by
  have h1 : ¬ badP xs ys := fun e => h (.inl e)
  rw [limb_one_iff]
  unfold validP
  by_cases hx : xs = []
  · have hy : ¬ s ∧ ys = [] := by
      refine ⟨fun e => h (.inr ⟨len_zero.2 hx, .inl e⟩), Classical.byContradiction fun e => h (.inr ⟨len_zero.2 hx, .inr ?_⟩)⟩
      have := List.length_pos_iff.2 e
      omega
    rw [hx, hy.2]
    refine ⟨fun _ => ⟨?_, fun _ => ⟨hy.1, rfl⟩, fun e => absurd rfl e⟩, fun _ => by decide⟩
    rw [hx, hy.2] at h1; exact h1
  · have e : Nat.gcd (val xs) (dV ys) = 1 ↔ (ys = [] ∨ Nat.gcd (val xs) (val ys) = 1) := by
      unfold dV
      by_cases hy : ys = []
      · rw [if_pos hy, Nat.gcd_one_right]; simp [hy]
      · rw [if_neg hy]; simp [hy]
    rw [e]
    exact ⟨fun h2 => ⟨h1, fun e => absurd e hx, fun _ => h2⟩, fun h2 => h2.2.2 hx⟩
theorem valid_ref_f {s : Prop} {xs ys : List Nat} (h : badP xs ys ∨ ((↑xs.length : Int) = 0 ∧ (s ∨ (0 : Int) < ↑ys.length))) : ¬ validP s xs ys := by
  rintro ⟨h1, h2, h3⟩
  rcases h with h | ⟨h, h4⟩
  · exact h1 h
  · obtain ⟨h5, h6⟩ := h2 (len_zero.1 h)
    rcases h4 with h4 | h4
    · exact h5 h4
    · rw [h6] at h4; simp at h4
theorem valid_rat (q : Rat) : validP (q.num < 0) (limbs q.num.natAbs) (limbs (denN q.den)) := by
  have hz : limbs q.num.natAbs = [] ↔ q = 0 := by
    rw [← limbs_zero]
    refine ⟨fun h => Rat.num_eq_zero.1 (by have := limbs_inj h; omega), fun h => by rw [h]; rfl⟩
  refine ⟨?_, fun h => ?_, fun h => ?_⟩
  · rintro ((h | h) | h)
    · exact h (limbs_canon _)
    · exact h (limbs_canon _)
    · have h1 := limb_one_iff.1 h
      unfold denN at h1
      split at h1 <;> omega
  · rw [hz.1 h]
    exact ⟨by decide, limbs_zero⟩
  · rw [val_limbs, val_limbs]
    unfold denN
    split
    · exact .inl limbs_zero
    · exact .inr q.reduced
theorem gcd_one_of {g : Nat} (h : ¬ ((↑(limbs g).length : Int) ≠ 1 ∨ (limbs g).getD 0 0 ≠ 1)) : g = 1 :=
  limb_one_iff.1 ⟨Classical.not_not.1 fun e => h (.inl e), Classical.not_not.1 fun e => h (.inr e)⟩
theorem cmp_same {a b : Rat} : (((a.num < 0) ↔ (b.num < 0)) ∧ cmpN a.num.natAbs b.num.natAbs = 0) ∧ cmpN (denN a.den) (denN b.den) = 0 ↔ a = b := by
  rw [cmpN_zero, cmpN_zero, ← same_iff]
  constructor
  · rintro ⟨⟨h1, h2⟩, h3⟩
    exact ⟨⟨h1, by rw [h2]⟩, by rw [h3]⟩
  · rintro ⟨⟨h1, h2⟩, h3⟩
    exact ⟨⟨h1, limbs_inj h2⟩, limbs_inj h3⟩
theorem len_num {q : Rat} : (↑(limbs q.num.natAbs).length : Int) = 0 ↔ q = 0 := by
  refine ⟨num_zero, fun h => ?_⟩
  subst h
  rw [show (0 : Rat).num.natAbs = 0 from rfl, limbs_zero]; rfl
theorem num_pos_of {q : Rat} (h : ¬ (↑(limbs q.num.natAbs).length : Int) = 0) : q ≠ 0 := fun e => h (len_num.2 e)
theorem add_same {a b : Rat} (h : (a.num < 0) ↔ (b.num < 0)) : mkRat (sg (a.num < 0) (a.num.natAbs * b.den + b.num.natAbs * a.den)) (a.den * b.den) = a + b := by
  have := add_sgd (a := a) (b := b) h
  rw [sgd_self, mk_iff h.symm] at this
  exact this.symm
theorem add_ge {a b : Rat} (h : ¬ ((a.num < 0) ↔ (b.num < 0))) (hle : b.num.natAbs * a.den ≤ a.num.natAbs * b.den) : mkRat (sg (a.num < 0) (a.num.natAbs * b.den - b.num.natAbs * a.den)) (a.den * b.den) = a + b := by
  have := sub_sgd (a := a) (b := b) h hle
  rw [sgd_self] at this
  exact this.symm
theorem add_lt {a b : Rat} (h : ¬ ((a.num < 0) ↔ (b.num < 0))) (hle : a.num.natAbs * b.den ≤ b.num.natAbs * a.den) : mkRat (sg (b.num < 0) (b.num.natAbs * a.den - a.num.natAbs * b.den)) (a.den * b.den) = a + b := by
  have := sub_sgd' (a := a) (b := b) h hle
  rw [sgd_self] at this
  exact this.symm
theorem floor_rest {q : Rat} (h : (q.num < 0) ∧ (0 : Int) < ↑(limbs (q.num.natAbs % q.den)).length) : mkRat (sg (q.num < 0) (q.num.natAbs / q.den + 1)) 1 = floorQ q := by
  have e := floor_eq (q.num < 0) (X := q.num.natAbs) q.den_nz
  rw [mk_self, if_pos ⟨h.1, limbs_len_pos.1 (by omega)⟩] at e
  exact e
theorem floor_rest' {q : Rat} (h : ¬ ((q.num < 0) ∧ (0 : Int) < ↑(limbs (q.num.natAbs % q.den)).length)) : mkRat (sg (q.num < 0) (q.num.natAbs / q.den)) 1 = floorQ q := by
  have e := floor_eq (q.num < 0) (X := q.num.natAbs) q.den_nz
  rw [mk_self, if_neg (fun e => h ⟨e.1, by have := limbs_len_pos.2 e.2; omega⟩)] at e
  exact e
theorem down_over (q : Rat) (k : Int) : floorQ (q * ((2 ^ kN k : Nat) : Rat)) / ((2 ^ kN k : Nat) : Rat) = downQ q k := by
  unfold downQ floorQ
  rw [Rat.mkRat_eq_div]
theorem us_nat_num {h : Mem} {v : Value} {m : Nat} (s : Us .u32 h v (limbs m)) : Us .u32 h v (limbs (m : Rat).num.natAbs) := by
  rw [Rat.num_natCast, Int.natAbs_natCast]; exact s
theorem us_nat_den {h : Mem} {m : Nat} : Us .u32 h (.slice none 0 0) (limbs (denN (m : Rat).den)) := by
  rw [Rat.den_natCast, denN_one, limbs_zero]; exact Us.nil _ _
theorem nat_neg (m : Nat) : vB ((m : Rat).num < 0) = .bool false := vB_false (by rw [Rat.num_natCast]; omega)
theorem us_int_num {h : Mem} {v : Value} {n : Int} (s : Us .u32 h v (limbs n.natAbs)) : Us .u32 h v (limbs (n : Rat).num.natAbs) := by
  rw [Rat.num_intCast]; exact s
theorem us_int_den {h : Mem} {n : Int} : Us .u32 h (.slice none 0 0) (limbs (denN (n : Rat).den)) := by
  rw [Rat.den_intCast, denN_one, limbs_zero]; exact Us.nil _ _
theorem IsRat.int {h : Mem} {v : Value} {n : Int} (s : Us .u32 h v (limbs n.natAbs)) : IsRat h (.agg #[vB (n < 0), v, .slice none 0 0]) (n : Rat) :=
  ⟨v, .slice none 0 0, by rw [Rat.num_intCast], us_int_num s, us_int_den⟩
theorem pow_ne (k : Nat) : 2 ^ k ≠ 0 := Nat.ne_of_gt (Nat.pow_pos (by omega))
theorem pow_ratne (k : Nat) : ((2 ^ k : Nat) : Rat) ≠ 0 := cast_ne (pow_ne k)
theorem lq_pow (k : Int) : lq ((2 ^ kN k : Nat) : Rat) ≤ 129 := by
  rw [lq_nat]
  have h3 := pow_len (kN_le k)
  omega
theorem half_make : makeQ 1 2 = halfQ := by rw [half_val]; rfl
/-- The valid number of limbs; 0 if there is none. -/
noncomputable def numQ (s : Prop) (xs ys : List Nat) : Rat := mkRat (sg s (val xs)) (dV ys)
theorem lq_numQ (s : Prop) (xs ys : List Nat) : lq (numQ s xs ys) ≤ max (limbs (val xs)).length (limbs (dV ys)).length + 1 := lq_mk (by omega) (by omega) (by omega)
theorem lq_norm (s : Prop) (xs ys : List Nat) : lq (mkRat (sg s (val xs)) (dV ys)) ≤ max (limbs (val xs)).length (limbs (dV ys)).length + 1 := lq_numQ s xs ys
end Bk

namespace Go.Proofs.YtkdmphehabpcfaaGreat
open Bk Go
set_option linter.unusedVariables false
set_option linter.unusedSimpArgs false
set_option maxRecDepth 10000

theorem rat_one {w0 : World} {h0 : Mem}  (hs : MLe h0 (mem w0))  :
    Calls Tryz.prog 108 #[] w0 (Ret w0 h0 (fun h r => Us .u32 h r [1])) := by
 refine calls_begin (n := 2) (e := []) (vs := []) Tryz.func108 rfl rfl (Nat.le_of_ble_eq_true rfl) hs trivial (gc_seq (gc_region (asg rfl rfl (gl_nil (gq_then (gc_seq (gc_region (gl_newop (new_build1 (kd := .u32) (p := 1) Tryz.underlying27 info78 rfl rfl rfl) rfl rfl rfl ?_))))))))
 intro v1 r1 hr1
 obtain rfl := hr1
 refine gl_freeze_us0 (by intro z hz; simp only [List.mem_singleton] at hz; subst hz; decide) ?_
 intro h1 hh1 h1
 refine asg rfl rfl (gl_nil (gq_then (gc_ret (gq_body1 rfl rfl ?_))))
 exact h1

theorem rat_den {w0 : World} {h0 : Mem}  (hs : MLe h0 (mem w0)) {sa : Bool} {vna vda : Value} {na da : List Nat} (hna : Us .u32 h0 vna na) (hda : Us .u32 h0 vda da) :
    Calls Tryz.prog 102 #[.agg #[.bool sa, vna, vda]] w0 (Ret w0 h0 (fun h r => Us .u32 h r (if da = [] then [1] else da))) := by
 refine calls_begin (n := 10) (e := [(0, .agg #[.bool sa, vna, vda])]) (vs := [.agg #[.bool sa, vna, vda]]) Tryz.func102 rfl rfl (Nat.le_of_ble_eq_true rfl) hs ⟨rfl, trivial⟩ (gc_seq (gc_region (gl_newop (new_box (cs := [_, _, _]) rfl rfl) rfl rfl rfl ?_)))
 intro v1 r1 hr1
 obtain ⟨b1, rfl, rfl⟩ := hr1
 refine asg rfl rfl (gl_nil (gq_then (gc_seq (gc_seq (gc_region (gv (ov_field_addr Tryz.underlying29 rfl Tryz.sizeOf27 rfl) rfl (gv (ov_load_var (.head _) Tryz.isAgg27 rfl rfl) rfl (gv (ov_len_us Tryz.underlying27 rfl hda) rfl (gv (ov_eql_i (q := 0) rfl rfl) rfl (gl_nil (gq_then ?_)))))))))))
 refine gc_cond rfl (fun hc6 => ?_) (fun hc6 => ?_)
 ·
  refine gc_seq (gc_region ?_)
  refine gl_call (vs := []) rfl rfl rfl rfl Tryz.call108 trivial (fun w hs => rat_one hs) ?_
  intro v7 h1 hh1 hr7
  rw [one_limbs] at hr7
  have hlm7 := len_one
  refine asg rfl rfl (gl_nil (gq_then (gc_ret (gr_then (gq_body1 rfl rfl ?_)))))
  rw [if_pos (List.eq_nil_of_length_eq_zero (by omega)), one_limbs]
  exact hr7
 ·
  refine gc_skip (gq_then (gc_seq (gc_region (gv (ov_field_addr Tryz.underlying29 rfl Tryz.sizeOf27 rfl) rfl (gv (ov_load_var (.head _) Tryz.isAgg27 rfl rfl) rfl (asg rfl rfl (gl_nil (gq_then (gc_ret (gq_body1 rfl rfl ?_))))))))))
  rw [if_neg (fun h => hc6 (by rw [h]; rfl))]
  exact hda

theorem rat_copied {w0 : World} {h0 : Mem}  (hs : MLe h0 (mem w0)) {qa : Rat} {vna vda : Value} (hna : Us .u32 h0 vna (limbs qa.num.natAbs)) (hda : Us .u32 h0 vda (limbs (denN qa.den))) (hl : (limbs qa.num.natAbs).length ≤ 1099511627776) (hl' : (limbs (denN qa.den)).length ≤ 1099511627776) :
    Calls Tryz.prog 99 #[.agg #[vB (qa.num < 0), vna, vda]] w0 (Ret w0 h0 (fun h r => IsRat h r qa)) := by
 refine calls_begin (n := 12) (e := [(0, .agg #[vB (qa.num < 0), vna, vda])]) (vs := [.agg #[vB (qa.num < 0), vna, vda]]) Tryz.func99 rfl rfl (Nat.le_of_ble_eq_true rfl) hs ⟨rfl, trivial⟩ (gc_seq (gc_region (gl_newop (new_box (cs := [_, _, _]) rfl rfl) rfl rfl rfl ?_)))
 intro v1 r1 hr1
 obtain ⟨b1, rfl, rfl⟩ := hr1
 refine gl_newop (new_alloc (cs := [vB ((0 : Rat).num < 0), .slice none 0 0, .slice none 0 0]) info29 rfl (by simp only [zb]; rfl)) rfl rfl rfl ?_
 intro v2 r2 hr2
 obtain ⟨b2, rfl, rfl⟩ := hr2
 refine gl_nil (gq_then (gc_seq ?_))
 refine gc_draw 9 _ [] [(0, .q), (1, .q), (2, .q), (3, .q), (5, .q), (6, .q), (4, .c), (7, .c), (8, .c), (9, .t)] mixed (fun x hx => by cases hx) (by kernel_rfl) (fun x hx => by cases hx) (fun r hr => hr) (w_q rfl (fun h' L' hh hR => ov_field_addr Tryz.underlying29 rfl Tryz.sizeOf4 rfl) rfl (w_q rfl (fun h' L' hh hR => ov_load_var (hR _ (.tail _ (.head _))) Tryz.isAgg4 rfl rfl) rfl (w_q rfl (fun h' L' hh hR => ov_field_addr Tryz.underlying29 rfl Tryz.sizeOf27 rfl) rfl (w_q rfl (fun h' L' hh hR => ov_load_var (hR _ (.tail _ (.head _))) Tryz.isAgg27 rfl rfl) rfl (w_q rfl (fun h' L' hh hR => ov_field_addr Tryz.underlying29 rfl Tryz.sizeOf27 rfl) rfl (w_q rfl (fun h' L' hh hR => ov_load_var (hR _ (.tail _ (.head _))) Tryz.isAgg27 rfl rfl) rfl ?_))))))
 refine w_c rfl ?_
 refine s_call_own (vs := [_]) Tryz.call114 ⟨rfl, trivial⟩ (fun w hs => sl_clone hs hna (by omega)) rfl ?_
 intro v7 h1 L7 hh1 hr7
 obtain rfl := hr7
 refine w_c rfl ?_
 replace hda := hda.mono hh1
 refine s_call_own (vs := [_]) Tryz.call114 ⟨rfl, trivial⟩ (fun w hs => sl_clone hs hda (by omega)) rfl ?_
 intro v10 h2 L10 hh2 hr10
 obtain rfl := hr10
 refine w_c rfl ?_
 replace hna := hna.mono (hh1.trans hh2)
 refine s_freeze (A := [_]) (by exact hna.lt) (by simp only [List.mem_cons, List.not_mem_nil, or_false]; rintro r (rfl | rfl) _ <;> simp) ?_
 intro h3 hh3 hc1
 replace hda := hda.mono (hh2.trans hh3)
 refine s_freeze (A := []) (by exact hda.lt) (by simp only [List.mem_cons, List.not_mem_nil, or_false]; rintro r (rfl | rfl) _ <;> simp) ?_
 intro h4 hh4 hc2
 replace hc1 := hc1.mono hh4
 refine s_val (fun X => ov_build_parts (ps' := [(0, _), (1, _), (2, _)]) (vs := [vB (qa.num < 0), v7, v10]) Tryz.underlying29 info29 rfl (places29 Tryz.underlying29) ⟨rfl, rfl, rfl, rfl, rfl, rfl, trivial⟩ (fill_one (A := []) (B := [_]) (C := [_, _]) (cs := [_]) (off := 0) (size := 1) rfl rfl rfl rfl rfl (fill_one (A := [_]) (B := [_]) (C := [_]) (cs := [_]) (off := 1) (size := 1) rfl rfl rfl rfl hc1.cells (fill_one (A := [_, _]) (B := [_]) (C := []) (cs := [_]) (off := 2) (size := 1) rfl rfl rfl rfl hc2.cells fill_nil)))) rfl (w_t_upd (A := []) (q' := .var b2 29 [vB (qa.num < 0), v7, v10]) rfl (upd_store_var (k := 0) (cs := [_, _, _]) (vs := [_, _, _]) rfl rfl rfl (ocr rfl (ocu hc1 (ocu hc2 oc0))) size29 (Nat.le_of_ble_eq_true rfl)) rfl (w_nil (gq_keep (e' := [(2, _)]) ⟨rfl, trivial⟩ (gq_then (gc_ret (gq_res (fun E S => run_res1 rfl (rv_agg (cs := [_, _, _]) (.head _) Tryz.underlying29 rfl size29 rfl) E S) ?_))))))
 exact ⟨_, _, rfl, hc1, hc2⟩

theorem rat_neg {w0 : World} {h0 : Mem}  (hs : MLe h0 (mem w0)) {qa : Rat} {vna vda : Value} (hna : Us .u32 h0 vna (limbs qa.num.natAbs)) (hda : Us .u32 h0 vda (limbs (denN qa.den))) (hl : (limbs qa.num.natAbs).length ≤ 1099511627776) (hl' : (limbs (denN qa.den)).length ≤ 1099511627776) :
    Calls Tryz.prog 77 #[.agg #[vB (qa.num < 0), vna, vda]] w0 (Ret w0 h0 (fun h r => IsRat h r (-qa))) := by
 refine calls_begin (n := 16) (e := [(0, .agg #[vB (qa.num < 0), vna, vda])]) (vs := [.agg #[vB (qa.num < 0), vna, vda]]) Tryz.func77 rfl rfl (Nat.le_of_ble_eq_true rfl) hs ⟨rfl, trivial⟩ (gc_seq (gc_region (gl_newop (new_box (cs := [_, _, _]) rfl rfl) rfl rfl rfl ?_)))
 intro v1 r1 hr1
 obtain ⟨b1, rfl, rfl⟩ := hr1
 refine gl_newop (new_alloc (cs := [vB ((0 : Rat).num < 0), .slice none 0 0, .slice none 0 0]) info29 rfl (by simp only [zb]; rfl)) rfl rfl rfl ?_
 intro v2 r2 hr2
 obtain ⟨b2, rfl, rfl⟩ := hr2
 refine gl_nil (gq_then (gc_seq (gc_region (gv (ov_load_agg (vs := [_, _, _]) (.tail _ (.head _)) Tryz.underlying29 rfl size29 rfl rfl) rfl ?_))))
 refine gl_call (vs := [_]) rfl rfl rfl rfl Tryz.call99 ⟨rfl, trivial⟩ (fun w hs => rat_copied hs hna hda (by omega) (by omega)) ?_
 intro v4 h1 hh1 hr4
 obtain ⟨vn4, vd4, rfl, hn4, hd4⟩ := hr4
 refine gl_upd (A := [_]) (r' := .var b1 29 [vB ((qa).num < 0), vn4, vd4]) (upd_store_var (k := 0) (cs := [_, _, _]) (vs := [_, _, _]) rfl rfl rfl (ocr rfl (ocu hn4 (ocu hd4 oc0))) size29 (Nat.le_of_ble_eq_true rfl)) rfl rfl rfl (gl_nil (gq_then (gc_seq (gc_region (gv (ov_field_addr Tryz.underlying29 rfl Tryz.sizeOf4 rfl) rfl (gv (ov_load_var (.tail _ (.head _)) Tryz.isAgg4 rfl rfl) rfl (gv (ov_not rfl) rfl ?_)))))))
 refine gl_cut (ι := Unit) 6 (fun _ => True) (fun _ => [(13, vB ((¬ qa.num < 0) ∧ ((0 : Int) < ↑(limbs qa.num.natAbs).length))), (1, vP b1 0), (2, vP b2 0)]) (fun _ => [.var b2 29 [vB ((0 : Rat).num < 0), .slice none 0 0, .slice none 0 0], .var b1 29 [vB ((qa).num < 0), vn4, vd4]]) (fun _ => h1) ?_ ?_
 ·
  refine gl_cases (¬ qa.num < 0) (fun hg => ?_) (fun hg => ?_)
  ·
   refine gl_val (ov_move (v := .bool true) (congrArg some (vB_true hg))) rfl rfl rfl (gl_on rfl rfl rfl (gv (ov_field_addr Tryz.underlying29 rfl Tryz.sizeOf27 rfl) rfl (gl_on rfl rfl rfl (gv (ov_load_var (.tail _ (.head _)) Tryz.isAgg27 rfl rfl) rfl (gl_on rfl rfl rfl (gv (ov_len_us Tryz.underlying27 rfl hn4) rfl (gl_on rfl rfl rfl (gv (ov_gtr_i (q := 0) rfl rfl) rfl (gv (ov_pick_t rfl rfl) rfl (gl_nil ?_))))))))))
   refine gq_cut () trivial ⟨?_, rfl, rfl, trivial⟩ rfl rfl
   exact congrArg some (vB_and_t hg)
  ·
   refine gl_val (ov_move (v := .bool false) (congrArg some (vB_false hg))) rfl rfl rfl (gl_off rfl rfl rfl rfl rfl rfl (gl_off rfl rfl rfl rfl rfl rfl (gl_off rfl rfl rfl rfl rfl rfl (gl_off rfl rfl rfl rfl rfl rfl (gv (ov_pick_f rfl rfl) rfl (gl_nil ?_))))))
   refine gq_cut () trivial ⟨?_, rfl, rfl, trivial⟩ rfl rfl
   exact congrArg some (vB_and_f hg)
 ·
  intro _ _
  show GL _ _ _ _ _ _ _ [(13, vB ((¬ qa.num < 0) ∧ ((0 : Int) < ↑(limbs qa.num.natAbs).length))), (1, vP b1 0), (2, vP b2 0)] [.var b2 29 [vB ((0 : Rat).num < 0), .slice none 0 0, .slice none 0 0], .var b1 29 [vB ((qa).num < 0), vn4, vd4]] h1
  refine gv (ov_field_addr Tryz.underlying29 rfl Tryz.sizeOf4 rfl) rfl (gl_upd (A := [_]) (r' := .var b1 29 [vB ((¬ qa.num < 0) ∧ ((0 : Int) < ↑(limbs qa.num.natAbs).length)), vn4, vd4]) (upd_store_var (k := 0) (cs := [_, _, _]) (vs := [_]) rfl rfl rfl rfl size4 (Nat.le_of_ble_eq_true rfl)) rfl rfl rfl (gl_nil (gq_then (gc_seq (gc_region (gv (ov_load_agg (vs := [_, _, _]) (.tail _ (.head _)) Tryz.underlying29 rfl size29 rfl rfl) rfl (gl_upd (A := []) (r' := .var b2 29 [vB ((¬ qa.num < 0) ∧ ((0 : Int) < ↑(limbs qa.num.natAbs).length)), vn4, vd4]) (upd_store_var (k := 0) (cs := [_, _, _]) (vs := [_, _, _]) rfl rfl rfl (ocr rfl (ocu hn4 (ocu hd4 oc0))) size29 (Nat.le_of_ble_eq_true rfl)) rfl rfl rfl (gl_nil (gq_then (gc_ret (gq_res (fun E S => run_res1 rfl (rv_agg (cs := [_, _, _]) (.head _) Tryz.underlying29 rfl size29 rfl) E S) ?_)))))))))))
  exact IsRat.negB hn4 hd4

end Go.Proofs.YtkdmphehabpcfaaGreat

namespace Go.Proofs.YtkdmphehabpcfaaGreat
open Bk Go
set_option linter.unusedVariables false
set_option linter.unusedSimpArgs false
set_option maxRecDepth 10000

theorem rat_word {w0 : World} {h0 : Mem}  (hs : MLe h0 (mem w0)) {v : Value} {xs : List Nat} (hv : Us .u32 h0 v xs) (hl : xs.length ≤ 2) :
    Calls Tryz.prog 122 #[v] w0 (Ret w0 h0 (fun _ r => r = vU .u64 (val xs))) := by
 have hf : Fit xs := hv.lt
 refine calls_begin (n := 21) (e := [(0, v)]) (vs := [v]) Tryz.func122 rfl rfl (Nat.le_of_ble_eq_true rfl) hs ⟨rfl, trivial⟩ (gc_seq (gc_region (asg (v := vU .u64 0) rfl rfl (gl_nil (gq_then (gc_seq (gc_region (asg (v := vU .u64 0) rfl rfl (gl_nil (gq_then (gc_seq (gc_seq (gc_region ?_)))))))))))))
 refine mv rfl rfl (gv (ov_len_us Tryz.underlying27 rfl hv) rfl (gv (ov_sub_i (q := 1) rfl rfl (by omega) (by omega)) rfl (asg rfl rfl (gl_nil (gq_then (gc_block ?_))))))
 have hd0 : val (xs.drop xs.length) = 0 := by rw [List.drop_of_length_le (Nat.le_refl _)]; rfl
 refine gc_loop (ι := Nat) (fun (j : (Nat)) => j ≤ xs.length) (fun (j : (Nat)) => [(0, v), (3, vU .u64 (val (xs.drop j))), (4, vI (↑j - 1))]) (fun (j : (Nat)) => []) (fun (j : (Nat)) => h0) (fun (j : (Nat)) => j) xs.length ?_ ⟨?_, ?_, ?_, trivial⟩ rfl rfl ?_
 ·
  exact Nat.le_refl _
 · exact rfl
 · exact congrArg some (congrArg (vU .u64) hd0.symm)
 · exact rfl
 ·
  intro j hx
  obtain hj := hx
  show GC _ _ _ _ _ _ [(0, v), (3, vU .u64 (val (xs.drop j))), (4, vI (↑j - 1))] [] h0
  refine gc_seq (gc_seq (gc_region (mv rfl rfl (gv (ov_geq_i (q := 0) rfl rfl) rfl (gl_nil (gq_then ?_))))))
  refine gc_cond rfl (fun hc9 => ?_) (fun hc9 => ?_)
  ·
   refine gc_skip (gq_then (gc_seq (gc_block (gc_region (mv rfl rfl (gv (ov_shl_u (k := .u64) (s := 32) (yk := .u64) (W := 18446744073709551616) rfl rfl rfl rfl) rfl (mv rfl rfl (mv rfl rfl (gv (ov_index_us (j - 1) Tryz.underlying27 Tryz.sizeOf78 rfl rfl hv (by omega) (by omega)) rfl (gv (ov_load_us Tryz.isAgg78 rfl hv (by omega)) rfl ?_))))))))))
   have hx1 := hv.get32 (j - 1)
   refine gv (ov_conv_u (k := .u32) (k' := .u64) (W := 18446744073709551616) Tryz.underlying78 Tryz.underlying90 rfl rfl rfl (by omega)) rfl (gv (ov_or_u (k := .u64) rfl rfl rfl (by simp only [ub]; omega) (by simp only [ub]; omega)) rfl ?_)
   rw [or_shift (by
         have h2 := val_lt (fit_drop hf j)
         rw [List.length_drop] at h2
         have h3 : (4294967296 : Nat) ^ (xs.length - j) ≤ 4294967296 ^ 1 := Nat.pow_le_pow_right (by omega) (by omega)
         omega) hx1]
   refine asg rfl rfl (gl_nil (gq_in (gq_keep (e' := [(0, _), (4, _), (3, _)]) ⟨rfl, rfl, rfl, trivial⟩ (gq_then (gc_region (mv rfl rfl (gv (ov_sub_i (q := 1) rfl rfl (by omega) (by omega)) rfl (asg rfl rfl (gl_nil ?_)))))))))
   refine gq_round (j - 1) ?_ ?_ ⟨?_, ?_, ?_, trivial⟩ ?_ rfl
   ·
    omega
   ·
    omega
   · exact rfl
   · 
           rw [val_drop xs (j - 1) (by omega)]
           exact congrArg some (congrArg (vU .u64) (by rw [show j - 1 + 1 = j by omega]; omega))
   · exact congrArg some (congrArg vI (by omega))
   · exact rfl
  ·
   refine gc_exit (gx_then (gx_then (gx_here (gq_then (gc_seq (gc_region (mv rfl rfl (asg rfl rfl (gl_nil (gq_then (gc_ret (gq_body1 rfl rfl ?_))))))))))))
   rw [show j = 0 by omega]; rfl

theorem rat_divisor {w0 : World} {h0 : Mem}  (hs : MLe h0 (mem w0)) {m n : Nat} (hm0 : m < 18446744073709551616) (hn0 : n < 18446744073709551616) :
    Calls Tryz.prog 128 #[vU .u64 m, vU .u64 n] w0 (Ret w0 h0 (fun _ r => r = vU .u64 (Nat.gcd m n))) := by
 refine calls_begin (n := 12) (e := [(0, vU .u64 m), (1, vU .u64 n)]) (vs := [vU .u64 m, vU .u64 n]) Tryz.func128 rfl rfl (Nat.le_of_ble_eq_true rfl) hs ⟨rfl, rfl, trivial⟩ (gc_seq (gc_region (asg (v := vU .u64 0) rfl rfl (gl_nil (gq_then (gc_seq (gc_block ?_)))))))
 refine gc_loop (ι := Nat × Nat) (fun (x_ : (Nat × Nat)) => match x_ with | (x, y) => Nat.gcd x y = Nat.gcd m n ∧ x < 18446744073709551616 ∧ y < 18446744073709551616) (fun (x_ : (Nat × Nat)) => match x_ with | (x, y) => [(0, vU .u64 x), (1, vU .u64 y)]) (fun (x_ : (Nat × Nat)) => match x_ with | (x, y) => []) (fun (x_ : (Nat × Nat)) => match x_ with | (x, y) => h0) (fun (x_ : (Nat × Nat)) => match x_ with | (x, y) => y) (m, n) ?_ ⟨rfl, rfl, trivial⟩ rfl rfl ?_
 ·
  exact ⟨rfl, hm0, hn0⟩
 ·
  intro x hx
  obtain ⟨x, y⟩ := x
  obtain ⟨hg3, hm, hn⟩ := hx
  show GC _ _ _ _ _ _ [(0, vU .u64 x), (1, vU .u64 y)] [] h0
  refine gc_seq (gc_seq (gc_region (mv rfl rfl (gv (ov_neq_u (k := .u64) (q := 0) rfl rfl) rfl (gl_nil (gq_then ?_))))))
  refine gc_cond rfl (fun hc6 => ?_) (fun hc6 => ?_)
  ·
   refine gc_skip (gq_then (gc_block ?_))
   refine gc_draw 6 _ [] [(0, .q), (1, .q), (2, .q), (3, .q), (4, .q), (5, .q)] mixed (fun x hx => by cases hx) (by kernel_rfl) (fun x hx => by cases hx) (fun r hr => hr) (w_q rfl (fun h' L' hh hR => ov_move rfl) rfl (w_q rfl (fun h' L' hh hR => ov_move rfl) rfl (w_q rfl (fun h' L' hh hR => ov_move rfl) rfl (w_q rfl (fun h' L' hh hR => ov_rem_u (k := .u64) rfl rfl (by omega)) rfl (w_q rfl (fun h' L' hh hR => ov_assign rfl) rfl (w_q rfl (fun h' L' hh hR => ov_assign rfl) rfl (w_nil (gq_in ?_))))))))
   refine gq_round (y, x % y) ?_ ?_ ⟨?_, ?_, trivial⟩ ?_ rfl
   ·
    have hlt := Nat.mod_lt x (Nat.pos_of_ne_zero hc6)
    exact ⟨by rw [gcd_step]; exact hg3, hn, by omega⟩
   ·
    dsimp only
    exact Nat.mod_lt _ (Nat.pos_of_ne_zero hc6)
   · exact rfl
   · exact rfl
   · exact rfl
  ·
   refine gc_exit (gx_then (gx_then (gx_here (gq_then (gc_seq (gc_region (mv rfl rfl (asg rfl rfl (gl_nil (gq_then (gc_ret (gq_body1 rfl rfl ?_))))))))))))
   have hy0 : y = 0 := Classical.not_not.1 hc6
   rw [hy0, Nat.gcd_zero_right] at hg3
   rw [hg3]

theorem rat_size {w0 : World} {h0 : Mem}  (hs : MLe h0 (mem w0)) {n : Int} (hn : -9223372036854775808 ≤ n) (hn' : n < 9223372036854775808) :
    Calls Tryz.prog 110 #[vI n] w0 (Ret w0 h0 (fun h r => Us .u32 h r (limbs n.natAbs))) := by
 refine calls_begin (n := 12) (e := [(0, vI n)]) (vs := [vI n]) Tryz.func110 rfl rfl (Nat.le_of_ble_eq_true rfl) hs ⟨rfl, trivial⟩ (gc_seq (gc_region (asg rfl rfl (gl_nil (gq_then (gc_seq (gc_seq (gc_region (mv rfl rfl (gv (ov_eql_i (q := -9223372036854775808) rfl rfl) rfl (gl_nil (gq_then ?_))))))))))))
 refine gc_cond rfl (fun hc4 => ?_) (fun hc4 => ?_)
 ·
  have hna : n.natAbs = 9223372036854775808 := by omega
  refine gc_seq (gc_region ?_)
  refine gl_call (vs := [vU .u64 9223372036854775808]) rfl rfl rfl rfl Tryz.call125 ⟨rfl, trivial⟩ (fun w hs => nat_of hs (by omega)) ?_
  intro v5 h1 hh1 hr5
  refine asg rfl rfl (gl_nil (gq_then (gc_ret (gr_then (gq_body1 rfl rfl ?_)))))
  rw [hna]
  exact hr5
 ·
  refine gc_skip (gq_then (gc_seq (gc_region (mv rfl rfl (mv rfl rfl (gv (ov_neg_i rfl (by omega) (by omega)) rfl (gv (ov_max_i rfl rfl) rfl (gv (ov_conv_iu (p := n.natAbs) (k' := .u64) (W := 18446744073709551616) Tryz.underlying2 Tryz.underlying90 rfl rfl (congrArg some (congrArg vI (by omega))) (by omega)) rfl ?_))))))))
  refine gl_call (vs := [_]) rfl rfl rfl rfl Tryz.call125 ⟨rfl, trivial⟩ (fun w hs => nat_of hs (by omega)) ?_
  intro v11 h1 hh1 hr11
  refine asg rfl rfl (gl_nil (gq_then (gc_ret (gq_body1 rfl rfl ?_))))
  exact hr11

end Go.Proofs.YtkdmphehabpcfaaGreat

namespace Go.Proofs.YtkdmphehabpcfaaGreat
open Bk Go
set_option linter.unusedVariables false
set_option linter.unusedSimpArgs false
set_option maxRecDepth 10000

theorem rat_limbs {w0 w : World} {h0 h : Mem}  {v u : Value} {xs : List Nat} {L : List Res} {lo n : Nat} (hu : u = subSl 1 v lo xs.length) (hlo : lo + 2 ≤ xs.length) (hn0 : n ≠ 0) (hn : n < 18446744073709551616) (hs : St w0 h0 (.us 78 .u32 v xs :: L) h w) :
    Calls Tryz.prog 129 #[u, vU .u64 n] w (RetOwn w0 h0 (fun g r K => g = h ∧ K = .us 78 .u32 v (xs.take lo ++ limbs n ++ xs.drop (lo + (limbs n).length)) :: L ∧ r = vI ↑(limbs n).length)) := by
 refine calls_begin_st (n := 17) (e := [(0, u), (1, vU .u64 n)]) (vs := [u, vU .u64 n]) Tryz.func129 rfl rfl (Nat.le_of_ble_eq_true rfl) hs ⟨rfl, rfl, trivial⟩ (gc_seq (gc_region (asg (v := vI (0)) rfl rfl (gl_nil (gq_then (gc_seq (gc_region (mv rfl rfl (mv rfl rfl (gv (ov_conv_uu (k := .u64) (k' := .u32) (W := 4294967296) Tryz.underlying90 Tryz.underlying78 rfl rfl rfl) rfl (gv (ov_index_osub (q := 0) (.head _) hu (0) Tryz.underlying27 Tryz.sizeOf78 rfl rfl rfl (by omega)) rfl (gl_store_ous0 Tryz.sizeOf78 rfl rfl (by omega) (gl_nil ?_)))))))))))))
 refine gq_then (gc_seq (gc_seq (gc_region (mv rfl rfl (gv (ov_shr_u (k := .u64) (s := 32) (yk := .u64) rfl rfl rfl (by simp only [ub]; omega)) rfl (gv (ov_eql_u (k := .u64) (q := 0) rfl rfl) rfl (gl_nil (gq_then ?_))))))))
 refine gc_cond rfl (fun hc11 => ?_) (fun hc11 => ?_)
 ·
  refine gc_keep (e' := []) trivial (gc_seq (gc_region (asg (v := vI (1)) rfl rfl (gl_nil (gq_then (gc_ret (gr_then (gq_body1_own rfl rfl ?_))))))))
  have hn1 : n < 4294967296 := by omega
  refine ⟨rfl, ?_, by rw [limbs_one hn0 hn1]; rfl⟩
  rw [Nat.mod_eq_of_lt hn1, Nat.add_zero, putL (by omega) hn0 hn1]
 ·
  refine gc_skip (gq_then (gc_seq (gc_region (mv rfl rfl (mv rfl rfl (gv (ov_shr_u (k := .u64) (s := 32) (yk := .u64) rfl rfl rfl (by simp only [ub]; omega)) rfl (gv (ov_conv_uu (k := .u64) (k' := .u32) (W := 4294967296) Tryz.underlying90 Tryz.underlying78 rfl rfl rfl) rfl (gv (ov_index_osub (q := 1) (.head _) (by rw [List.length_set]; exact hu) (1) Tryz.underlying27 Tryz.sizeOf78 rfl rfl rfl (by rw [List.length_set]; omega)) rfl (gl_store_ous0 Tryz.sizeOf78 rfl rfl (by simp; omega) (gl_nil (gq_keep (e' := []) trivial (gq_then (gc_seq ?_)))))))))))))
  refine gc_region (asg (v := vI (2)) rfl rfl (gl_nil (gq_then (gc_ret (gq_body1_own rfl rfl ?_)))))
  have hn1 : 4294967296 ≤ n := by omega
  have e1 : n / 2 ^ 32 % 4294967296 = n / 4294967296 := by omega
  refine ⟨rfl, ?_, ?_⟩
  · rw [e1, Nat.add_zero, putL2 hlo hn hn1]
  · rw [limbs_pos (by omega), limbs_one (t := n / 4294967296) (by omega) (by omega)]; rfl

theorem rat_short {w0 : World} {h0 : Mem}  (hs : MLe h0 (mem w0)) {s : Prop} {n d : Nat} (hn : n < 18446744073709551616) (hd : d < 18446744073709551616) (hd0 : d ≠ 0) :
    Calls Tryz.prog 111 #[vB s, vU .u64 n, vU .u64 d] w0 (Ret w0 h0 (fun h r => IsRat h r (mkRat (sg s n) d))) := by
 refine calls_begin (n := 50) (e := [(0, vB s), (1, vU .u64 n), (2, vU .u64 d)]) (vs := [vB s, vU .u64 n, vU .u64 d]) Tryz.func111 rfl rfl (Nat.le_of_ble_eq_true rfl) hs ⟨rfl, rfl, rfl, trivial⟩ (gc_seq (gc_region (gl_newop (new_alloc (cs := [vB ((0 : Rat).num < 0), .slice none 0 0, .slice none 0 0]) info29 rfl (by simp only [zb]; rfl)) rfl rfl rfl ?_)))
 intro v6 r6 hr6
 obtain ⟨b6, rfl, rfl⟩ := hr6
 refine gl_nil (gq_then (gc_seq (gc_seq (gc_region (mv rfl rfl (gv (ov_eql_u (k := .u64) (q := 0) rfl rfl) rfl (gl_nil (gq_then ?_))))))))
 refine gc_cond rfl (fun hc13 => ?_) (fun hc13 => ?_)
 ·
  refine gc_seq (gc_region (gv (ov_build_parts (ps' := []) (vs := [vB ((0 : Rat).num < 0), .slice none 0 0, .slice none 0 0]) Tryz.underlying29 info29 rfl (places29 Tryz.underlying29) trivial (by simp only [zb]; exact fill_nil)) rfl (gl_upd (A := []) (r' := .var b6 29 [vB ((0 : Rat).num < 0), .slice none 0 0, .slice none 0 0]) (upd_store_var (k := 0) (cs := [_, _, _]) (vs := [_, _, _]) rfl rfl rfl rfl size29 (Nat.le_of_ble_eq_true rfl)) rfl rfl rfl (gl_nil (gq_then (gc_ret (gr_then (gq_res (fun E S => run_res1 rfl (rv_agg (cs := [_, _, _]) (.head _) Tryz.underlying29 rfl size29 rfl) E S) ?_))))))))
  rw [hc13, mk_zero]
  exact IsRat.zero _
 ·
  have hn0 : n ≠ 0 := by omega
  refine gc_skip (gq_then (gc_seq (gc_region (mv rfl rfl (mv rfl rfl ?_)))))
  refine gl_call (vs := [_, _]) rfl rfl rfl rfl Tryz.call128 ⟨rfl, rfl, trivial⟩ (fun w hs => rat_divisor hs (by omega) (by omega)) ?_
  intro v17 h1 hh1 hr17
  subst hr17
  refine asg rfl rfl ?_
  have hg0 : 0 < Nat.gcd n d := Nat.gcd_pos_of_pos_left d (by omega)
  have hn1 : n / Nat.gcd n d ≠ 0 := Nat.ne_of_gt (Nat.div_pos (Nat.le_of_dvd (by omega) (Nat.gcd_dvd_left n d)) hg0)
  have hd1 : d / Nat.gcd n d ≠ 0 := Nat.ne_of_gt (Nat.div_pos (Nat.le_of_dvd (by omega) (Nat.gcd_dvd_right n d)) hg0)
  have hn2 := Nat.div_le_self n (Nat.gcd n d)
  have hd2 := Nat.div_le_self d (Nat.gcd n d)
  refine gl_nil (gq_then (gc_seq ?_))
  refine gc_draw 8 _ [] [(0, .q), (1, .q), (2, .q), (3, .q), (4, .q), (5, .q), (6, .q), (7, .q)] mixed (fun x hx => by cases hx) (by kernel_rfl) (fun x hx => by cases hx) (fun r hr => hr) (w_q rfl (fun h' L' hh hR => ov_move rfl) rfl (w_q rfl (fun h' L' hh hR => ov_move rfl) rfl (w_q rfl (fun h' L' hh hR => ov_quo_u (k := .u64) (W := 18446744073709551616) rfl rfl rfl rfl (by omega) (by omega)) rfl (w_q rfl (fun h' L' hh hR => ov_move rfl) rfl (w_q rfl (fun h' L' hh hR => ov_move rfl) rfl (w_q rfl (fun h' L' hh hR => ov_quo_u (k := .u64) (W := 18446744073709551616) rfl rfl rfl rfl (by omega) (by omega)) rfl (w_q rfl (fun h' L' hh hR => ov_assign rfl) rfl (w_q rfl (fun h' L' hh hR => ov_assign rfl) rfl ?_))))))))
  generalize hA : n / Nat.gcd n d = A at *
  generalize hB : d / Nat.gcd n d = B at *
  have hlA := limbs_len_word (n := A) (by omega)
  have hlB := limbs_len_word (n := B) (by omega)
  refine w_nil (gq_keep (e' := [(0, _), (6, _), (1, _), (2, _)]) ⟨rfl, rfl, rfl, rfl, trivial⟩ (gq_then (gc_seq (gc_region (gl_make_us (kd := .u32) (by' := 4) (q := 4) (q' := 4) 4 Tryz.underlying27 info78 rfl rfl rfl rfl rfl rfl rfl (by omega) (by omega) rfl ?_)))))
  intro v24
  refine asg rfl rfl (gl_nil (gq_then (gc_seq (gc_region (mv rfl rfl (mv rfl rfl ?_))))))
  refine gl_call_mut (vs := [_, _]) rfl rfl rfl rfl Tryz.call129 ⟨rfl, rfl, trivial⟩ (fun w hs => rat_limbs (hs.own_self (.head _)) (by decide) hn1 (by omega) hs) ?_
  intro v27 g27 L27 hr27
  obtain ⟨e1, e2, hr27⟩ := hr27
  rw [e1, e2]
  clear e1 e2 g27 L27
  subst hr27
  rw [show List.take 0 (List.replicate 4 0) ++ limbs A ++ List.drop (0 + (limbs A).length) (List.replicate 4 0) = limbs A ++ List.replicate (4 - (limbs A).length) 0 from by rw [List.take_zero, List.nil_append, Nat.zero_add, List.drop_replicate]]
  have hlen4 : (limbs A ++ List.replicate (4 - (limbs A).length) 0).length = 4 := by simp; omega
  refine asg rfl rfl (gl_nil (gq_then (gc_seq (gc_region (mv rfl rfl (mv rfl rfl (mv rfl rfl (mv rfl rfl ?_))))))))
  refine gl_shape (.head _) (fun ad cap hsh hcap => ?_)
  have eq1 : subSl3 1 v24 0 (limbs A).length (limbs A).length = .slice (if (limbs A).length = 0 then ad else ad.map (·.add (0 * 1))) ((limbs A).length - 0) ((limbs A).length - 0) := by rw [hsh]; rfl
  refine gv (ov_slice_own30 (.head _) _ _ Tryz.underlying27 Tryz.sizeOf78 rfl rfl rfl rfl rfl (by omega) (by omega)) rfl (gv (ov_build_parts (ps' := [(0, _), (1, _)]) (vs := [vB s, subSl3 1 v24 0 _ _, .slice none 0 0]) Tryz.underlying29 info29 rfl (places29 Tryz.underlying29) ⟨rfl, rfl, rfl, rfl, trivial⟩ (fill_one (A := []) (B := [_]) (C := [_, _]) (cs := [_]) (off := 0) (size := 1) rfl rfl rfl rfl rfl (fill_one (A := [_]) (B := [_]) (C := [_]) (cs := [_]) (off := 1) (size := 1) rfl rfl rfl rfl (by rw [eq1]; rfl) fill_nil))) rfl (gl_newop (new_alloc (cs := [vB ((0 : Rat).num < 0), .slice none 0 0, .slice none 0 0]) info29 rfl (by simp only [zb]; rfl)) rfl rfl rfl ?_))
  intro v10 r10 hr10
  obtain ⟨b10, rfl, rfl⟩ := hr10
  refine gl_upd (A := []) (r' := .var b10 29 [vB s, subSl3 1 v24 0 _ _, .slice none 0 0]) (upd_store_var (k := 0) (cs := [_, _, _]) (vs := [vB s, subSl3 1 v24 0 _ _, .slice none 0 0]) rfl rfl rfl (by rw [eq1]; rfl) size29 (Nat.le_of_ble_eq_true rfl)) rfl rfl rfl (gl_nil (gq_keep (e' := [(6, _), (2, _), (8, _), (9, _), (10, _)]) ⟨rfl, rfl, rfl, rfl, rfl, trivial⟩ (gq_then (gc_seq (gc_seq (gc_region (mv rfl rfl (gv (ov_gtr_u (k := .u64) (q := 1) rfl rfl) rfl (gl_nil (gq_then ?_))))))))))
  refine gc_cond rfl (fun hc35 => ?_) (fun hc35 => ?_)
  ·
   refine gc_seq (gc_region (mv rfl rfl (mv rfl rfl (mv rfl rfl (gv (ov_slice_own_l (.tail _ (.head _)) _ Tryz.underlying27 Tryz.sizeOf78 rfl rfl rfl (by omega)) rfl (mv rfl rfl (gl_front (A := [_]) ?_)))))))
   refine gl_call_mut (vs := [_, _]) rfl rfl rfl rfl Tryz.call129 ⟨rfl, rfl, trivial⟩ (fun w hs => rat_limbs (lo := (limbs A).length) (by rfl) (by omega) hd1 (by omega) hs) ?_
   intro v41 g41 L41 hr41
   obtain ⟨e1, e2, hr41⟩ := hr41
   rw [e1, e2]
   clear e1 e2 g41 L41
   subst hr41
   rw [show List.take (limbs A).length (limbs A ++ List.replicate (4 - (limbs A).length) 0) ++ limbs B ++ List.drop ((limbs A).length + (limbs B).length) (limbs A ++ List.replicate (4 - (limbs A).length) 0) = limbs A ++ limbs B ++ List.replicate (4 - (limbs A).length - (limbs B).length) 0 from by simp]
   have hlen5 : (limbs A ++ limbs B ++ List.replicate (4 - (limbs A).length - (limbs B).length) 0).length = 4 := by simp; omega
   refine gv (ov_add_i rfl rfl (by omega) (by omega)) rfl (asg rfl rfl (gl_nil (gq_keep (e' := [(6, _), (8, _), (9, _), (10, _), (11, _)]) ⟨rfl, rfl, rfl, rfl, rfl, trivial⟩ (gq_then (gc_region (mv rfl rfl (mv rfl rfl (mv rfl rfl (mv rfl rfl ?_)))))))))
   have eq2 : subSl3 1 v24 (limbs A).length ((limbs A).length + (limbs B).length) ((limbs A).length + (limbs B).length) = .slice (if (limbs A).length + (limbs B).length = (limbs A).length then ad else ad.map (·.add ((limbs A).length * 1))) ((limbs A).length + (limbs B).length - (limbs A).length) ((limbs A).length + (limbs B).length - (limbs A).length) := by rw [hsh]; rfl
   refine gv (ov_slice_own3 (.head _) ((limbs A).length) ((limbs A).length + (limbs B).length) ((limbs A).length + (limbs B).length) Tryz.underlying27 Tryz.sizeOf78 rfl rfl rfl rfl (by omega) (by omega) (by omega) (by omega) (by omega) (by omega)) rfl (gv (ov_field_addr Tryz.underlying29 rfl Tryz.sizeOf27 rfl) rfl (gl_upd (A := [_]) (r' := .var b10 29 [vB s, subSl3 1 v24 0 _ _, subSl3 1 v24 ((limbs A).length) ((limbs A).length + (limbs B).length) ((limbs A).length + (limbs B).length)]) (upd_store_var (k := 2) (cs := [_, _, _]) (vs := [subSl3 1 v24 ((limbs A).length) ((limbs A).length + (limbs B).length) ((limbs A).length + (limbs B).length)]) rfl rfl (by rw [eq2]; rfl) (by rw [eq2]; rfl) size27 (Nat.le_of_ble_eq_true rfl)) rfl rfl rfl (gl_nil (gq_then (gc_seq (gc_region (gl_freeze_us0 (by first | exact fit_append (fit_append (fit_limbs A) (fit_limbs B)) (fit_replicate _) | exact fit_append (fit_limbs A) (fit_replicate _)) ?_)))))))
   intro h2 hh2 hz
   refine gv (ov_load_agg (vs := [_, _, _]) (.head _) Tryz.underlying29 rfl size29 rfl rfl) rfl (gl_upd (A := [_]) (r' := .var b6 29 [vB s, subSl3 1 v24 0 _ _, subSl3 1 v24 ((limbs A).length) ((limbs A).length + (limbs B).length) ((limbs A).length + (limbs B).length)]) (upd_store_var (k := 0) (cs := [_, _, _]) (vs := [vB s, subSl3 1 v24 0 _ _, subSl3 1 v24 ((limbs A).length) ((limbs A).length + (limbs B).length) ((limbs A).length + (limbs B).length)]) rfl rfl rfl (by rw [eq1, eq2]; rfl) size29 (Nat.le_of_ble_eq_true rfl)) rfl rfl rfl (gl_nil (gq_keep (e' := [(6, _)]) ⟨rfl, trivial⟩ (gq_then (gc_ret (gq_res (fun E S => run_res1 rfl (rv_agg (cs := [_, _, _]) (.tail _ (.head _)) Tryz.underlying29 rfl size29 rfl) E S) ?_))))))
   have z1 := hz.sub3 (lo := 0) (hi := (limbs A).length) (mx := (limbs A).length) (by omega) (by omega) (by omega)
   have z2 := hz.sub3 (lo := (limbs A).length) (hi := (limbs A).length + (limbs B).length) (mx := (limbs A).length + (limbs B).length) (by omega) (by omega) (by omega)
   refine IsRat.make hn0 hd0 ?_ ?_
   · rw [hA]; simpa using z1
   · rw [hB]; rw [denN_ne (by omega)]; simpa using z2
  ·
   refine gc_skip (gq_then (gc_seq (gc_region (gl_freeze_us1 (by first | exact fit_append (fit_append (fit_limbs A) (fit_limbs B)) (fit_replicate _) | exact fit_append (fit_limbs A) (fit_replicate _)) ?_))))
   intro h2 hh2 hz
   refine gv (ov_load_agg (vs := [_, _, _]) (.head _) Tryz.underlying29 rfl size29 rfl rfl) rfl (gl_upd (A := [_]) (r' := .var b6 29 [vB s, subSl3 1 v24 0 _ _, .slice none 0 0]) (upd_store_var (k := 0) (cs := [_, _, _]) (vs := [vB s, subSl3 1 v24 0 _ _, .slice none 0 0]) rfl rfl rfl (by rw [eq1]; rfl) size29 (Nat.le_of_ble_eq_true rfl)) rfl rfl rfl (gl_nil (gq_then (gc_ret (gq_res (fun E S => run_res1 rfl (rv_agg (cs := [_, _, _]) (.tail _ (.head _)) Tryz.underlying29 rfl size29 rfl) E S) ?_)))))
   have z1 := hz.sub3 (lo := 0) (hi := (limbs A).length) (mx := (limbs A).length) (by omega) (by omega) (by omega)
   refine IsRat.make hn0 hd0 ?_ ?_
   · rw [hA]; simpa using z1
   · rw [hB]; rw [show B = 1 by omega, denN_one, limbs_zero]; exact Us.nil _ _

theorem rat_parts {w0 : World} {h0 : Mem}  (hs : MLe h0 (mem w0)) {qa : Rat} {vna vda : Value} (hna : Us .u32 h0 vna (limbs qa.num.natAbs)) (hda : Us .u32 h0 vda (limbs (denN qa.den))) :
    Calls Tryz.prog 100 #[.agg #[vB (qa.num < 0), vna, vda]] w0 (Ret w0 h0 (fun _ r => r = .tuple #[vU .u64 (pN qa), vU .u64 (pD qa), vB (smallQ qa)])) := by
 refine calls_begin (n := 30) (e := [(0, .agg #[vB (qa.num < 0), vna, vda])]) (vs := [.agg #[vB (qa.num < 0), vna, vda]]) Tryz.func100 rfl rfl (Nat.le_of_ble_eq_true rfl) hs ⟨rfl, trivial⟩ (gc_seq (gc_region (gl_newop (new_box (cs := [_, _, _]) rfl rfl) rfl rfl rfl ?_)))
 intro v1 r1 hr1
 obtain ⟨b1, rfl, rfl⟩ := hr1
 refine asg (v := vU .u64 0) rfl rfl (asg (v := vU .u64 0) rfl rfl (asg rfl rfl (gl_nil (gq_then (gc_seq (gc_seq (gc_region (gv (ov_field_addr Tryz.underlying29 rfl Tryz.sizeOf27 rfl) rfl (gv (ov_load_var (.head _) Tryz.isAgg27 rfl rfl) rfl (gv (ov_len_us Tryz.underlying27 rfl hna) rfl (gv (ov_gtr_i (q := 1) rfl rfl) rfl ?_)))))))))))
 refine gl_cut (ι := Unit) 6 (fun _ => True) (fun _ => [(14, vB (((1 : Int) < (↑(limbs qa.num.natAbs).length : Int)) ∨ ((1 : Int) < (↑(limbs (denN qa.den)).length : Int)))), (1, vP b1 0)]) (fun _ => [.var b1 29 [vB (qa.num < 0), vna, vda]]) (fun _ => h0) ?_ ?_
 ·
  refine gl_cases ((1 : Int) < (↑(limbs qa.num.natAbs).length : Int)) (fun hg => ?_) (fun hg => ?_)
  ·
   refine gl_val (ov_move (v := .bool true) (congrArg some (vB_true hg))) rfl rfl rfl (gl_off rfl rfl rfl rfl rfl rfl (gl_off rfl rfl rfl rfl rfl rfl (gl_off rfl rfl rfl rfl rfl rfl (gl_off rfl rfl rfl rfl rfl rfl (gv (ov_pick_t rfl rfl) rfl (gl_nil ?_))))))
   refine gq_cut () trivial ⟨?_, rfl, trivial⟩ rfl rfl
   exact congrArg some (vB_or_t hg)
  ·
   refine gl_val (ov_move (v := .bool false) (congrArg some (vB_false hg))) rfl rfl rfl (gl_on rfl rfl rfl (gv (ov_field_addr Tryz.underlying29 rfl Tryz.sizeOf27 rfl) rfl (gl_on rfl rfl rfl (gv (ov_load_var (.head _) Tryz.isAgg27 rfl rfl) rfl (gl_on rfl rfl rfl (gv (ov_len_us Tryz.underlying27 rfl hda) rfl (gl_on rfl rfl rfl (gv (ov_gtr_i (q := 1) rfl rfl) rfl (gv (ov_pick_f rfl rfl) rfl (gl_nil ?_))))))))))
   refine gq_cut () trivial ⟨?_, rfl, trivial⟩ rfl rfl
   exact congrArg some (vB_or_f hg)
 ·
  intro _ _
  show GL _ _ _ _ _ _ _ [(14, vB (((1 : Int) < (↑(limbs qa.num.natAbs).length : Int)) ∨ ((1 : Int) < (↑(limbs (denN qa.den)).length : Int)))), (1, vP b1 0)] [.var b1 29 [vB (qa.num < 0), vna, vda]] h0
  refine gl_nil (gq_then ?_)
  refine gc_cond rfl (fun hc14 => ?_) (fun hc14 => ?_)
  ·
   have hns : ¬ smallQ qa := smallQ_not hc14
   refine gc_seq (gc_region (asg (v := vU .u64 0) rfl rfl (asg (v := vU .u64 0) rfl rfl (asg rfl rfl (gl_nil (gq_then (gc_ret (gr_then (gq_body3 rfl rfl rfl rfl ?_)))))))))
   rw [pN_f hns, pD_f hns, vB_false hns]
  ·
   have hsm : smallQ qa := smallQ_of hc14
   have hsn := smallQ_num hsm
   have hsd := smallQ_den hsm
   refine gc_skip (gq_then (gc_seq (gc_region (asg (v := vU .u64 1) rfl rfl (gl_nil (gq_then (gc_seq (gc_seq (gc_region (gv (ov_field_addr Tryz.underlying29 rfl Tryz.sizeOf27 rfl) rfl (gv (ov_load_var (.head _) Tryz.isAgg27 rfl rfl) rfl (gv (ov_len_us Tryz.underlying27 rfl hda) rfl (gv (ov_eql_i (q := 1) rfl rfl) rfl ?_)))))))))))))
   refine gl_nil (gq_then ?_)
   refine gc_cond rfl (fun hc18 => ?_) (fun hc18 => ?_)
   ·
    have hd1 : (limbs (denN qa.den)).getD 0 0 = qa.den := denL_one hc18
    refine gc_region (gv (ov_field_addr Tryz.underlying29 rfl Tryz.sizeOf27 rfl) rfl (gv (ov_load_var (.head _) Tryz.isAgg27 rfl rfl) rfl (gv (ov_index_us (q := 0) (0) Tryz.underlying27 Tryz.sizeOf78 rfl rfl hda rfl (by omega)) rfl (gv (ov_load_us Tryz.isAgg78 rfl hda (by omega)) rfl ?_))))
    rw [hd1]
    refine gv (ov_conv_u (k := .u32) (k' := .u64) (W := 18446744073709551616) Tryz.underlying78 Tryz.underlying90 rfl rfl rfl (by omega)) rfl (asg rfl rfl (gl_nil (gq_keep (e' := [(1, _), (3, _)]) ⟨rfl, rfl, trivial⟩ (gq_then (gc_seq (gc_region (gv (ov_field_addr Tryz.underlying29 rfl Tryz.sizeOf27 rfl) rfl (gv (ov_load_var (.head _) Tryz.isAgg27 rfl rfl) rfl ?_))))))))
    refine gl_call (vs := [_]) rfl rfl rfl rfl Tryz.call122 ⟨rfl, trivial⟩ (fun w hs => rat_word hs hna (by omega)) ?_
    intro v26 h1 hh1 hr26
    try simp only [val_limbs] at hr26
    subst hr26
    refine mv rfl rfl (mv rfl rfl (gv (OpV.tr (by have := qa.den_nz; omega) (ov_neq_u (k := .u64) (q := 0) rfl rfl)) rfl (asg rfl rfl (asg rfl rfl (asg rfl rfl (gl_nil (gq_then (gc_ret (gq_body3 rfl rfl rfl rfl ?_)))))))))
    rw [pN_t hsm, pD_t hsm, vB_true hsm]
   ·
    have hd1 : qa.den = 1 := denL_nil hc18 hsm
    refine gc_skip (gq_then (gc_seq (gc_region (gv (ov_field_addr Tryz.underlying29 rfl Tryz.sizeOf27 rfl) rfl (gv (ov_load_var (.head _) Tryz.isAgg27 rfl rfl) rfl ?_)))))
    refine gl_call (vs := [_]) rfl rfl rfl rfl Tryz.call122 ⟨rfl, trivial⟩ (fun w hs => rat_word hs hna (by omega)) ?_
    intro v26 h1 hh1 hr26
    try simp only [val_limbs] at hr26
    subst hr26
    refine mv rfl rfl (mv rfl rfl (gv (OpV.tr (by have := qa.den_nz; omega) (ov_neq_u (k := .u64) (q := 0) rfl rfl)) rfl (asg rfl rfl (asg rfl rfl (asg rfl rfl (gl_nil (gq_keep (e' := [(2, _), (3, _), (4, _)]) ⟨rfl, rfl, rfl, trivial⟩ (gq_then (gc_ret (gq_body3 rfl rfl rfl rfl ?_))))))))))
    rw [pN_t hsm, pD_t hsm, vB_true hsm, hd1]

theorem rat_reduce {w0 : World} {h0 : Mem}  (hs : MLe h0 (mem w0)) {s : Prop} {vn vd : Value} {xs ys : List Nat} (hn : Us .u32 h0 vn xs) (hd : Us .u32 h0 vd ys) (hl : xs.length ≤ 1000000000000) (hl' : ys.length ≤ 1000000000000) :
    Calls Tryz.prog 109 #[vB s, vn, vd] w0 (Ret w0 h0 (fun h r => IsRat h r (mkRat (sg s (val xs)) (val ys)))) := by
 have hbx := bitsN_eq_zero (n := val xs)
 have hby := bitsN_eq_zero (n := val ys)
 have hlx := limbs_len_le hn.lt
 have hly := limbs_len_le hd.lt
 refine calls_begin (n := 68) (e := [(0, vB s), (1, vn), (2, vd)]) (vs := [vB s, vn, vd]) Tryz.func109 rfl rfl (Nat.le_of_ble_eq_true rfl) hs ⟨rfl, rfl, rfl, trivial⟩ (gc_seq (gc_region (gl_newop (new_alloc (cs := [vB ((0 : Rat).num < 0), .slice none 0 0, .slice none 0 0]) info29 rfl (by simp only [zb]; rfl)) rfl rfl rfl ?_)))
 intro v6 r6 hr6
 obtain ⟨b6, rfl, rfl⟩ := hr6
 refine gl_nil (gq_then (gc_seq (gc_seq (gc_region (mv rfl rfl ?_)))))
 refine gl_call (vs := [_]) rfl rfl rfl rfl Tryz.call103 ⟨rfl, trivial⟩ (fun w hs => nat_bits hs hn (by omega)) ?_
 intro v9 h1 hh1 hr9
 try simp only [val_limbs] at hr9
 subst hr9
 refine gv (ov_eql_i (q := 0) rfl rfl) rfl ?_
 refine gl_cut (ι := Mem) 5 (fun m_ => MLe h1 m_) (fun _ => [(15, vB (((↑(bitsN (val (xs))) : Int) = (0 : Int)) ∨ ((↑(bitsN (val (ys))) : Int) = (0 : Int)))), (0, vB s), (1, vn), (2, vd), (6, vP b6 0)]) (fun _ => [.var b6 29 [vB ((0 : Rat).num < 0), .slice none 0 0, .slice none 0 0]]) (fun m_ => m_) ?_ ?_
 ·
  refine gl_cases ((↑(bitsN (val (xs))) : Int) = (0 : Int)) (fun hg => ?_) (fun hg => ?_)
  ·
   refine gl_val (ov_move (v := .bool true) (congrArg some (vB_true hg))) rfl rfl rfl (gl_off rfl rfl rfl rfl rfl rfl (gl_off rfl rfl rfl rfl rfl rfl (gl_off rfl rfl rfl rfl rfl rfl (gv (ov_pick_t rfl rfl) rfl (gl_nil ?_)))))
   refine gq_cut h1 (MLe.refl _) ⟨?_, rfl, rfl, rfl, rfl, trivial⟩ rfl rfl
   exact congrArg some (vB_or_t hg)
  ·
   refine gl_val (ov_move (v := .bool false) (congrArg some (vB_false hg))) rfl rfl rfl (gl_on rfl rfl rfl (mv rfl rfl (gl_on rfl rfl rfl ?_)))
   replace hd := hd.mono hh1
   refine gl_call (vs := [_]) rfl rfl rfl rfl Tryz.call103 ⟨rfl, trivial⟩ (fun w hs => nat_bits hs hd (by omega)) ?_
   intro v13 h2 hh2 hr13
   try simp only [val_limbs] at hr13
   subst hr13
   refine gl_on rfl rfl rfl (gv (ov_eql_i (q := 0) rfl rfl) rfl (gv (ov_pick_f rfl rfl) rfl (gl_nil ?_)))
   refine gq_cut h2 hh2 ⟨?_, rfl, rfl, rfl, rfl, trivial⟩ rfl rfl
   exact congrArg some (vB_or_f hg)
 ·
  intro mg1_3 hmmg1_3
  show GL _ _ _ _ _ _ _ [(15, vB (((↑(bitsN (val (xs))) : Int) = (0 : Int)) ∨ ((↑(bitsN (val (ys))) : Int) = (0 : Int)))), (0, vB s), (1, vn), (2, vd), (6, vP b6 0)] [.var b6 29 [vB ((0 : Rat).num < 0), .slice none 0 0, .slice none 0 0]] mg1_3
  refine gl_nil (gq_then ?_)
  refine gc_cond rfl (fun hc15 => ?_) (fun hc15 => ?_)
  ·
   refine gc_seq (gc_region (gv (ov_build_parts (ps' := []) (vs := [vB ((0 : Rat).num < 0), .slice none 0 0, .slice none 0 0]) Tryz.underlying29 info29 rfl (places29 Tryz.underlying29) trivial (by simp only [zb]; exact fill_nil)) rfl (gl_upd (A := []) (r' := .var b6 29 [vB ((0 : Rat).num < 0), .slice none 0 0, .slice none 0 0]) (upd_store_var (k := 0) (cs := [_, _, _]) (vs := [_, _, _]) rfl rfl rfl rfl size29 (Nat.le_of_ble_eq_true rfl)) rfl rfl rfl (gl_nil (gq_then (gc_ret (gr_then (gq_res (fun E S => run_res1 rfl (rv_agg (cs := [_, _, _]) (.head _) Tryz.underlying29 rfl size29 rfl) E S) ?_))))))))
   rcases hc15 with h | h
   · rw [show val xs = 0 by omega, mk_zero]; exact IsRat.zero _
   · rw [show val ys = 0 by omega, mk_zero']; exact IsRat.zero _
  ·
   have hn0 : val xs ≠ 0 := fun h => hc15 (.inl (by omega))
   have hd0 : val ys ≠ 0 := fun h => hc15 (.inr (by omega))
   refine gc_skip (gq_then (gc_seq (gc_seq (gc_region (mv rfl rfl ?_)))))
   replace hn := hn.mono (hh1.trans hmmg1_3)
   refine gv (ov_len_us Tryz.underlying27 rfl hn) rfl (gv (ov_leq_i (q := 2) rfl rfl) rfl ?_)
   refine gl_cut (ι := Unit) 5 (fun _ => True) (fun _ => [(24, vB (((↑(xs).length : Int) ≤ (2 : Int)) ∧ ((↑(ys).length : Int) ≤ (2 : Int)))), (0, vB s), (1, vn), (2, vd), (6, vP b6 0)]) (fun _ => [.var b6 29 [vB ((0 : Rat).num < 0), .slice none 0 0, .slice none 0 0]]) (fun _ => mg1_3) ?_ ?_
   ·
    refine gl_cases ((↑(xs).length : Int) ≤ (2 : Int)) (fun hg => ?_) (fun hg => ?_)
    ·
     refine gl_val (ov_move (v := .bool true) (congrArg some (vB_true hg))) rfl rfl rfl (gl_on rfl rfl rfl (mv rfl rfl (gl_on rfl rfl rfl ?_)))
     replace hd := hd.mono (hh1.trans hmmg1_3)
     refine gv (ov_len_us Tryz.underlying27 rfl hd) rfl (gl_on rfl rfl rfl (gv (ov_leq_i (q := 2) rfl rfl) rfl (gv (ov_pick_t rfl rfl) rfl (gl_nil ?_))))
     refine gq_cut () trivial ⟨?_, rfl, rfl, rfl, rfl, trivial⟩ rfl rfl
     exact congrArg some (vB_and_t hg)
    ·
     refine gl_val (ov_move (v := .bool false) (congrArg some (vB_false hg))) rfl rfl rfl (gl_off rfl rfl rfl rfl rfl rfl (gl_off rfl rfl rfl rfl rfl rfl (gl_off rfl rfl rfl rfl rfl rfl (gv (ov_pick_f rfl rfl) rfl (gl_nil ?_)))))
     refine gq_cut () trivial ⟨?_, rfl, rfl, rfl, rfl, trivial⟩ rfl rfl
     exact congrArg some (vB_and_f hg)
   ·
    intro _ _
    show GL _ _ _ _ _ _ _ [(24, vB (((↑(xs).length : Int) ≤ (2 : Int)) ∧ ((↑(ys).length : Int) ≤ (2 : Int)))), (0, vB s), (1, vn), (2, vd), (6, vP b6 0)] [.var b6 29 [vB ((0 : Rat).num < 0), .slice none 0 0, .slice none 0 0]] mg1_3
    refine gl_nil (gq_then ?_)
    refine gc_cond rfl (fun hc24 => ?_) (fun hc24 => ?_)
    ·
     have hnw := lt_word (n := val xs) (by omega)
     have hdw := lt_word (n := val ys) (by omega)
     refine gc_seq (gc_region (mv rfl rfl (mv rfl rfl ?_)))
     refine gl_call (vs := [_]) rfl rfl rfl rfl Tryz.call122 ⟨rfl, trivial⟩ (fun w hs => rat_word hs hn (by omega)) ?_
     intro v27 h2 hh2 hr27
     try simp only [val_limbs] at hr27
     subst hr27
     refine mv rfl rfl ?_
     replace hd := hd.mono ((hh1.trans hmmg1_3).trans hh2)
     refine gl_call (vs := [_]) rfl rfl rfl rfl Tryz.call122 ⟨rfl, trivial⟩ (fun w hs => rat_word hs hd (by omega)) ?_
     intro v29 h3 hh3 hr29
     try simp only [val_limbs] at hr29
     subst hr29
     refine gl_call (vs := [_, _, _]) rfl rfl rfl rfl Tryz.call111 ⟨rfl, rfl, rfl, trivial⟩ (fun w hs => rat_short hs (by omega) (by omega) (by omega)) ?_
     intro v30 h4 hh4 hr30
     obtain ⟨vn30, vd30, rfl, hn30, hd30⟩ := hr30
     refine gl_upd (A := []) (r' := .var b6 29 [vB ((mkRat (sg (s) (val (xs))) (val (ys))).num < 0), vn30, vd30]) (upd_store_var (k := 0) (cs := [_, _, _]) (vs := [_, _, _]) rfl rfl rfl (ocr rfl (ocu hn30 (ocu hd30 oc0))) size29 (Nat.le_of_ble_eq_true rfl)) rfl rfl rfl (gl_nil (gq_keep (e' := [(6, _)]) ⟨rfl, trivial⟩ (gq_then (gc_ret (gr_then (gq_res (fun E S => run_res1 rfl (rv_agg (cs := [_, _, _]) (.head _) Tryz.underlying29 rfl size29 rfl) E S) ?_))))))
     exact ⟨_, _, rfl, hn30, hd30⟩
    ·
     refine gc_skip (gq_then (gc_seq (gc_seq (gc_region (mv rfl rfl (mv rfl rfl ?_))))))
     replace hd := hd.mono (hh1.trans hmmg1_3)
     refine gl_call (vs := [_, _]) rfl rfl rfl rfl Tryz.call105 ⟨rfl, rfl, trivial⟩ (fun w hs => nat_gcd hs hn hd (by omega) (by omega)) ?_
     intro v33 h2 hh2 hr33
     try simp only [val_limbs] at hr33
     have hlm33 := limbs_len_gcd (val (xs)) (val (ys))
     have hg0 : Nat.gcd (val xs) (val ys) ≠ 0 := Nat.ne_of_gt (Nat.gcd_pos_of_pos_left _ (by omega))
     have hgl := limbs_len_mono (Nat.le_of_dvd (by omega) (Nat.gcd_dvd_left (val xs) (val ys)))
     refine asg rfl rfl (gl_nil (gq_then (gc_seq (gc_region (mv rfl rfl ?_)))))
     refine gl_call (vs := [_]) rfl rfl rfl rfl Tryz.call103 ⟨rfl, trivial⟩ (fun w hs => nat_bits hs hr33 (by omega)) ?_
     intro v35 h3 hh3 hr35
     try simp only [val_limbs] at hr35
     subst hr35
     refine gv (ov_gtr_i (q := 1) rfl rfl) rfl (gl_nil (gq_then ?_))
     refine gc_cond rfl (fun hc36 => ?_) (fun hc36 => ?_)
     ·
      refine gc_seq (gc_region (mv rfl rfl (mv rfl rfl ?_)))
      replace hn := hn.mono (hh2.trans hh3)
      replace hr33 := hr33.mono hh3
      refine gl_call (vs := [_, _]) rfl rfl rfl rfl Tryz.call115 ⟨rfl, rfl, trivial⟩ (fun w hs => nat_div hs hn hr33 (by omega) (by omega)) ?_
      intro v40 h4 hh4 hr40
      obtain ⟨q40, r40, rfl, hq40, hr40⟩ := hr40
      try simp only [val_limbs] at hq40 hr40 ⊢
      have hlm40 := limbs_len_mono (Nat.div_le_self (val (xs)) (((Nat.gcd (val (xs)) (val (ys))))))
      have hl7 := limbs_len_mono (Nat.div_le_self (val xs) (Nat.gcd (val xs) (val ys)))
      refine mv rfl rfl (gv (ov_extract (vs := [_, _, _]) rfl rfl) rfl (gv (ov_extract (vs := [_, _, _]) rfl rfl) rfl (gv (ov_extract (vs := [_, _, _]) rfl rfl) rfl (asg rfl rfl (gl_nil (gq_keep (e' := [(0, _), (2, _), (6, _), (7, _), (1, _)]) ⟨rfl, rfl, rfl, rfl, rfl, trivial⟩ (gq_then (gc_region (mv rfl rfl (mv rfl rfl ?_))))))))))
      replace hd := hd.mono ((hh2.trans hh3).trans hh4)
      replace hr33 := hr33.mono hh4
      refine gl_call (vs := [_, _]) rfl rfl rfl rfl Tryz.call115 ⟨rfl, rfl, trivial⟩ (fun w hs => nat_div hs hd hr33 (by omega) (by omega)) ?_
      intro v47 h5 hh5 hr47
      obtain ⟨q47, r47, rfl, hq47, hr47⟩ := hr47
      try simp only [val_limbs] at hq47 hr47 ⊢
      have hlm47 := limbs_len_mono (Nat.div_le_self (val (ys)) (((Nat.gcd (val (xs)) (val (ys))))))
      have hl8 := limbs_len_mono (Nat.div_le_self (val ys) (Nat.gcd (val xs) (val ys)))
      refine mv rfl rfl (gv (ov_extract (vs := [_, _, _]) rfl rfl) rfl (gv (ov_extract (vs := [_, _, _]) rfl rfl) rfl (gv (ov_extract (vs := [_, _, _]) rfl rfl) rfl (asg rfl rfl (gl_nil (gq_then (gc_seq (gc_region (mv rfl rfl ?_)))))))))
      replace hq40 := hq40.mono hh5
      refine gl_call (vs := [_, _]) rfl rfl rfl rfl Tryz.call87 ⟨rfl, rfl, trivial⟩ (fun w hs => nat_add hs hq40 (Us.nil _ _) (by first | omega | (simp only [List.length_nil]; omega)) (by first | omega | (simp only [List.length_nil]; omega))) ?_
      intro v52 h6 hh6 hr52
      try simp only [val_limbs] at hr52
      have hlm52 := limbs_len_add ((((val (xs)) / (((Nat.gcd (val (xs)) (val (ys)))))))) (val ([]))
      refine mv rfl rfl ?_
      replace hq47 := hq47.mono hh6
      refine gl_call (vs := [_, _]) rfl rfl rfl rfl Tryz.call87 ⟨rfl, rfl, trivial⟩ (fun w hs => nat_add hs hq47 (Us.nil _ _) (by first | omega | (simp only [List.length_nil]; omega)) (by first | omega | (simp only [List.length_nil]; omega))) ?_
      intro v54 h7 hh7 hr54
      try simp only [val_limbs] at hr54
      have hlm54 := limbs_len_add ((((val (ys)) / (((Nat.gcd (val (xs)) (val (ys)))))))) (val ([]))
      refine asg rfl rfl (asg rfl rfl (gl_nil (gq_keep (e' := [(0, _), (6, _), (1, _), (2, _)]) ⟨rfl, rfl, rfl, rfl, trivial⟩ (gq_then (gc_seq (gc_seq (gc_region (mv rfl rfl (gv (ov_len_us Tryz.underlying27 rfl hr54) rfl (gv (ov_eql_i (q := 1) rfl rfl) rfl ?_))))))))))
      refine gl_cut (ι := Unit) 6 (fun _ => True) (fun _ => [(63, vB (((↑(limbs (((((val (ys)) / (((Nat.gcd (val (xs)) (val (ys)))))))) + (val ([])))).length : Int) = (1 : Int)) ∧ (((limbs (((((val (ys)) / (((Nat.gcd (val (xs)) (val (ys)))))))) + (val ([])))).getD (0) 0) = (1 : Nat)))), (0, vB s), (6, vP b6 0), (1, v52), (2, v54)]) (fun _ => [.var b6 29 [vB ((0 : Rat).num < 0), .slice none 0 0, .slice none 0 0]]) (fun _ => h7) ?_ ?_
      ·
       refine gl_cases ((↑(limbs (((((val (ys)) / (((Nat.gcd (val (xs)) (val (ys)))))))) + (val ([])))).length : Int) = (1 : Int)) (fun hg => ?_) (fun hg => ?_)
       ·
        refine gl_val (ov_move (v := .bool true) (congrArg some (vB_true hg))) rfl rfl rfl (gl_on rfl rfl rfl (mv rfl rfl (gl_on rfl rfl rfl (gv (ov_index_us (q := 0) (0) Tryz.underlying27 Tryz.sizeOf78 rfl rfl hr54 rfl (by omega)) rfl (gl_on rfl rfl rfl (gv (ov_load_us Tryz.isAgg78 rfl hr54 (by omega)) rfl (gl_on rfl rfl rfl (gv (ov_eql_u (k := .u32) (q := 1) rfl rfl) rfl (gv (ov_pick_t rfl rfl) rfl (gl_nil ?_))))))))))
        refine gq_cut () trivial ⟨?_, rfl, rfl, rfl, rfl, trivial⟩ rfl rfl
        exact congrArg some (vB_and_t hg)
       ·
        refine gl_val (ov_move (v := .bool false) (congrArg some (vB_false hg))) rfl rfl rfl (gl_off rfl rfl rfl rfl rfl rfl (gl_off rfl rfl rfl rfl rfl rfl (gl_off rfl rfl rfl rfl rfl rfl (gl_off rfl rfl rfl rfl rfl rfl (gv (ov_pick_f rfl rfl) rfl (gl_nil ?_))))))
        refine gq_cut () trivial ⟨?_, rfl, rfl, rfl, rfl, trivial⟩ rfl rfl
        exact congrArg some (vB_and_f hg)
      ·
       intro _ _
       show GL _ _ _ _ _ _ _ [(63, vB (((↑(limbs (((((val (ys)) / (((Nat.gcd (val (xs)) (val (ys)))))))) + (val ([])))).length : Int) = (1 : Int)) ∧ (((limbs (((((val (ys)) / (((Nat.gcd (val (xs)) (val (ys)))))))) + (val ([])))).getD (0) 0) = (1 : Nat)))), (0, vB s), (6, vP b6 0), (1, v52), (2, v54)] [.var b6 29 [vB ((0 : Rat).num < 0), .slice none 0 0, .slice none 0 0]] h7
       refine gl_nil (gq_then ?_)
       refine gc_cond rfl (fun hc63 => ?_) (fun hc63 => ?_)
       ·
        refine gc_region (asg rfl rfl (gl_nil (gq_then (gc_seq (gc_region (mv rfl rfl (mv rfl rfl (mv rfl rfl ?_))))))))
        replace hr52 := hr52.mono hh7
        refine gv (ov_build_parts (ps' := [(0, _), (1, _), (2, _)]) (vs := [vB s, v52, .slice none 0 0]) Tryz.underlying29 info29 rfl (places29 Tryz.underlying29) ⟨rfl, rfl, rfl, rfl, rfl, rfl, trivial⟩ (fill_one (A := []) (B := [_]) (C := [_, _]) (cs := [_]) (off := 0) (size := 1) rfl rfl rfl rfl rfl (fill_one (A := [_]) (B := [_]) (C := [_]) (cs := [_]) (off := 1) (size := 1) rfl rfl rfl rfl hr52.cells (fill_one (A := [_, _]) (B := [_]) (C := []) (cs := [_]) (off := 2) (size := 1) rfl rfl rfl rfl rfl fill_nil)))) rfl (gl_upd (A := []) (r' := .var b6 29 [vB s, v52, .slice none 0 0]) (upd_store_var (k := 0) (cs := [_, _, _]) (vs := [_, _, _]) rfl rfl rfl (ocr rfl (ocu hr52 (ocr rfl oc0))) size29 (Nat.le_of_ble_eq_true rfl)) rfl rfl rfl (gl_nil (gq_then (gc_ret (gq_res (fun E S => run_res1 rfl (rv_agg (cs := [_, _, _]) (.head _) Tryz.underlying29 rfl size29 rfl) E S) ?_)))))
        exact IsRat.fin1 hn0 hd0 hr52 hc63
       ·
        refine gc_skip (gq_then (gc_seq (gc_region (mv rfl rfl (mv rfl rfl (mv rfl rfl ?_))))))
        replace hr52 := hr52.mono hh7
        refine gv (ov_build_parts (ps' := [(0, _), (1, _), (2, _)]) (vs := [vB s, v52, v54]) Tryz.underlying29 info29 rfl (places29 Tryz.underlying29) ⟨rfl, rfl, rfl, rfl, rfl, rfl, trivial⟩ (fill_one (A := []) (B := [_]) (C := [_, _]) (cs := [_]) (off := 0) (size := 1) rfl rfl rfl rfl rfl (fill_one (A := [_]) (B := [_]) (C := [_]) (cs := [_]) (off := 1) (size := 1) rfl rfl rfl rfl hr52.cells (fill_one (A := [_, _]) (B := [_]) (C := []) (cs := [_]) (off := 2) (size := 1) rfl rfl rfl rfl hr54.cells fill_nil)))) rfl (gl_upd (A := []) (r' := .var b6 29 [vB s, v52, v54]) (upd_store_var (k := 0) (cs := [_, _, _]) (vs := [_, _, _]) rfl rfl rfl (ocr rfl (ocu hr52 (ocu hr54 oc0))) size29 (Nat.le_of_ble_eq_true rfl)) rfl rfl rfl (gl_nil (gq_then (gc_ret (gq_res (fun E S => run_res1 rfl (rv_agg (cs := [_, _, _]) (.head _) Tryz.underlying29 rfl size29 rfl) E S) ?_)))))
        exact IsRat.fin hn0 hd0 hr52 hr54 hc63
     ·
      refine gc_skip (gq_then (gc_seq (gc_region (mv rfl rfl ?_))))
      replace hn := hn.mono (hh2.trans hh3)
      refine gl_call (vs := [_, _]) rfl rfl rfl rfl Tryz.call87 ⟨rfl, rfl, trivial⟩ (fun w hs => nat_add hs hn (Us.nil _ _) (by first | omega | (simp only [List.length_nil]; omega)) (by first | omega | (simp only [List.length_nil]; omega))) ?_
      intro v52 h4 hh4 hr52
      try simp only [val_limbs] at hr52
      have hlm52 := limbs_len_add (val (xs)) (val ([]))
      refine mv rfl rfl ?_
      replace hd := hd.mono ((hh2.trans hh3).trans hh4)
      refine gl_call (vs := [_, _]) rfl rfl rfl rfl Tryz.call87 ⟨rfl, rfl, trivial⟩ (fun w hs => nat_add hs hd (Us.nil _ _) (by first | omega | (simp only [List.length_nil]; omega)) (by first | omega | (simp only [List.length_nil]; omega))) ?_
      intro v54 h5 hh5 hr54
      try simp only [val_limbs] at hr54
      have hlm54 := limbs_len_add (val (ys)) (val ([]))
      refine asg rfl rfl (asg rfl rfl (gl_nil (gq_keep (e' := [(0, _), (6, _), (1, _), (2, _)]) ⟨rfl, rfl, rfl, rfl, trivial⟩ (gq_then (gc_seq (gc_seq (gc_region (mv rfl rfl (gv (ov_len_us Tryz.underlying27 rfl hr54) rfl (gv (ov_eql_i (q := 1) rfl rfl) rfl ?_))))))))))
      refine gl_cut (ι := Unit) 6 (fun _ => True) (fun _ => [(63, vB (((↑(limbs ((val (ys)) + (val ([])))).length : Int) = (1 : Int)) ∧ (((limbs ((val (ys)) + (val ([])))).getD (0) 0) = (1 : Nat)))), (0, vB s), (6, vP b6 0), (1, v52), (2, v54)]) (fun _ => [.var b6 29 [vB ((0 : Rat).num < 0), .slice none 0 0, .slice none 0 0]]) (fun _ => h5) ?_ ?_
      ·
       refine gl_cases ((↑(limbs ((val (ys)) + (val ([])))).length : Int) = (1 : Int)) (fun hg => ?_) (fun hg => ?_)
       ·
        refine gl_val (ov_move (v := .bool true) (congrArg some (vB_true hg))) rfl rfl rfl (gl_on rfl rfl rfl (mv rfl rfl (gl_on rfl rfl rfl (gv (ov_index_us (q := 0) (0) Tryz.underlying27 Tryz.sizeOf78 rfl rfl hr54 rfl (by omega)) rfl (gl_on rfl rfl rfl (gv (ov_load_us Tryz.isAgg78 rfl hr54 (by omega)) rfl (gl_on rfl rfl rfl (gv (ov_eql_u (k := .u32) (q := 1) rfl rfl) rfl (gv (ov_pick_t rfl rfl) rfl (gl_nil ?_))))))))))
        refine gq_cut () trivial ⟨?_, rfl, rfl, rfl, rfl, trivial⟩ rfl rfl
        exact congrArg some (vB_and_t hg)
       ·
        refine gl_val (ov_move (v := .bool false) (congrArg some (vB_false hg))) rfl rfl rfl (gl_off rfl rfl rfl rfl rfl rfl (gl_off rfl rfl rfl rfl rfl rfl (gl_off rfl rfl rfl rfl rfl rfl (gl_off rfl rfl rfl rfl rfl rfl (gv (ov_pick_f rfl rfl) rfl (gl_nil ?_))))))
        refine gq_cut () trivial ⟨?_, rfl, rfl, rfl, rfl, trivial⟩ rfl rfl
        exact congrArg some (vB_and_f hg)
      ·
       intro _ _
       show GL _ _ _ _ _ _ _ [(63, vB (((↑(limbs ((val (ys)) + (val ([])))).length : Int) = (1 : Int)) ∧ (((limbs ((val (ys)) + (val ([])))).getD (0) 0) = (1 : Nat)))), (0, vB s), (6, vP b6 0), (1, v52), (2, v54)] [.var b6 29 [vB ((0 : Rat).num < 0), .slice none 0 0, .slice none 0 0]] h5
       refine gl_nil (gq_then ?_)
       refine gc_cond rfl (fun hc63 => ?_) (fun hc63 => ?_)
       ·
        refine gc_region (asg rfl rfl (gl_nil (gq_then (gc_seq (gc_region (mv rfl rfl (mv rfl rfl (mv rfl rfl ?_))))))))
        replace hr52 := hr52.mono hh5
        refine gv (ov_build_parts (ps' := [(0, _), (1, _), (2, _)]) (vs := [vB s, v52, .slice none 0 0]) Tryz.underlying29 info29 rfl (places29 Tryz.underlying29) ⟨rfl, rfl, rfl, rfl, rfl, rfl, trivial⟩ (fill_one (A := []) (B := [_]) (C := [_, _]) (cs := [_]) (off := 0) (size := 1) rfl rfl rfl rfl rfl (fill_one (A := [_]) (B := [_]) (C := [_]) (cs := [_]) (off := 1) (size := 1) rfl rfl rfl rfl hr52.cells (fill_one (A := [_, _]) (B := [_]) (C := []) (cs := [_]) (off := 2) (size := 1) rfl rfl rfl rfl rfl fill_nil)))) rfl (gl_upd (A := []) (r' := .var b6 29 [vB s, v52, .slice none 0 0]) (upd_store_var (k := 0) (cs := [_, _, _]) (vs := [_, _, _]) rfl rfl rfl (ocr rfl (ocu hr52 (ocr rfl oc0))) size29 (Nat.le_of_ble_eq_true rfl)) rfl rfl rfl (gl_nil (gq_then (gc_ret (gq_res (fun E S => run_res1 rfl (rv_agg (cs := [_, _, _]) (.head _) Tryz.underlying29 rfl size29 rfl) E S) ?_)))))
        have hg1 := bitsN_one hc36 hg0
        exact IsRat.fin1 hn0 hd0 (by rw [hg1, Nat.div_one]; exact hr52) (by rw [hg1, Nat.div_one]; exact hc63)
       ·
        refine gc_skip (gq_then (gc_seq (gc_region (mv rfl rfl (mv rfl rfl (mv rfl rfl ?_))))))
        replace hr52 := hr52.mono hh5
        refine gv (ov_build_parts (ps' := [(0, _), (1, _), (2, _)]) (vs := [vB s, v52, v54]) Tryz.underlying29 info29 rfl (places29 Tryz.underlying29) ⟨rfl, rfl, rfl, rfl, rfl, rfl, trivial⟩ (fill_one (A := []) (B := [_]) (C := [_, _]) (cs := [_]) (off := 0) (size := 1) rfl rfl rfl rfl rfl (fill_one (A := [_]) (B := [_]) (C := [_]) (cs := [_]) (off := 1) (size := 1) rfl rfl rfl rfl hr52.cells (fill_one (A := [_, _]) (B := [_]) (C := []) (cs := [_]) (off := 2) (size := 1) rfl rfl rfl rfl hr54.cells fill_nil)))) rfl (gl_upd (A := []) (r' := .var b6 29 [vB s, v52, v54]) (upd_store_var (k := 0) (cs := [_, _, _]) (vs := [_, _, _]) rfl rfl rfl (ocr rfl (ocu hr52 (ocu hr54 oc0))) size29 (Nat.le_of_ble_eq_true rfl)) rfl rfl rfl (gl_nil (gq_then (gc_ret (gq_res (fun E S => run_res1 rfl (rv_agg (cs := [_, _, _]) (.head _) Tryz.underlying29 rfl size29 rfl) E S) ?_)))))
        have hg1 := bitsN_one hc36 hg0
        exact IsRat.fin hn0 hd0 (by rw [hg1, Nat.div_one]; exact hr52) (by rw [hg1, Nat.div_one]; exact hr54) (by rw [hg1, Nat.div_one]; exact hc63)

end Go.Proofs.YtkdmphehabpcfaaGreat

namespace Go.Proofs.YtkdmphehabpcfaaGreat
open Bk Go
set_option linter.unusedVariables false
set_option linter.unusedSimpArgs false
set_option maxRecDepth 10000

theorem sl_equal {w0 : World} {h0 : Mem}  (hs : MLe h0 (mem w0)) {v v' : Value} {xs ys : List Nat} (hv : Us .u32 h0 v xs) (hv' : Us .u32 h0 v' ys) :
    Calls Tryz.prog 101 #[v, v'] w0 (Ret w0 h0 (fun _ r => r = vB (xs = ys))) := by
 have hlen := hv.lt63
 have hlen' := hv'.lt63
 refine calls_begin (n := 26) (e := [(0, v), (1, v')]) (vs := [v, v']) Tryz.func101 rfl rfl (Nat.le_of_ble_eq_true rfl) hs ⟨rfl, rfl, trivial⟩ (gc_seq (gc_region (asg rfl rfl (gl_nil (gq_then (gc_seq (gc_seq (gc_region (mv rfl rfl (gv (ov_len_us Tryz.underlying27 rfl hv) rfl (mv rfl rfl (gv (ov_len_us Tryz.underlying27 rfl hv') rfl (gv (ov_neq_i rfl rfl) rfl ?_)))))))))))))
 refine gl_nil (gq_then ?_)
 refine gc_cond rfl (fun hc10 => ?_) (fun hc10 => ?_)
 ·
  refine gc_seq (gc_region (asg rfl rfl (gl_nil (gq_then (gc_ret (gr_then (gq_body1 rfl rfl ?_)))))))
  rw [vB_false (fun e => hc10 (by rw [e]))]
 ·
  have hll : xs.length = ys.length := by omega
  refine gc_skip (gq_then (gc_seq (gc_seq (gc_region (mv rfl rfl (gv (ov_len_us Tryz.underlying27 rfl hv) rfl (mv (v := vI (0)) rfl rfl (gl_nil (gq_then (gc_block ?_))))))))))
  refine gc_loop (ι := Nat) (fun (i : (Nat)) => i ≤ xs.length ∧ xs.take i = ys.take i) (fun (i : (Nat)) => [(0, v), (1, v'), (12, vI ↑xs.length), (13, vI ↑i)]) (fun (i : (Nat)) => []) (fun (i : (Nat)) => h0) (fun (i : (Nat)) => xs.length - i) 0 ?_ ⟨rfl, rfl, rfl, rfl, trivial⟩ rfl rfl ?_
  ·
   exact ⟨by omega, by simp⟩
  ·
   intro i hx
   obtain ⟨hi, ht⟩ := hx
   show GC _ _ _ _ _ _ [(0, v), (1, v'), (12, vI ↑xs.length), (13, vI ↑i)] [] h0
   refine gc_seq (gc_region (gv (ov_lss_i rfl rfl) rfl (gl_nil (gq_then (gc_seq ?_)))))
   refine gc_cond rfl (fun hc14 => ?_) (fun hc14 => ?_)
   ·
    refine gc_skip (gq_then (gc_seq (gc_block (gc_seq (gc_region (mv rfl rfl (asg rfl rfl (gl_nil (gq_then (gc_seq ?_))))))))))
    refine gc_draw 9 _ [] [(0, .q), (1, .q), (2, .q), (3, .q), (4, .q), (5, .q), (6, .q), (7, .q), (8, .q)] mixed (fun x hx => by cases hx) (by kernel_rfl) (fun x hx => by cases hx) (fun r hr => hr) (w_q rfl (fun h' L' hh hR => ov_move rfl) rfl (w_q rfl (fun h' L' hh hR => ov_move rfl) rfl (w_q rfl (fun h' L' hh hR => ov_index_us (i) Tryz.underlying27 Tryz.sizeOf78 rfl rfl (hv.mono hh) (by omega) (by omega)) rfl (w_q rfl (fun h' L' hh hR => ov_load_us Tryz.isAgg78 rfl (hv.mono hh) (by omega)) rfl (w_q rfl (fun h' L' hh hR => ov_move rfl) rfl (w_q rfl (fun h' L' hh hR => ov_move rfl) rfl (w_q rfl (fun h' L' hh hR => ov_index_us (i) Tryz.underlying27 Tryz.sizeOf78 rfl rfl (hv'.mono hh) (by omega) (by omega)) rfl (w_q rfl (fun h' L' hh hR => ov_load_us Tryz.isAgg78 rfl (hv'.mono hh) (by omega)) rfl (w_q rfl (fun h' L' hh hR => ov_neq_u (k := .u32) rfl rfl) rfl (w_nil (gq_keep (e' := [(0, _), (1, _), (12, _), (13, _), (24, _)]) ⟨rfl, rfl, rfl, rfl, rfl, trivial⟩ (gq_then ?_))))))))))))
    refine gc_cond rfl (fun hc24 => ?_) (fun hc24 => ?_)
    ·
     refine gc_seq (gc_region (asg rfl rfl (gl_nil (gq_then (gc_ret (gr_in (gr_then (gr_then (gr_in (gr_then (gq_body1 rfl rfl ?_)))))))))))
     rw [vB_false (fun e => hc24 (by rw [e]))]
    ·
     refine gc_skip (gq_in (gq_then (gc_region (gv (ov_add_i (q := 1) rfl rfl (by omega) (by omega)) rfl (mv rfl rfl (gl_nil ?_))))))
     refine gq_round (i + 1) ?_ ?_ ⟨?_, ?_, ?_, ?_, trivial⟩ ?_ rfl
     ·
      refine ⟨by omega, ?_⟩
      rw [take_succ xs i (by omega), take_succ ys i (by omega), ht]
      have e := Classical.not_not.1 hc24
      rw [e]
     ·
      omega
     · exact rfl
     · exact rfl
     · exact rfl
     · exact congrArg some (congrArg vI (by omega))
     · exact rfl
   ·
    refine gc_exit (gx_then (gx_then (gx_here (gq_then (gc_seq (gc_region (asg rfl rfl (gl_nil (gq_then (gc_ret (gq_body1 rfl rfl ?_)))))))))))
    have e1 : xs = ys := by
      have e : i = xs.length := by omega
      rw [e, List.take_length, hll, List.take_length] at ht
      exact ht
    rw [vB_true e1]

theorem rat_sign {w0 : World} {h0 : Mem}  (hs : MLe h0 (mem w0)) {qa : Rat} {vna vda : Value} (hna : Us .u32 h0 vna (limbs qa.num.natAbs)) (hda : Us .u32 h0 vda (limbs (denN qa.den))) (hqa : lq qa ≤ 100000000000)  :
    Calls Tryz.prog 66 #[.agg #[vB (qa.num < 0), vna, vda]] w0 (Ret w0 h0 (fun _ r => r = vI (sgnQ qa))) := by
 have hlna := lq_num qa
 have hlda := lq_den qa
 have hlDa := lq_denL qa
 refine calls_begin (n := 11) (e := [(0, .agg #[vB (qa.num < 0), vna, vda])]) (vs := [.agg #[vB (qa.num < 0), vna, vda]]) Tryz.func66 rfl rfl (Nat.le_of_ble_eq_true rfl) hs ⟨rfl, trivial⟩ (gc_seq (gc_region (gl_newop (new_box (cs := [_, _, _]) rfl rfl) rfl rfl rfl ?_)))
 intro v1 r1 hr1
 obtain ⟨b1, rfl, rfl⟩ := hr1
 refine asg (v := vI (0)) rfl rfl (gl_nil (gq_then (gc_seq (gc_block (gc_seq (gc_region (gv (ov_field_addr Tryz.underlying29 rfl Tryz.sizeOf27 rfl) rfl (gv (ov_load_var (.head _) Tryz.isAgg27 rfl rfl) rfl ?_))))))))
 refine gl_call (vs := [_]) rfl rfl rfl rfl Tryz.call103 ⟨rfl, trivial⟩ (fun w hs => nat_bits hs hna (by omega)) ?_
 intro v6 h1 hh1 hr6
 try simp only [val_limbs] at hr6
 subst hr6
 refine gv (ov_eql_i (q := 0) rfl rfl) rfl (asg rfl rfl (gl_nil (gq_then ?_)))
 refine gc_cond rfl (fun hc3 => ?_) (fun hc3 => ?_)
 ·
  refine gc_seq (gc_region (asg (v := vI (0)) rfl rfl (gl_nil (gq_then (gc_ret (gr_in (gr_then (gq_body1 rfl rfl ?_))))))))
  rw [sgnQ_zero (num_zero_bits hc3)]
 ·
  refine gc_seq (gc_region (gv (ov_field_addr Tryz.underlying29 rfl Tryz.sizeOf4 rfl) rfl (gv (ov_load_var (.head _) Tryz.isAgg4 rfl rfl) rfl (asg rfl rfl (gl_nil (gq_keep (e' := [(8, _)]) ⟨rfl, trivial⟩ (gq_then ?_)))))))
  refine gc_cond rfl (fun hc8 => ?_) (fun hc8 => ?_)
  ·
   refine gc_seq (gc_region (asg (v := vI (-1)) rfl rfl (gl_nil (gq_then (gc_ret (gr_in (gr_then (gq_body1 rfl rfl ?_))))))))
   rw [sgnQ_neg hc8]
  ·
   refine gc_skip (gq_in (gq_then (gc_seq (gc_region (asg (v := vI (1)) rfl rfl (gl_nil (gq_then (gc_ret (gq_body1 rfl rfl ?_)))))))))
   rw [sgnQ_pos (fun h => hc3 (bits_zero_num h)) hc8]

theorem rat_same {w0 : World} {h0 : Mem}  (hs : MLe h0 (mem w0)) {qa : Rat} {vna vda : Value} (hna : Us .u32 h0 vna (limbs qa.num.natAbs)) (hda : Us .u32 h0 vda (limbs (denN qa.den))) {qb : Rat} {vnb vdb : Value} (hnb : Us .u32 h0 vnb (limbs qb.num.natAbs)) (hdb : Us .u32 h0 vdb (limbs (denN qb.den))) (hqa : lq qa ≤ 100000000000) (hqb : lq qb ≤ 100000000000)  :
    Calls Tryz.prog 69 #[.agg #[vB (qa.num < 0), vna, vda], .agg #[vB (qb.num < 0), vnb, vdb]] w0 (Ret w0 h0 (fun _ r => r = vB (qa = qb))) := by
 have hlna := lq_num qa
 have hlda := lq_den qa
 have hlDa := lq_denL qa
 have hlnb := lq_num qb
 have hldb := lq_den qb
 have hlDb := lq_denL qb
 refine calls_begin (n := 24) (e := [(0, .agg #[vB (qa.num < 0), vna, vda]), (1, .agg #[vB (qb.num < 0), vnb, vdb])]) (vs := [.agg #[vB (qa.num < 0), vna, vda], .agg #[vB (qb.num < 0), vnb, vdb]]) Tryz.func69 rfl rfl (Nat.le_of_ble_eq_true rfl) hs ⟨rfl, rfl, trivial⟩ (gc_seq (gc_region (gl_newop (new_box (cs := [_, _, _]) rfl rfl) rfl rfl rfl ?_)))
 intro v2 r2 hr2
 obtain ⟨b2, rfl, rfl⟩ := hr2
 refine gl_newop (new_box (cs := [_, _, _]) rfl rfl) rfl rfl rfl ?_
 intro v3 r3 hr3
 obtain ⟨b3, rfl, rfl⟩ := hr3
 refine asg rfl rfl (gl_nil (gq_then (gc_seq (gc_region (gv (ov_field_addr Tryz.underlying29 rfl Tryz.sizeOf4 rfl) rfl (gv (ov_load_var (.tail _ (.head _)) Tryz.isAgg4 rfl rfl) rfl (gv (ov_field_addr Tryz.underlying29 rfl Tryz.sizeOf4 rfl) rfl (gv (ov_load_var (.head _) Tryz.isAgg4 rfl rfl) rfl (gv (ov_eql_b Tryz.underlying4 rfl rfl) rfl ?_)))))))))
 refine gl_cut (ι := Mem) 7 (fun m_ => MLe h0 m_) (fun _ => [(16, vB (((qa.num < 0) ↔ (qb.num < 0)) ∧ ((limbs qa.num.natAbs) = (limbs qb.num.natAbs)))), (2, vP b2 0), (3, vP b3 0)]) (fun _ => [.var b3 29 [vB (qb.num < 0), vnb, vdb], .var b2 29 [vB (qa.num < 0), vna, vda]]) (fun m_ => m_) ?_ ?_
 ·
  refine gl_cases ((qa.num < 0) ↔ (qb.num < 0)) (fun hg => ?_) (fun hg => ?_)
  ·
   refine gl_val (ov_move (v := .bool true) (congrArg some (vB_true hg))) rfl rfl rfl (gl_on rfl rfl rfl (gv (ov_field_addr Tryz.underlying29 rfl Tryz.sizeOf27 rfl) rfl (gl_on rfl rfl rfl (gv (ov_load_var (.tail _ (.head _)) Tryz.isAgg27 rfl rfl) rfl (gl_on rfl rfl rfl (gv (ov_field_addr Tryz.underlying29 rfl Tryz.sizeOf27 rfl) rfl (gl_on rfl rfl rfl (gv (ov_load_var (.head _) Tryz.isAgg27 rfl rfl) rfl (gl_on rfl rfl rfl ?_)))))))))
   refine gl_call (vs := [_, _]) rfl rfl rfl rfl Tryz.call101 ⟨rfl, rfl, trivial⟩ (fun w hs => sl_equal hs hna hnb) ?_
   intro v15 h1 hh1 hr15
   subst hr15
   refine gv (ov_pick_t rfl rfl) rfl (gl_nil ?_)
   refine gq_cut h1 hh1 ⟨?_, rfl, rfl, trivial⟩ rfl rfl
   exact congrArg some (vB_and_t hg)
  ·
   refine gl_val (ov_move (v := .bool false) (congrArg some (vB_false hg))) rfl rfl rfl (gl_off rfl rfl rfl rfl rfl rfl (gl_off rfl rfl rfl rfl rfl rfl (gl_off rfl rfl rfl rfl rfl rfl (gl_off rfl rfl rfl rfl rfl rfl (gl_off rfl rfl rfl rfl rfl rfl (gv (ov_pick_f rfl rfl) rfl (gl_nil ?_)))))))
   refine gq_cut h0 (MLe.refl _) ⟨?_, rfl, rfl, trivial⟩ rfl rfl
   exact congrArg some (vB_and_f hg)
 ·
  intro mg1_5 hmmg1_5
  show GL _ _ _ _ _ _ _ [(16, vB (((qa.num < 0) ↔ (qb.num < 0)) ∧ ((limbs qa.num.natAbs) = (limbs qb.num.natAbs)))), (2, vP b2 0), (3, vP b3 0)] [.var b3 29 [vB (qb.num < 0), vnb, vdb], .var b2 29 [vB (qa.num < 0), vna, vda]] mg1_5
  refine gl_cut (ι := Mem) 7 (fun m_ => MLe mg1_5 m_) (fun _ => [(23, vB ((((qa.num < 0) ↔ (qb.num < 0)) ∧ ((limbs qa.num.natAbs) = (limbs qb.num.natAbs))) ∧ ((limbs (denN qa.den)) = (limbs (denN qb.den)))))]) (fun _ => [.var b3 29 [vB (qb.num < 0), vnb, vdb], .var b2 29 [vB (qa.num < 0), vna, vda]]) (fun m_ => m_) ?_ ?_
  ·
   refine gl_cases (((qa.num < 0) ↔ (qb.num < 0)) ∧ ((limbs qa.num.natAbs) = (limbs qb.num.natAbs))) (fun hg => ?_) (fun hg => ?_)
   ·
    refine gl_val (ov_move (v := .bool true) (congrArg some (vB_true hg))) rfl rfl rfl (gl_on rfl rfl rfl (gv (ov_field_addr Tryz.underlying29 rfl Tryz.sizeOf27 rfl) rfl (gl_on rfl rfl rfl (gv (ov_load_var (.tail _ (.head _)) Tryz.isAgg27 rfl rfl) rfl (gl_on rfl rfl rfl (gv (ov_field_addr Tryz.underlying29 rfl Tryz.sizeOf27 rfl) rfl (gl_on rfl rfl rfl (gv (ov_load_var (.head _) Tryz.isAgg27 rfl rfl) rfl (gl_on rfl rfl rfl ?_)))))))))
    replace hda := hda.mono hmmg1_5
    replace hdb := hdb.mono hmmg1_5
    refine gl_call (vs := [_, _]) rfl rfl rfl rfl Tryz.call101 ⟨rfl, rfl, trivial⟩ (fun w hs => sl_equal hs hda hdb) ?_
    intro v22 h1 hh1 hr22
    subst hr22
    refine gv (ov_pick_t rfl rfl) rfl (gl_nil ?_)
    refine gq_cut h1 hh1 ⟨?_, trivial⟩ rfl rfl
    exact congrArg some (vB_and_t hg)
   ·
    refine gl_val (ov_move (v := .bool false) (congrArg some (vB_false hg))) rfl rfl rfl (gl_off rfl rfl rfl rfl rfl rfl (gl_off rfl rfl rfl rfl rfl rfl (gl_off rfl rfl rfl rfl rfl rfl (gl_off rfl rfl rfl rfl rfl rfl (gl_off rfl rfl rfl rfl rfl rfl (gv (ov_pick_f rfl rfl) rfl (gl_nil ?_)))))))
    refine gq_cut mg1_5 (MLe.refl _) ⟨?_, trivial⟩ rfl rfl
    exact congrArg some (vB_and_f hg)
  ·
   intro mg1_12 hmmg1_12
   show GL _ _ _ _ _ _ _ [(23, vB ((((qa.num < 0) ↔ (qb.num < 0)) ∧ ((limbs qa.num.natAbs) = (limbs qb.num.natAbs))) ∧ ((limbs (denN qa.den)) = (limbs (denN qb.den)))))] [.var b3 29 [vB (qb.num < 0), vnb, vdb], .var b2 29 [vB (qa.num < 0), vna, vda]] mg1_12
   refine asg rfl rfl (gl_nil (gq_then (gc_ret (gq_body1 rfl rfl ?_))))
   exact vB_iff same_iff

theorem rat_cmp {w0 : World} {h0 : Mem}  (hs : MLe h0 (mem w0)) {qa : Rat} {vna vda : Value} (hna : Us .u32 h0 vna (limbs qa.num.natAbs)) (hda : Us .u32 h0 vda (limbs (denN qa.den))) {qb : Rat} {vnb vdb : Value} (hnb : Us .u32 h0 vnb (limbs qb.num.natAbs)) (hdb : Us .u32 h0 vdb (limbs (denN qb.den))) (hqa : lq qa ≤ 100000000000) (hqb : lq qb ≤ 100000000000)  :
    Calls Tryz.prog 64 #[.agg #[vB (qa.num < 0), vna, vda], .agg #[vB (qb.num < 0), vnb, vdb]] w0 (Ret w0 h0 (fun _ r => r = vI (cmpQ qa qb))) := by
 have hlna := lq_num qa
 have hlda := lq_den qa
 have hlDa := lq_denL qa
 have hlnb := lq_num qb
 have hldb := lq_den qb
 have hlDb := lq_denL qb
 refine calls_begin (n := 80) (e := [(0, .agg #[vB (qa.num < 0), vna, vda]), (1, .agg #[vB (qb.num < 0), vnb, vdb])]) (vs := [.agg #[vB (qa.num < 0), vna, vda], .agg #[vB (qb.num < 0), vnb, vdb]]) Tryz.func64 rfl rfl (Nat.le_of_ble_eq_true rfl) hs ⟨rfl, rfl, trivial⟩ (gc_seq (gc_region (gl_newop (new_box (cs := [_, _, _]) rfl rfl) rfl rfl rfl ?_)))
 intro v2 r2 hr2
 obtain ⟨b2, rfl, rfl⟩ := hr2
 refine gl_newop (new_box (cs := [_, _, _]) rfl rfl) rfl rfl rfl ?_
 intro v3 r3 hr3
 obtain ⟨b3, rfl, rfl⟩ := hr3
 refine asg (v := vI (0)) rfl rfl (gl_nil (gq_then (gc_seq (gc_seq ?_))))
 refine gc_draw 6 _ [] [(0, .q), (2, .q), (1, .c), (3, .c), (4, .q), (5, .q)] mixed (fun x hx => by cases hx) (by kernel_rfl) (fun x hx => by cases hx) (fun r hr => hr) (w_q rfl (fun h' L' hh hR => ov_load_agg (vs := [_, _, _]) (hR _ (.tail _ (.head _))) Tryz.underlying29 rfl size29 rfl rfl) rfl (w_q rfl (fun h' L' hh hR => ov_load_agg (vs := [_, _, _]) (hR _ (.head _)) Tryz.underlying29 rfl size29 rfl rfl) rfl ?_))
 refine w_c rfl ?_
 refine s_call (vs := [_]) Tryz.call66 ⟨rfl, trivial⟩ (fun w hs => rat_sign hs hna hda (by omega)) rfl ?_
 intro v15 h1 hh1 hr15
 have hsr15 := sgnQ_range qa
 subst hr15
 refine w_c rfl ?_
 replace hnb := hnb.mono hh1
 replace hdb := hdb.mono hh1
 refine s_call (vs := [_]) Tryz.call66 ⟨rfl, trivial⟩ (fun w hs => rat_sign hs hnb hdb (by omega)) rfl ?_
 intro v17 h2 hh2 hr17
 have hsr17 := sgnQ_range qb
 subst hr17
 refine w_q rfl (fun h' L' hh hR => ov_assign rfl) rfl (w_q rfl (fun h' L' hh hR => ov_assign rfl) rfl (w_nil (gq_then (gc_seq (gc_region (mv rfl rfl (mv rfl rfl (gv (ov_neq_i rfl rfl) rfl (gl_nil (gq_then ?_))))))))))
 refine gc_cond rfl (fun hc20 => ?_) (fun hc20 => ?_)
 ·
  refine gc_keep (e' := [(5, _), (6, _)]) ⟨rfl, rfl, trivial⟩ (gc_seq (gc_seq (gc_region (mv rfl rfl (mv rfl rfl (gv (ov_lss_i rfl rfl) rfl (gl_nil (gq_then ?_))))))))
  refine gc_cond rfl (fun hc23 => ?_) (fun hc23 => ?_)
  ·
   refine gc_seq (gc_region (asg (v := vI (-1)) rfl rfl (gl_nil (gq_then (gc_ret (gr_then (gr_then (gq_body1 rfl rfl ?_))))))))
   rw [cmpQ_sgn hc20, if_pos hc23]
  ·
   refine gc_skip (gq_then (gc_seq (gc_region (asg (v := vI (1)) rfl rfl (gl_nil (gq_then (gc_ret (gr_then (gq_body1 rfl rfl ?_)))))))))
   rw [cmpQ_sgn hc20, if_neg hc23]
 ·
  have hss := sgn_same hc20
  refine gc_keep (e' := [(2, _), (3, _)]) ⟨rfl, rfl, trivial⟩ (gc_skip (gq_then (gc_seq (gc_region (asg (v := vI (0)) rfl rfl (gl_nil (gq_then ?_)))))))
  refine gc_cut (ι := Mem) (fun (mc : (Mem)) => MLe h2 mc ∧ (True)) (fun (mc : (Mem)) => [(2, vP b2 0), (7, vI (cN qa qb))]) (fun (mc : (Mem)) => [.var b3 29 [vB (qb.num < 0), vnb, vdb], .var b2 29 [vB (qa.num < 0), vna, vda]]) (fun (mc : (Mem)) => mc) ?_ ?_
  ·
   refine gc_seq (gc_region (gv (ov_load_agg (vs := [_, _, _]) (.tail _ (.head _)) Tryz.underlying29 rfl size29 rfl rfl) rfl ?_))
   replace hna := hna.mono (hh1.trans hh2)
   replace hda := hda.mono (hh1.trans hh2)
   refine gl_call (vs := [_]) rfl rfl rfl rfl Tryz.call100 ⟨rfl, trivial⟩ (fun w hs => rat_parts hs hna hda) ?_
   intro v26 h3 hh3 hr26
   subst hr26
   refine mv rfl rfl (gv (ov_extract (vs := [_, _, _]) rfl rfl) rfl (gv (ov_extract (vs := [_, _, _]) rfl rfl) rfl (gv (ov_extract (vs := [_, _, _]) rfl rfl) rfl (asg rfl rfl (asg rfl rfl (asg rfl rfl (gl_nil (gq_then (gc_seq (gc_region (gv (ov_field_addr Tryz.underlying29 rfl Tryz.sizeOf27 rfl) rfl (gv (ov_load_var (.tail _ (.head _)) Tryz.isAgg27 rfl rfl) rfl (gv (ov_field_addr Tryz.underlying29 rfl Tryz.sizeOf27 rfl) rfl ?_)))))))))))))
   refine gv (ov_load_var (.head _) Tryz.isAgg27 rfl rfl) rfl ?_
   replace hda := hda.mono hh3
   replace hdb := hdb.mono (hh2.trans hh3)
   refine gl_call (vs := [_, _]) rfl rfl rfl rfl Tryz.call101 ⟨rfl, rfl, trivial⟩ (fun w hs => sl_equal hs hda hdb) ?_
   intro v34 h4 hh4 hr34
   subst hr34
   refine gl_nil (gq_keep (e' := [(2, _), (3, _), (7, _), (8, _), (9, _), (10, _), (34, _)]) ⟨rfl, rfl, rfl, rfl, rfl, rfl, rfl, trivial⟩ (gq_then ?_))
   refine gc_cond rfl (fun hc34 => ?_) (fun hc34 => ?_)
   ·
    refine gc_region (gv (ov_field_addr Tryz.underlying29 rfl Tryz.sizeOf27 rfl) rfl (gv (ov_load_var (.tail _ (.head _)) Tryz.isAgg27 rfl rfl) rfl (gv (ov_field_addr Tryz.underlying29 rfl Tryz.sizeOf27 rfl) rfl (gv (ov_load_var (.head _) Tryz.isAgg27 rfl rfl) rfl ?_))))
    replace hna := hna.mono (hh3.trans hh4)
    replace hnb := hnb.mono ((hh2.trans hh3).trans hh4)
    refine gl_call (vs := [_, _]) rfl rfl rfl rfl Tryz.call85 ⟨rfl, rfl, trivial⟩ (fun w hs => nat_cmp hs hna hnb) ?_
    intro v39 h5 hh5 hr39
    try simp only [val_limbs] at hr39
    subst hr39
    refine asg rfl rfl (gl_nil ?_)
    refine gq_cut (h5) ?_ ⟨?_, ?_, trivial⟩ ?_ rfl
    ·
     refine ⟨((hh3.trans hh4).trans hh5), ?_⟩
     trivial
    · exact rfl
    · exact congrArg some (congrArg vI ((cN_den hc34).symm))
    · exact rfl
   ·
    refine gc_seq (gc_region (gv (ov_load_agg (vs := [_, _, _]) (.head _) Tryz.underlying29 rfl size29 rfl rfl) rfl ?_))
    replace hnb := hnb.mono ((hh2.trans hh3).trans hh4)
    replace hdb := hdb.mono hh4
    refine gl_call (vs := [_]) rfl rfl rfl rfl Tryz.call100 ⟨rfl, trivial⟩ (fun w hs => rat_parts hs hnb hdb) ?_
    intro v42 h5 hh5 hr42
    subst hr42
    refine mv rfl rfl (gv (ov_extract (vs := [_, _, _]) rfl rfl) rfl (gv (ov_extract (vs := [_, _, _]) rfl rfl) rfl (gv (ov_extract (vs := [_, _, _]) rfl rfl) rfl (asg rfl rfl (asg rfl rfl (asg rfl rfl (gl_nil (gq_then (gc_seq (gc_region (mv rfl rfl ?_)))))))))))
    refine gl_cut (ι := Unit) 3 (fun _ => True) (fun _ => [(49, vB ((smallQ qa) ∧ (smallQ qb))), (2, vP b2 0), (3, vP b3 0), (7, vI (0)), (8, vU .u64 (pN qa)), (9, vU .u64 (pD qa)), (11, vU .u64 (pN qb)), (12, vU .u64 (pD qb))]) (fun _ => [.var b3 29 [vB (qb.num < 0), vnb, vdb], .var b2 29 [vB (qa.num < 0), vna, vda]]) (fun _ => h5) ?_ ?_
    ·
     refine gl_cases (smallQ qa) (fun hg => ?_) (fun hg => ?_)
     ·
      refine gl_val (ov_move (v := .bool true) (congrArg some (vB_true hg))) rfl rfl rfl (gl_on rfl rfl rfl (mv rfl rfl (gv (ov_pick_t rfl rfl) rfl (gl_nil ?_))))
      refine gq_cut () trivial ⟨?_, rfl, rfl, rfl, rfl, rfl, rfl, rfl, trivial⟩ rfl rfl
      exact congrArg some (vB_and_t hg)
     ·
      refine gl_val (ov_move (v := .bool false) (congrArg some (vB_false hg))) rfl rfl rfl (gl_off rfl rfl rfl rfl rfl rfl (gv (ov_pick_f rfl rfl) rfl (gl_nil ?_)))
      refine gq_cut () trivial ⟨?_, rfl, rfl, rfl, rfl, rfl, rfl, rfl, trivial⟩ rfl rfl
      exact congrArg some (vB_and_f hg)
    ·
     intro _ _
     show GL _ _ _ _ _ _ _ [(49, vB ((smallQ qa) ∧ (smallQ qb))), (2, vP b2 0), (3, vP b3 0), (7, vI (0)), (8, vU .u64 (pN qa)), (9, vU .u64 (pD qa)), (11, vU .u64 (pN qb)), (12, vU .u64 (pD qb))] [.var b3 29 [vB (qb.num < 0), vnb, vdb], .var b2 29 [vB (qa.num < 0), vna, vda]] h5
     refine gl_nil (gq_then ?_)
     refine gc_cond rfl (fun hc49 => ?_) (fun hc49 => ?_)
     ·
      have hsa := hc49.1
      have hsb := hc49.2
      have hpa := smallQ_num hsa
      have hra := smallQ_den hsa
      have hpb := smallQ_num hsb
      have hrb := smallQ_den hsb
      have hm1 := small_mul hpa hrb
      have hm2 := small_mul hpb hra
      rw [pN_t hsa, pD_t hsa, pN_t hsb, pD_t hsb]
      refine gc_seq (gc_region (mv rfl rfl (mv rfl rfl (gv (ov_mul_u (k := .u64) (W := 18446744073709551616) rfl rfl rfl rfl (by omega)) rfl (mv rfl rfl (mv rfl rfl (gv (ov_mul_u (k := .u64) (W := 18446744073709551616) rfl rfl rfl rfl (by omega)) rfl (gv (ov_lss_u (k := .u64) rfl rfl) rfl (gl_nil (gq_then ?_))))))))))
      refine gc_cond rfl (fun hc56 => ?_) (fun hc56 => ?_)
      ·
       refine gc_keep (e' := [(2, _)]) ⟨rfl, trivial⟩ (gc_region (asg (v := vI (-1)) rfl rfl (gl_nil ?_)))
       refine gq_cut (h5) ?_ ⟨?_, ?_, trivial⟩ ?_ rfl
       ·
        refine ⟨((hh3.trans hh4).trans hh5), ?_⟩
        trivial
       · exact rfl
       · exact congrArg some (congrArg vI ((cmpN_lt hc56).symm))
       · exact rfl
      ·
       refine gc_seq (gc_region (mv rfl rfl (mv rfl rfl (gv (ov_mul_u (k := .u64) (W := 18446744073709551616) rfl rfl rfl rfl (by omega)) rfl (mv rfl rfl (mv rfl rfl (gv (ov_mul_u (k := .u64) (W := 18446744073709551616) rfl rfl rfl rfl (by omega)) rfl (gv (ov_gtr_u (k := .u64) rfl rfl) rfl (gl_nil (gq_keep (e' := [(2, _), (7, _), (63, _)]) ⟨rfl, rfl, rfl, trivial⟩ (gq_then ?_)))))))))))
       refine gc_cond rfl (fun hc63 => ?_) (fun hc63 => ?_)
       ·
        refine gc_region (asg (v := vI (1)) rfl rfl (gl_nil ?_))
        refine gq_cut (h5) ?_ ⟨?_, ?_, trivial⟩ ?_ rfl
        ·
         refine ⟨((hh3.trans hh4).trans hh5), ?_⟩
         trivial
        · exact rfl
        · exact congrArg some (congrArg vI ((cmpN_gt hc63).symm))
        · exact rfl
       ·
        refine gc_skip ?_
        refine gq_cut (h5) ?_ ⟨?_, ?_, trivial⟩ ?_ rfl
        ·
         refine ⟨((hh3.trans hh4).trans hh5), ?_⟩
         trivial
        · exact rfl
        · exact congrArg some (congrArg vI ((cmpN_zero.2 (by omega)).symm))
        · exact rfl
     ·
      refine gc_draw 12 _ [] [(0, .q), (1, .q), (2, .q), (5, .q), (6, .q), (7, .q), (3, .c), (4, .c), (8, .c), (9, .c), (10, .c), (11, .q)] mixed (fun x hx => by cases hx) (by kernel_rfl) (fun x hx => by cases hx) (fun r hr => hr) (w_q rfl (fun h' L' hh hR => ov_field_addr Tryz.underlying29 rfl Tryz.sizeOf27 rfl) rfl (w_q rfl (fun h' L' hh hR => ov_load_var (hR _ (.tail _ (.head _))) Tryz.isAgg27 rfl rfl) rfl (w_q rfl (fun h' L' hh hR => ov_load_agg (vs := [_, _, _]) (hR _ (.head _)) Tryz.underlying29 rfl size29 rfl rfl) rfl (w_q rfl (fun h' L' hh hR => ov_field_addr Tryz.underlying29 rfl Tryz.sizeOf27 rfl) rfl (w_q rfl (fun h' L' hh hR => ov_load_var (hR _ (.head _)) Tryz.isAgg27 rfl rfl) rfl (w_q rfl (fun h' L' hh hR => ov_load_agg (vs := [_, _, _]) (hR _ (.tail _ (.head _))) Tryz.underlying29 rfl size29 rfl rfl) rfl ?_))))))
      refine w_c rfl ?_
      replace hnb := hnb.mono hh5
      replace hdb := hdb.mono hh5
      refine s_call (vs := [_]) Tryz.call102 ⟨rfl, trivial⟩ (fun w hs => rat_den hs hnb hdb) rfl ?_
      intro v67 h6 hh6 hr67
      rw [denL_den] at hr67
      refine w_c rfl ?_
      replace hna := hna.mono (((hh3.trans hh4).trans hh5).trans hh6)
      refine s_call (vs := [_, _]) Tryz.call86 ⟨rfl, rfl, trivial⟩ (fun w hs => nat_mul hs hna hr67 (by omega) (by omega)) rfl ?_
      intro v68 h7 hh7 hr68
      try simp only [val_limbs] at hr68
      have hlm68 := limbs_len_mul ((qa.num.natAbs)) ((qb.den))
      refine w_c rfl ?_
      replace hna := hna.mono hh7
      replace hda := hda.mono (((hh4.trans hh5).trans hh6).trans hh7)
      refine s_call (vs := [_]) Tryz.call102 ⟨rfl, trivial⟩ (fun w hs => rat_den hs hna hda) rfl ?_
      intro v72 h8 hh8 hr72
      rw [denL_den] at hr72
      refine w_c rfl ?_
      replace hnb := hnb.mono ((hh6.trans hh7).trans hh8)
      refine s_call (vs := [_, _]) Tryz.call86 ⟨rfl, rfl, trivial⟩ (fun w hs => nat_mul hs hnb hr72 (by omega) (by omega)) rfl ?_
      intro v73 h9 hh9 hr73
      try simp only [val_limbs] at hr73
      have hlm73 := limbs_len_mul ((qb.num.natAbs)) ((qa.den))
      refine w_c rfl ?_
      replace hr68 := hr68.mono (hh8.trans hh9)
      refine s_call (vs := [_, _]) Tryz.call85 ⟨rfl, rfl, trivial⟩ (fun w hs => nat_cmp hs hr68 hr73) rfl ?_
      intro v74 h10 hh10 hr74
      try simp only [val_limbs] at hr74
      subst hr74
      refine w_q rfl (fun h' L' hh hR => ov_assign rfl) rfl (w_nil ?_)
      refine gq_cut (h10) ?_ ⟨?_, ?_, trivial⟩ ?_ rfl
      ·
       refine ⟨(((((((hh3.trans hh4).trans hh5).trans hh6).trans hh7).trans hh8).trans hh9).trans hh10), ?_⟩
       trivial
      · exact rfl
      · exact rfl
      · exact rfl
  ·
   intro mc hx
   obtain ⟨hmmc, hcut⟩ := hx
   show GC _ _ _ _ _ _ [(2, vP b2 0), (7, vI (cN qa qb))] [.var b3 29 [vB (qb.num < 0), vnb, vdb], .var b2 29 [vB (qa.num < 0), vna, vda]] mc
   have hcr := cN_range qa qb
   refine gc_seq (gc_seq (gc_region (gv (ov_field_addr Tryz.underlying29 rfl Tryz.sizeOf4 rfl) rfl (gv (ov_load_var (.tail _ (.head _)) Tryz.isAgg4 rfl rfl) rfl (gl_nil (gq_then ?_))))))
   refine gc_cond rfl (fun hc76 => ?_) (fun hc76 => ?_)
   ·
    refine gc_seq (gc_region (mv rfl rfl (gv (ov_neg_i rfl (by omega) (by omega)) rfl (asg rfl rfl (gl_nil (gq_then (gc_ret (gr_then (gq_body1 rfl rfl ?_)))))))))
    rw [cmpQ_cN hss hc76]
   ·
    refine gc_skip (gq_then (gc_seq (gc_region (mv rfl rfl (asg rfl rfl (gl_nil (gq_then (gc_ret (gq_body1 rfl rfl ?_)))))))))
    rw [cmpQ_cN' hss hc76]

theorem rat_mul {w0 : World} {h0 : Mem}  (hs : MLe h0 (mem w0)) {qa : Rat} {vna vda : Value} (hna : Us .u32 h0 vna (limbs qa.num.natAbs)) (hda : Us .u32 h0 vda (limbs (denN qa.den))) {qb : Rat} {vnb vdb : Value} (hnb : Us .u32 h0 vnb (limbs qb.num.natAbs)) (hdb : Us .u32 h0 vdb (limbs (denN qb.den))) (hqa : lq qa ≤ 100000000000) (hqb : lq qb ≤ 100000000000)  :
    Calls Tryz.prog 79 #[.agg #[vB (qa.num < 0), vna, vda], .agg #[vB (qb.num < 0), vnb, vdb]] w0 (Ret w0 h0 (fun h r => IsRat h r (qa * qb))) := by
 have hlna := lq_num qa
 have hlda := lq_den qa
 have hlDa := lq_denL qa
 have hlnb := lq_num qb
 have hldb := lq_den qb
 have hlDb := lq_denL qb
 rw [← mul_eq]
 refine calls_begin (n := 64) (e := [(0, .agg #[vB (qa.num < 0), vna, vda]), (1, .agg #[vB (qb.num < 0), vnb, vdb])]) (vs := [.agg #[vB (qa.num < 0), vna, vda], .agg #[vB (qb.num < 0), vnb, vdb]]) Tryz.func79 rfl rfl (Nat.le_of_ble_eq_true rfl) hs ⟨rfl, rfl, trivial⟩ (gc_seq (gc_region (gl_newop (new_box (cs := [_, _, _]) rfl rfl) rfl rfl rfl ?_)))
 intro v2 r2 hr2
 obtain ⟨b2, rfl, rfl⟩ := hr2
 refine gl_newop (new_box (cs := [_, _, _]) rfl rfl) rfl rfl rfl ?_
 intro v3 r3 hr3
 obtain ⟨b3, rfl, rfl⟩ := hr3
 refine gl_newop (new_alloc (cs := [vB ((0 : Rat).num < 0), .slice none 0 0, .slice none 0 0]) info29 rfl (by simp only [zb]; rfl)) rfl rfl rfl ?_
 intro v4 r4 hr4
 obtain ⟨b4, rfl, rfl⟩ := hr4
 refine gl_nil (gq_then (gc_seq (gc_seq (gc_region (gv (ov_field_addr Tryz.underlying29 rfl Tryz.sizeOf27 rfl) rfl (gv (ov_load_var (.tail _ (.tail _ (.head _))) Tryz.isAgg27 rfl rfl) rfl (gv (ov_len_us Tryz.underlying27 rfl hna) rfl (gv (ov_eql_i (q := 0) rfl rfl) rfl ?_))))))))
 refine gl_cut (ι := Unit) 6 (fun _ => True) (fun _ => [(20, vB (((↑(limbs qa.num.natAbs).length : Int) = (0 : Int)) ∨ ((↑(limbs qb.num.natAbs).length : Int) = (0 : Int)))), (2, vP b2 0), (3, vP b3 0), (4, vP b4 0)]) (fun _ => [.var b4 29 [vB ((0 : Rat).num < 0), .slice none 0 0, .slice none 0 0], .var b3 29 [vB (qb.num < 0), vnb, vdb], .var b2 29 [vB (qa.num < 0), vna, vda]]) (fun _ => h0) ?_ ?_
 ·
  refine gl_cases ((↑(limbs qa.num.natAbs).length : Int) = (0 : Int)) (fun hg => ?_) (fun hg => ?_)
  ·
   refine gl_val (ov_move (v := .bool true) (congrArg some (vB_true hg))) rfl rfl rfl (gl_off rfl rfl rfl rfl rfl rfl (gl_off rfl rfl rfl rfl rfl rfl (gl_off rfl rfl rfl rfl rfl rfl (gl_off rfl rfl rfl rfl rfl rfl (gv (ov_pick_t rfl rfl) rfl (gl_nil ?_))))))
   refine gq_cut () trivial ⟨?_, rfl, rfl, rfl, trivial⟩ rfl rfl
   exact congrArg some (vB_or_t hg)
  ·
   refine gl_val (ov_move (v := .bool false) (congrArg some (vB_false hg))) rfl rfl rfl (gl_on rfl rfl rfl (gv (ov_field_addr Tryz.underlying29 rfl Tryz.sizeOf27 rfl) rfl (gl_on rfl rfl rfl (gv (ov_load_var (.tail _ (.head _)) Tryz.isAgg27 rfl rfl) rfl (gl_on rfl rfl rfl (gv (ov_len_us Tryz.underlying27 rfl hnb) rfl (gl_on rfl rfl rfl (gv (ov_eql_i (q := 0) rfl rfl) rfl (gv (ov_pick_f rfl rfl) rfl (gl_nil ?_))))))))))
   refine gq_cut () trivial ⟨?_, rfl, rfl, rfl, trivial⟩ rfl rfl
   exact congrArg some (vB_or_f hg)
 ·
  intro _ _
  show GL _ _ _ _ _ _ _ [(20, vB (((↑(limbs qa.num.natAbs).length : Int) = (0 : Int)) ∨ ((↑(limbs qb.num.natAbs).length : Int) = (0 : Int)))), (2, vP b2 0), (3, vP b3 0), (4, vP b4 0)] [.var b4 29 [vB ((0 : Rat).num < 0), .slice none 0 0, .slice none 0 0], .var b3 29 [vB (qb.num < 0), vnb, vdb], .var b2 29 [vB (qa.num < 0), vna, vda]] h0
  refine gl_nil (gq_then ?_)
  refine gc_cond rfl (fun hc20 => ?_) (fun hc20 => ?_)
  ·
   refine gc_seq (gc_region (gv (ov_build_parts (ps' := []) (vs := [vB ((0 : Rat).num < 0), .slice none 0 0, .slice none 0 0]) Tryz.underlying29 info29 rfl (places29 Tryz.underlying29) trivial (by simp only [zb]; exact fill_nil)) rfl (gl_upd (A := []) (r' := .var b4 29 [vB ((0 : Rat).num < 0), .slice none 0 0, .slice none 0 0]) (upd_store_var (k := 0) (cs := [_, _, _]) (vs := [_, _, _]) rfl rfl rfl rfl size29 (Nat.le_of_ble_eq_true rfl)) rfl rfl rfl (gl_nil (gq_then (gc_ret (gr_then (gq_res (fun E S => run_res1 rfl (rv_agg (cs := [_, _, _]) (.head _) Tryz.underlying29 rfl size29 rfl) E S) ?_))))))))
   rcases hc20 with h | h
   · rw [num_zero h, show (0 : Rat).num.natAbs = 0 from rfl, Nat.zero_mul, mk_zero]; exact IsRat.zero _
   · rw [num_zero h, show (0 : Rat).num.natAbs = 0 from rfl, Nat.mul_zero, mk_zero]; exact IsRat.zero _
  ·
   refine gc_skip (gq_then (gc_seq (gc_seq (gc_region (gv (ov_load_agg (vs := [_, _, _]) (.tail _ (.tail _ (.head _))) Tryz.underlying29 rfl size29 rfl rfl) rfl ?_)))))
   refine gl_call (vs := [_]) rfl rfl rfl rfl Tryz.call100 ⟨rfl, trivial⟩ (fun w hs => rat_parts hs hna hda) ?_
   intro v24 h1 hh1 hr24
   subst hr24
   refine mv rfl rfl (gv (ov_extract (vs := [_, _, _]) rfl rfl) rfl (gv (ov_extract (vs := [_, _, _]) rfl rfl) rfl (gv (ov_extract (vs := [_, _, _]) rfl rfl) rfl (asg rfl rfl (asg rfl rfl (asg rfl rfl (gl_nil (gq_then (gc_seq (gc_region (mv rfl rfl (gl_nil (gq_then ?_)))))))))))))
   refine gc_cond rfl (fun hc28 => ?_) (fun hc28 => ?_)
   ·
    have hsa := hc28
    have hpa := smallQ_num hsa
    have hra := smallQ_den hsa
    refine gc_seq (gc_region (gv (ov_load_agg (vs := [_, _, _]) (.tail _ (.head _)) Tryz.underlying29 rfl size29 rfl rfl) rfl ?_))
    replace hnb := hnb.mono hh1
    replace hdb := hdb.mono hh1
    refine gl_call (vs := [_]) rfl rfl rfl rfl Tryz.call100 ⟨rfl, trivial⟩ (fun w hs => rat_parts hs hnb hdb) ?_
    intro v31 h2 hh2 hr31
    subst hr31
    refine mv rfl rfl (gv (ov_extract (vs := [_, _, _]) rfl rfl) rfl (gv (ov_extract (vs := [_, _, _]) rfl rfl) rfl (gv (ov_extract (vs := [_, _, _]) rfl rfl) rfl (asg rfl rfl (asg rfl rfl (asg rfl rfl (gl_nil (gq_keep (e' := [(2, _), (3, _), (4, _), (5, _), (6, _), (8, _), (9, _), (10, _)]) ⟨rfl, rfl, rfl, rfl, rfl, rfl, rfl, rfl, trivial⟩ (gq_then (gc_seq (gc_region (mv rfl rfl (gl_nil ?_)))))))))))))
    refine gq_then ?_
    refine gc_cond rfl (fun hc35 => ?_) (fun hc35 => ?_)
    ·
     have hsb := hc35
     have hpb := smallQ_num hsb
     have hrb := smallQ_den hsb
     have hm1 := small_mul hpa hrb
     have hm2 := small_mul hpb hra
     have hm3 := small_mul hra hrb
     have hm4 := small_mul hpa hpb
     have hm5 := small_mul hra hpb
     have hd0 : qa.den * qb.den ≠ 0 := Nat.mul_ne_zero qa.den_nz qb.den_nz
     simp only [pN_t hsa, pD_t hsa, pN_t hsb, pD_t hsb]
     refine gc_seq (gc_region (gv (ov_field_addr Tryz.underlying29 rfl Tryz.sizeOf4 rfl) rfl (gv (ov_load_var (.tail _ (.tail _ (.head _))) Tryz.isAgg4 rfl rfl) rfl (gv (ov_field_addr Tryz.underlying29 rfl Tryz.sizeOf4 rfl) rfl (gv (ov_load_var (.tail _ (.head _)) Tryz.isAgg4 rfl rfl) rfl (gv (ov_neq_b Tryz.underlying4 rfl rfl) rfl (mv rfl rfl (mv rfl rfl (gv (ov_mul_u (k := .u64) (W := 18446744073709551616) rfl rfl rfl rfl (by omega)) rfl (mv rfl rfl (mv rfl rfl (gv (ov_mul_u (k := .u64) (W := 18446744073709551616) rfl rfl rfl rfl (by omega)) rfl ?_))))))))))))
     refine gl_call (vs := [_, _, _]) rfl rfl rfl rfl Tryz.call111 ⟨rfl, rfl, rfl, trivial⟩ (fun w hs => rat_short hs (by omega) (by omega) (by omega)) ?_
     intro v47 h3 hh3 hr47
     obtain ⟨vn47, vd47, rfl, hn47, hd47⟩ := hr47
     refine gl_upd (A := []) (r' := .var b4 29 [vB ((mkRat (sg (¬ ((qa.num < 0) ↔ (qb.num < 0))) (qa.num.natAbs * qb.num.natAbs)) (qa.den * qb.den)).num < 0), vn47, vd47]) (upd_store_var (k := 0) (cs := [_, _, _]) (vs := [_, _, _]) rfl rfl rfl (ocr rfl (ocu hn47 (ocu hd47 oc0))) size29 (Nat.le_of_ble_eq_true rfl)) rfl rfl rfl (gl_nil (gq_keep (e' := [(4, _)]) ⟨rfl, trivial⟩ (gq_then (gc_ret (gr_then (gq_res (fun E S => run_res1 rfl (rv_agg (cs := [_, _, _]) (.head _) Tryz.underlying29 rfl size29 rfl) E S) ?_))))))
     exact ⟨_, _, rfl, hn47, hd47⟩
    ·
     refine gc_skip (gq_then (gc_seq ?_))
     refine gc_draw 16 _ [] [(0, .q), (1, .q), (2, .q), (3, .q), (4, .q), (5, .q), (6, .q), (7, .q), (8, .q), (10, .q), (12, .q), (9, .c), (11, .c), (13, .c), (14, .c), (15, .c), (16, .t)] mixed (fun x hx => by cases hx) (by kernel_rfl) (fun x hx => by cases hx) (fun r hr => hr) (w_q rfl (fun h' L' hh hR => ov_field_addr Tryz.underlying29 rfl Tryz.sizeOf4 rfl) rfl (w_q rfl (fun h' L' hh hR => ov_load_var (hR _ (.tail _ (.tail _ (.head _)))) Tryz.isAgg4 rfl rfl) rfl (w_q rfl (fun h' L' hh hR => ov_field_addr Tryz.underlying29 rfl Tryz.sizeOf4 rfl) rfl (w_q rfl (fun h' L' hh hR => ov_load_var (hR _ (.tail _ (.head _))) Tryz.isAgg4 rfl rfl) rfl (w_q rfl (fun h' L' hh hR => ov_neq_b Tryz.underlying4 rfl rfl) rfl (w_q rfl (fun h' L' hh hR => ov_field_addr Tryz.underlying29 rfl Tryz.sizeOf27 rfl) rfl (w_q rfl (fun h' L' hh hR => ov_load_var (hR _ (.tail _ (.tail _ (.head _)))) Tryz.isAgg27 rfl rfl) rfl (w_q rfl (fun h' L' hh hR => ov_field_addr Tryz.underlying29 rfl Tryz.sizeOf27 rfl) rfl (w_q rfl (fun h' L' hh hR => ov_load_var (hR _ (.tail _ (.head _))) Tryz.isAgg27 rfl rfl) rfl (w_q rfl (fun h' L' hh hR => ov_load_agg (vs := [_, _, _]) (hR _ (.tail _ (.tail _ (.head _)))) Tryz.underlying29 rfl size29 rfl rfl) rfl (w_q rfl (fun h' L' hh hR => ov_load_agg (vs := [_, _, _]) (hR _ (.tail _ (.head _))) Tryz.underlying29 rfl size29 rfl rfl) rfl ?_)))))))))))
     refine w_c rfl ?_
     replace hna := hna.mono (hh1.trans hh2)
     replace hnb := hnb.mono hh2
     refine s_call (vs := [_, _]) Tryz.call86 ⟨rfl, rfl, trivial⟩ (fun w hs => nat_mul hs hna hnb (by omega) (by omega)) rfl ?_
     intro v57 h3 hh3 hr57
     try simp only [val_limbs] at hr57
     have hlm57 := limbs_len_mul ((qa.num.natAbs)) ((qb.num.natAbs))
     refine w_c rfl ?_
     replace hna := hna.mono hh3
     replace hda := hda.mono ((hh1.trans hh2).trans hh3)
     refine s_call (vs := [_]) Tryz.call102 ⟨rfl, trivial⟩ (fun w hs => rat_den hs hna hda) rfl ?_
     intro v59 h4 hh4 hr59
     rw [denL_den] at hr59
     refine w_c rfl ?_
     replace hnb := hnb.mono (hh3.trans hh4)
     replace hdb := hdb.mono ((hh2.trans hh3).trans hh4)
     refine s_call (vs := [_]) Tryz.call102 ⟨rfl, trivial⟩ (fun w hs => rat_den hs hnb hdb) rfl ?_
     intro v61 h5 hh5 hr61
     rw [denL_den] at hr61
     refine w_c rfl ?_
     replace hr59 := hr59.mono hh5
     refine s_call (vs := [_, _]) Tryz.call86 ⟨rfl, rfl, trivial⟩ (fun w hs => nat_mul hs hr59 hr61 (by omega) (by omega)) rfl ?_
     intro v62 h6 hh6 hr62
     try simp only [val_limbs] at hr62
     have hlm62 := limbs_len_mul ((qa.den)) ((qb.den))
     refine w_c rfl ?_
     replace hr57 := hr57.mono ((hh4.trans hh5).trans hh6)
     refine s_call (vs := [_, _, _]) Tryz.call109 ⟨rfl, rfl, rfl, trivial⟩ (fun w hs => rat_reduce hs hr57 hr62 (by omega) (by omega)) rfl ?_
     intro v63 h7 hh7 hr63
     try simp only [val_limbs] at hr63
     obtain ⟨vn63, vd63, rfl, hn63, hd63⟩ := hr63
     refine w_t_upd (A := []) (q' := .var b4 29 [vB ((mkRat (sg (¬ ((qa.num < 0) ↔ (qb.num < 0))) (((((qa.num.natAbs)) * ((qb.num.natAbs)))))) (((((qa.den)) * ((qb.den)))))).num < 0), vn63, vd63]) rfl (upd_store_var (k := 0) (cs := [_, _, _]) (vs := [_, _, _]) rfl rfl rfl (ocr rfl (ocu hn63 (ocu hd63 oc0))) size29 (Nat.le_of_ble_eq_true rfl)) rfl (w_nil (gq_keep (e' := [(4, _)]) ⟨rfl, trivial⟩ (gq_then (gc_ret (gq_res (fun E S => run_res1 rfl (rv_agg (cs := [_, _, _]) (.head _) Tryz.underlying29 rfl size29 rfl) E S) ?_)))))
     exact ⟨_, _, rfl, hn63, hd63⟩
   ·
    refine gc_keep (e' := [(2, _), (3, _), (4, _)]) ⟨rfl, rfl, rfl, trivial⟩ (gc_skip (gq_then (gc_seq ?_)))
    refine gc_draw 16 _ [] [(0, .q), (1, .q), (2, .q), (3, .q), (4, .q), (5, .q), (6, .q), (7, .q), (8, .q), (10, .q), (12, .q), (9, .c), (11, .c), (13, .c), (14, .c), (15, .c), (16, .t)] mixed (fun x hx => by cases hx) (by kernel_rfl) (fun x hx => by cases hx) (fun r hr => hr) (w_q rfl (fun h' L' hh hR => ov_field_addr Tryz.underlying29 rfl Tryz.sizeOf4 rfl) rfl (w_q rfl (fun h' L' hh hR => ov_load_var (hR _ (.tail _ (.tail _ (.head _)))) Tryz.isAgg4 rfl rfl) rfl (w_q rfl (fun h' L' hh hR => ov_field_addr Tryz.underlying29 rfl Tryz.sizeOf4 rfl) rfl (w_q rfl (fun h' L' hh hR => ov_load_var (hR _ (.tail _ (.head _))) Tryz.isAgg4 rfl rfl) rfl (w_q rfl (fun h' L' hh hR => ov_neq_b Tryz.underlying4 rfl rfl) rfl (w_q rfl (fun h' L' hh hR => ov_field_addr Tryz.underlying29 rfl Tryz.sizeOf27 rfl) rfl (w_q rfl (fun h' L' hh hR => ov_load_var (hR _ (.tail _ (.tail _ (.head _)))) Tryz.isAgg27 rfl rfl) rfl (w_q rfl (fun h' L' hh hR => ov_field_addr Tryz.underlying29 rfl Tryz.sizeOf27 rfl) rfl (w_q rfl (fun h' L' hh hR => ov_load_var (hR _ (.tail _ (.head _))) Tryz.isAgg27 rfl rfl) rfl (w_q rfl (fun h' L' hh hR => ov_load_agg (vs := [_, _, _]) (hR _ (.tail _ (.tail _ (.head _)))) Tryz.underlying29 rfl size29 rfl rfl) rfl (w_q rfl (fun h' L' hh hR => ov_load_agg (vs := [_, _, _]) (hR _ (.tail _ (.head _))) Tryz.underlying29 rfl size29 rfl rfl) rfl ?_)))))))))))
    refine w_c rfl ?_
    replace hna := hna.mono hh1
    replace hnb := hnb.mono hh1
    refine s_call (vs := [_, _]) Tryz.call86 ⟨rfl, rfl, trivial⟩ (fun w hs => nat_mul hs hna hnb (by omega) (by omega)) rfl ?_
    intro v57 h2 hh2 hr57
    try simp only [val_limbs] at hr57
    have hlm57 := limbs_len_mul ((qa.num.natAbs)) ((qb.num.natAbs))
    refine w_c rfl ?_
    replace hna := hna.mono hh2
    replace hda := hda.mono (hh1.trans hh2)
    refine s_call (vs := [_]) Tryz.call102 ⟨rfl, trivial⟩ (fun w hs => rat_den hs hna hda) rfl ?_
    intro v59 h3 hh3 hr59
    rw [denL_den] at hr59
    refine w_c rfl ?_
    replace hnb := hnb.mono (hh2.trans hh3)
    replace hdb := hdb.mono ((hh1.trans hh2).trans hh3)
    refine s_call (vs := [_]) Tryz.call102 ⟨rfl, trivial⟩ (fun w hs => rat_den hs hnb hdb) rfl ?_
    intro v61 h4 hh4 hr61
    rw [denL_den] at hr61
    refine w_c rfl ?_
    replace hr59 := hr59.mono hh4
    refine s_call (vs := [_, _]) Tryz.call86 ⟨rfl, rfl, trivial⟩ (fun w hs => nat_mul hs hr59 hr61 (by omega) (by omega)) rfl ?_
    intro v62 h5 hh5 hr62
    try simp only [val_limbs] at hr62
    have hlm62 := limbs_len_mul ((qa.den)) ((qb.den))
    refine w_c rfl ?_
    replace hr57 := hr57.mono ((hh3.trans hh4).trans hh5)
    refine s_call (vs := [_, _, _]) Tryz.call109 ⟨rfl, rfl, rfl, trivial⟩ (fun w hs => rat_reduce hs hr57 hr62 (by omega) (by omega)) rfl ?_
    intro v63 h6 hh6 hr63
    try simp only [val_limbs] at hr63
    obtain ⟨vn63, vd63, rfl, hn63, hd63⟩ := hr63
    refine w_t_upd (A := []) (q' := .var b4 29 [vB ((mkRat (sg (¬ ((qa.num < 0) ↔ (qb.num < 0))) (((((qa.num.natAbs)) * ((qb.num.natAbs)))))) (((((qa.den)) * ((qb.den)))))).num < 0), vn63, vd63]) rfl (upd_store_var (k := 0) (cs := [_, _, _]) (vs := [_, _, _]) rfl rfl rfl (ocr rfl (ocu hn63 (ocu hd63 oc0))) size29 (Nat.le_of_ble_eq_true rfl)) rfl (w_nil (gq_keep (e' := [(4, _)]) ⟨rfl, trivial⟩ (gq_then (gc_ret (gq_res (fun E S => run_res1 rfl (rv_agg (cs := [_, _, _]) (.head _) Tryz.underlying29 rfl size29 rfl) E S) ?_)))))
    exact ⟨_, _, rfl, hn63, hd63⟩

theorem rat_quo {w0 : World} {h0 : Mem}  (hs : MLe h0 (mem w0)) {qa : Rat} {vna vda : Value} (hna : Us .u32 h0 vna (limbs qa.num.natAbs)) (hda : Us .u32 h0 vda (limbs (denN qa.den))) {qb : Rat} {vnb vdb : Value} (hnb : Us .u32 h0 vnb (limbs qb.num.natAbs)) (hdb : Us .u32 h0 vdb (limbs (denN qb.den))) (hqa : lq qa ≤ 100000000000) (hqb : lq qb ≤ 100000000000)  :
    Calls Tryz.prog 75 #[.agg #[vB (qa.num < 0), vna, vda], .agg #[vB (qb.num < 0), vnb, vdb]] w0 (Ret w0 h0 (fun h r => ∃ u, r = .tuple #[u, vI (if qb = 0 then 3 else 0)] ∧ IsRat h u (if qb = 0 then 0 else qa / qb))) := by
 have hlna := lq_num qa
 have hlda := lq_den qa
 have hlDa := lq_denL qa
 have hlnb := lq_num qb
 have hldb := lq_den qb
 have hlDb := lq_denL qb
 refine calls_begin (n := 58) (e := [(0, .agg #[vB (qa.num < 0), vna, vda]), (1, .agg #[vB (qb.num < 0), vnb, vdb])]) (vs := [.agg #[vB (qa.num < 0), vna, vda], .agg #[vB (qb.num < 0), vnb, vdb]]) Tryz.func75 rfl rfl (Nat.le_of_ble_eq_true rfl) hs ⟨rfl, rfl, trivial⟩ (gc_seq (gc_region (gl_newop (new_box (cs := [_, _, _]) rfl rfl) rfl rfl rfl ?_)))
 intro v2 r2 hr2
 obtain ⟨b2, rfl, rfl⟩ := hr2
 refine gl_newop (new_box (cs := [_, _, _]) rfl rfl) rfl rfl rfl ?_
 intro v3 r3 hr3
 obtain ⟨b3, rfl, rfl⟩ := hr3
 refine gl_newop (new_alloc (cs := [vB ((0 : Rat).num < 0), .slice none 0 0, .slice none 0 0]) info29 rfl (by simp only [zb]; rfl)) rfl rfl rfl ?_
 intro v4 r4 hr4
 obtain ⟨b4, rfl, rfl⟩ := hr4
 refine asg (v := vI (0)) rfl rfl (gl_nil (gq_then (gc_seq (gc_seq (gc_region (gv (ov_load_agg (vs := [_, _, _]) (.tail _ (.head _)) Tryz.underlying29 rfl size29 rfl rfl) rfl ?_))))))
 refine gl_call (vs := [_]) rfl rfl rfl rfl Tryz.call66 ⟨rfl, trivial⟩ (fun w hs => rat_sign hs hnb hdb (by omega)) ?_
 intro v13 h1 hh1 hr13
 have hsr13 := sgnQ_range qb
 subst hr13
 refine gv (ov_eql_i (q := 0) rfl rfl) rfl (gl_nil (gq_then ?_))
 refine gc_cond rfl (fun hc14 => ?_) (fun hc14 => ?_)
 ·
  have hb0 := sgn_zero.1 hc14
  rw [if_pos hb0, if_pos hb0]
  refine gc_seq (gc_region (gv (ov_build_parts (ps' := []) (vs := [vB ((0 : Rat).num < 0), .slice none 0 0, .slice none 0 0]) Tryz.underlying29 info29 rfl (places29 Tryz.underlying29) trivial (by simp only [zb]; exact fill_nil)) rfl (gl_upd (A := []) (r' := .var b4 29 [vB ((0 : Rat).num < 0), .slice none 0 0, .slice none 0 0]) (upd_store_var (k := 0) (cs := [_, _, _]) (vs := [_, _, _]) rfl rfl rfl rfl size29 (Nat.le_of_ble_eq_true rfl)) rfl rfl rfl (asg (v := vI (3)) rfl rfl (gl_nil (gq_then (gc_ret (gr_then (gq_res (fun E S => run_res2 rfl (rv_agg (cs := [_, _, _]) (.head _) Tryz.underlying29 rfl size29 rfl) (rv_tmp rfl) E S) ?_)))))))))
  exact ⟨_, rfl, IsRat.zero _⟩
 ·
  have hb0 : qb ≠ 0 := fun h => hc14 (sgn_zero.2 h)
  rw [if_neg hb0, if_neg hb0, ← quo_eq qa hb0]
  have hbn := num_ne.2 hb0
  refine gc_skip (gq_then (gc_seq (gc_seq (gc_region (gv (ov_load_agg (vs := [_, _, _]) (.tail _ (.tail _ (.head _))) Tryz.underlying29 rfl size29 rfl rfl) rfl ?_)))))
  replace hna := hna.mono hh1
  replace hda := hda.mono hh1
  refine gl_call (vs := [_]) rfl rfl rfl rfl Tryz.call100 ⟨rfl, trivial⟩ (fun w hs => rat_parts hs hna hda) ?_
  intro v18 h2 hh2 hr18
  subst hr18
  refine mv rfl rfl (gv (ov_extract (vs := [_, _, _]) rfl rfl) rfl (gv (ov_extract (vs := [_, _, _]) rfl rfl) rfl (gv (ov_extract (vs := [_, _, _]) rfl rfl) rfl (asg rfl rfl (asg rfl rfl (asg rfl rfl (gl_nil (gq_keep (e' := [(2, _), (3, _), (4, _), (6, _), (7, _), (8, _)]) ⟨rfl, rfl, rfl, rfl, rfl, rfl, trivial⟩ (gq_then (gc_seq (gc_region (mv rfl rfl (gl_nil ?_)))))))))))))
  refine gq_then ?_
  refine gc_cond rfl (fun hc22 => ?_) (fun hc22 => ?_)
  ·
   have hsa := hc22
   have hpa := smallQ_num hsa
   have hra := smallQ_den hsa
   refine gc_seq (gc_region (gv (ov_load_agg (vs := [_, _, _]) (.tail _ (.head _)) Tryz.underlying29 rfl size29 rfl rfl) rfl ?_))
   replace hnb := hnb.mono (hh1.trans hh2)
   replace hdb := hdb.mono (hh1.trans hh2)
   refine gl_call (vs := [_]) rfl rfl rfl rfl Tryz.call100 ⟨rfl, trivial⟩ (fun w hs => rat_parts hs hnb hdb) ?_
   intro v25 h3 hh3 hr25
   subst hr25
   refine mv rfl rfl (gv (ov_extract (vs := [_, _, _]) rfl rfl) rfl (gv (ov_extract (vs := [_, _, _]) rfl rfl) rfl (gv (ov_extract (vs := [_, _, _]) rfl rfl) rfl (asg rfl rfl (asg rfl rfl (asg rfl rfl (gl_nil (gq_then (gc_seq (gc_region (mv rfl rfl (gl_nil (gq_then ?_)))))))))))))
   refine gc_cond rfl (fun hc29 => ?_) (fun hc29 => ?_)
   ·
    have hsb := hc29
    have hpb := smallQ_num hsb
    have hrb := smallQ_den hsb
    have hm1 := small_mul hpa hrb
    have hm2 := small_mul hpb hra
    have hm3 := small_mul hra hrb
    have hm4 := small_mul hpa hpb
    have hm5 := small_mul hra hpb
    have hd0 : qa.den * qb.num.natAbs ≠ 0 := Nat.mul_ne_zero qa.den_nz hbn
    simp only [pN_t hsa, pD_t hsa, pN_t hsb, pD_t hsb]
    refine gc_keep (e' := [(2, _), (3, _), (4, _), (6, _), (7, _), (9, _), (10, _)]) ⟨rfl, rfl, rfl, rfl, rfl, rfl, rfl, trivial⟩ (gc_seq (gc_region (gv (ov_field_addr Tryz.underlying29 rfl Tryz.sizeOf4 rfl) rfl (gv (ov_load_var (.tail _ (.tail _ (.head _))) Tryz.isAgg4 rfl rfl) rfl (gv (ov_field_addr Tryz.underlying29 rfl Tryz.sizeOf4 rfl) rfl (gv (ov_load_var (.tail _ (.head _)) Tryz.isAgg4 rfl rfl) rfl (gv (ov_neq_b Tryz.underlying4 rfl rfl) rfl (mv rfl rfl (mv rfl rfl (gv (ov_mul_u (k := .u64) (W := 18446744073709551616) rfl rfl rfl rfl (by omega)) rfl (mv rfl rfl (mv rfl rfl (gv (ov_mul_u (k := .u64) (W := 18446744073709551616) rfl rfl rfl rfl (by omega)) rfl ?_)))))))))))))
    refine gl_call (vs := [_, _, _]) rfl rfl rfl rfl Tryz.call111 ⟨rfl, rfl, rfl, trivial⟩ (fun w hs => rat_short hs (by omega) (by omega) (by omega)) ?_
    intro v41 h4 hh4 hr41
    obtain ⟨vn41, vd41, rfl, hn41, hd41⟩ := hr41
    refine gl_upd (A := []) (r' := .var b4 29 [vB ((mkRat (sg (¬ ((qa.num < 0) ↔ (qb.num < 0))) (qa.num.natAbs * qb.den)) (qa.den * qb.num.natAbs)).num < 0), vn41, vd41]) (upd_store_var (k := 0) (cs := [_, _, _]) (vs := [_, _, _]) rfl rfl rfl (ocr rfl (ocu hn41 (ocu hd41 oc0))) size29 (Nat.le_of_ble_eq_true rfl)) rfl rfl rfl (asg (v := vI (0)) rfl rfl (gl_nil (gq_keep (e' := [(4, _), (5, _)]) ⟨rfl, rfl, trivial⟩ (gq_then (gc_ret (gr_then (gq_res (fun E S => run_res2 rfl (rv_agg (cs := [_, _, _]) (.head _) Tryz.underlying29 rfl size29 rfl) (rv_tmp rfl) E S) ?_)))))))
    exact ⟨_, rfl, _, _, rfl, hn41, hd41⟩
   ·
    refine gc_keep (e' := [(2, _), (3, _), (4, _)]) ⟨rfl, rfl, rfl, trivial⟩ (gc_skip (gq_then (gc_seq ?_)))
    refine gc_draw 16 _ [] [(0, .q), (1, .q), (2, .q), (3, .q), (4, .q), (5, .q), (6, .q), (7, .q), (10, .q), (12, .q), (13, .q), (8, .c), (9, .c), (11, .c), (14, .c), (15, .c), (16, .t), (17, .t)] mixed (fun x hx => by cases hx) (by kernel_rfl) (fun x hx => by cases hx) (fun r hr => hr) (w_q rfl (fun h' L' hh hR => ov_field_addr Tryz.underlying29 rfl Tryz.sizeOf4 rfl) rfl (w_q rfl (fun h' L' hh hR => ov_load_var (hR _ (.tail _ (.tail _ (.head _)))) Tryz.isAgg4 rfl rfl) rfl (w_q rfl (fun h' L' hh hR => ov_field_addr Tryz.underlying29 rfl Tryz.sizeOf4 rfl) rfl (w_q rfl (fun h' L' hh hR => ov_load_var (hR _ (.tail _ (.head _))) Tryz.isAgg4 rfl rfl) rfl (w_q rfl (fun h' L' hh hR => ov_neq_b Tryz.underlying4 rfl rfl) rfl (w_q rfl (fun h' L' hh hR => ov_field_addr Tryz.underlying29 rfl Tryz.sizeOf27 rfl) rfl (w_q rfl (fun h' L' hh hR => ov_load_var (hR _ (.tail _ (.tail _ (.head _)))) Tryz.isAgg27 rfl rfl) rfl (w_q rfl (fun h' L' hh hR => ov_load_agg (vs := [_, _, _]) (hR _ (.tail _ (.head _))) Tryz.underlying29 rfl size29 rfl rfl) rfl (w_q rfl (fun h' L' hh hR => ov_load_agg (vs := [_, _, _]) (hR _ (.tail _ (.tail _ (.head _)))) Tryz.underlying29 rfl size29 rfl rfl) rfl (w_q rfl (fun h' L' hh hR => ov_field_addr Tryz.underlying29 rfl Tryz.sizeOf27 rfl) rfl (w_q rfl (fun h' L' hh hR => ov_load_var (hR _ (.tail _ (.head _))) Tryz.isAgg27 rfl rfl) rfl ?_)))))))))))
    refine w_c rfl ?_
    replace hnb := hnb.mono hh3
    replace hdb := hdb.mono hh3
    refine s_call (vs := [_]) Tryz.call102 ⟨rfl, trivial⟩ (fun w hs => rat_den hs hnb hdb) rfl ?_
    intro v50 h4 hh4 hr50
    rw [denL_den] at hr50
    refine w_c rfl ?_
    replace hna := hna.mono ((hh2.trans hh3).trans hh4)
    refine s_call (vs := [_, _]) Tryz.call86 ⟨rfl, rfl, trivial⟩ (fun w hs => nat_mul hs hna hr50 (by omega) (by omega)) rfl ?_
    intro v51 h5 hh5 hr51
    try simp only [val_limbs] at hr51
    have hlm51 := limbs_len_mul ((qa.num.natAbs)) ((qb.den))
    refine w_c rfl ?_
    replace hna := hna.mono hh5
    replace hda := hda.mono (((hh2.trans hh3).trans hh4).trans hh5)
    refine s_call (vs := [_]) Tryz.call102 ⟨rfl, trivial⟩ (fun w hs => rat_den hs hna hda) rfl ?_
    intro v53 h6 hh6 hr53
    rw [denL_den] at hr53
    refine w_c rfl ?_
    replace hnb := hnb.mono ((hh4.trans hh5).trans hh6)
    refine s_call (vs := [_, _]) Tryz.call86 ⟨rfl, rfl, trivial⟩ (fun w hs => nat_mul hs hr53 hnb (by omega) (by omega)) rfl ?_
    intro v56 h7 hh7 hr56
    try simp only [val_limbs] at hr56
    have hlm56 := limbs_len_mul ((qa.den)) ((qb.num.natAbs))
    refine w_c rfl ?_
    replace hr51 := hr51.mono (hh6.trans hh7)
    refine s_call (vs := [_, _, _]) Tryz.call109 ⟨rfl, rfl, rfl, trivial⟩ (fun w hs => rat_reduce hs hr51 hr56 (by omega) (by omega)) rfl ?_
    intro v57 h8 hh8 hr57
    try simp only [val_limbs] at hr57
    obtain ⟨vn57, vd57, rfl, hn57, hd57⟩ := hr57
    refine w_t_upd (A := []) (q' := .var b4 29 [vB ((mkRat (sg (¬ ((qa.num < 0) ↔ (qb.num < 0))) (((((qa.num.natAbs)) * ((qb.den)))))) (((((qa.den)) * ((qb.num.natAbs)))))).num < 0), vn57, vd57]) rfl (upd_store_var (k := 0) (cs := [_, _, _]) (vs := [_, _, _]) rfl rfl rfl (ocr rfl (ocu hn57 (ocu hd57 oc0))) size29 (Nat.le_of_ble_eq_true rfl)) rfl (w_t_val rfl (ov_assign (v := vI (0)) rfl) rfl (w_nil (gq_keep (e' := [(4, _), (5, _)]) ⟨rfl, rfl, trivial⟩ (gq_then (gc_ret (gq_res (fun E S => run_res2 rfl (rv_agg (cs := [_, _, _]) (.head _) Tryz.underlying29 rfl size29 rfl) (rv_tmp rfl) E S) ?_))))))
    exact ⟨_, rfl, _, _, rfl, hn57, hd57⟩
  ·
   refine gc_skip (gq_then (gc_seq ?_))
   refine gc_draw 16 _ [] [(0, .q), (1, .q), (2, .q), (3, .q), (4, .q), (5, .q), (6, .q), (7, .q), (10, .q), (12, .q), (13, .q), (8, .c), (9, .c), (11, .c), (14, .c), (15, .c), (16, .t), (17, .t)] mixed (fun x hx => by cases hx) (by kernel_rfl) (fun x hx => by cases hx) (fun r hr => hr) (w_q rfl (fun h' L' hh hR => ov_field_addr Tryz.underlying29 rfl Tryz.sizeOf4 rfl) rfl (w_q rfl (fun h' L' hh hR => ov_load_var (hR _ (.tail _ (.tail _ (.head _)))) Tryz.isAgg4 rfl rfl) rfl (w_q rfl (fun h' L' hh hR => ov_field_addr Tryz.underlying29 rfl Tryz.sizeOf4 rfl) rfl (w_q rfl (fun h' L' hh hR => ov_load_var (hR _ (.tail _ (.head _))) Tryz.isAgg4 rfl rfl) rfl (w_q rfl (fun h' L' hh hR => ov_neq_b Tryz.underlying4 rfl rfl) rfl (w_q rfl (fun h' L' hh hR => ov_field_addr Tryz.underlying29 rfl Tryz.sizeOf27 rfl) rfl (w_q rfl (fun h' L' hh hR => ov_load_var (hR _ (.tail _ (.tail _ (.head _)))) Tryz.isAgg27 rfl rfl) rfl (w_q rfl (fun h' L' hh hR => ov_load_agg (vs := [_, _, _]) (hR _ (.tail _ (.head _))) Tryz.underlying29 rfl size29 rfl rfl) rfl (w_q rfl (fun h' L' hh hR => ov_load_agg (vs := [_, _, _]) (hR _ (.tail _ (.tail _ (.head _)))) Tryz.underlying29 rfl size29 rfl rfl) rfl (w_q rfl (fun h' L' hh hR => ov_field_addr Tryz.underlying29 rfl Tryz.sizeOf27 rfl) rfl (w_q rfl (fun h' L' hh hR => ov_load_var (hR _ (.tail _ (.head _))) Tryz.isAgg27 rfl rfl) rfl ?_)))))))))))
   refine w_c rfl ?_
   replace hnb := hnb.mono (hh1.trans hh2)
   replace hdb := hdb.mono (hh1.trans hh2)
   refine s_call (vs := [_]) Tryz.call102 ⟨rfl, trivial⟩ (fun w hs => rat_den hs hnb hdb) rfl ?_
   intro v50 h3 hh3 hr50
   rw [denL_den] at hr50
   refine w_c rfl ?_
   replace hna := hna.mono (hh2.trans hh3)
   refine s_call (vs := [_, _]) Tryz.call86 ⟨rfl, rfl, trivial⟩ (fun w hs => nat_mul hs hna hr50 (by omega) (by omega)) rfl ?_
   intro v51 h4 hh4 hr51
   try simp only [val_limbs] at hr51
   have hlm51 := limbs_len_mul ((qa.num.natAbs)) ((qb.den))
   refine w_c rfl ?_
   replace hna := hna.mono hh4
   replace hda := hda.mono ((hh2.trans hh3).trans hh4)
   refine s_call (vs := [_]) Tryz.call102 ⟨rfl, trivial⟩ (fun w hs => rat_den hs hna hda) rfl ?_
   intro v53 h5 hh5 hr53
   rw [denL_den] at hr53
   refine w_c rfl ?_
   replace hnb := hnb.mono ((hh3.trans hh4).trans hh5)
   refine s_call (vs := [_, _]) Tryz.call86 ⟨rfl, rfl, trivial⟩ (fun w hs => nat_mul hs hr53 hnb (by omega) (by omega)) rfl ?_
   intro v56 h6 hh6 hr56
   try simp only [val_limbs] at hr56
   have hlm56 := limbs_len_mul ((qa.den)) ((qb.num.natAbs))
   refine w_c rfl ?_
   replace hr51 := hr51.mono (hh5.trans hh6)
   refine s_call (vs := [_, _, _]) Tryz.call109 ⟨rfl, rfl, rfl, trivial⟩ (fun w hs => rat_reduce hs hr51 hr56 (by omega) (by omega)) rfl ?_
   intro v57 h7 hh7 hr57
   try simp only [val_limbs] at hr57
   obtain ⟨vn57, vd57, rfl, hn57, hd57⟩ := hr57
   refine w_t_upd (A := []) (q' := .var b4 29 [vB ((mkRat (sg (¬ ((qa.num < 0) ↔ (qb.num < 0))) (((((qa.num.natAbs)) * ((qb.den)))))) (((((qa.den)) * ((qb.num.natAbs)))))).num < 0), vn57, vd57]) rfl (upd_store_var (k := 0) (cs := [_, _, _]) (vs := [_, _, _]) rfl rfl rfl (ocr rfl (ocu hn57 (ocu hd57 oc0))) size29 (Nat.le_of_ble_eq_true rfl)) rfl (w_t_val rfl (ov_assign (v := vI (0)) rfl) rfl (w_nil (gq_keep (e' := [(4, _), (5, _)]) ⟨rfl, rfl, trivial⟩ (gq_then (gc_ret (gq_res (fun E S => run_res2 rfl (rv_agg (cs := [_, _, _]) (.head _) Tryz.underlying29 rfl size29 rfl) (rv_tmp rfl) E S) ?_))))))
   exact ⟨_, rfl, _, _, rfl, hn57, hd57⟩

theorem rat_addn {w0 : World} {h0 : Mem}  (hs : MLe h0 (mem w0)) {qa : Rat} {vna vda : Value} (hna : Us .u32 h0 vna (limbs qa.num.natAbs)) (hda : Us .u32 h0 vda (limbs (denN qa.den))) {qb : Rat} {vnb vdb : Value} (hnb : Us .u32 h0 vnb (limbs qb.num.natAbs)) (hdb : Us .u32 h0 vdb (limbs (denN qb.den))) (hqa : lq qa ≤ 100000000000) (hqb : lq qb ≤ 100000000000) {s : Prop} :
    Calls Tryz.prog 107 #[.agg #[vB (qa.num < 0), vna, vda], .agg #[vB (qb.num < 0), vnb, vdb], vB s] w0 (Ret w0 h0 (fun h r => IsRat h r (qa + sgd s qb))) := by
 have hlna := lq_num qa
 have hlda := lq_den qa
 have hlDa := lq_denL qa
 have hlnb := lq_num qb
 have hldb := lq_den qb
 have hlDb := lq_denL qb
 refine calls_begin (n := 152) (e := [(0, .agg #[vB (qa.num < 0), vna, vda]), (1, .agg #[vB (qb.num < 0), vnb, vdb]), (2, vB s)]) (vs := [.agg #[vB (qa.num < 0), vna, vda], .agg #[vB (qb.num < 0), vnb, vdb], vB s]) Tryz.func107 rfl rfl (Nat.le_of_ble_eq_true rfl) hs ⟨rfl, rfl, rfl, trivial⟩ (gc_seq (gc_region (gl_newop (new_box (cs := [_, _, _]) rfl rfl) rfl rfl rfl ?_)))
 intro v3 r3 hr3
 obtain ⟨b3, rfl, rfl⟩ := hr3
 refine gl_newop (new_box (cs := [_, _, _]) rfl rfl) rfl rfl rfl ?_
 intro v4 r4 hr4
 obtain ⟨b4, rfl, rfl⟩ := hr4
 refine gl_newop (new_alloc (cs := [vB ((0 : Rat).num < 0), .slice none 0 0, .slice none 0 0]) info29 rfl (by simp only [zb]; rfl)) rfl rfl rfl ?_
 intro v6 r6 hr6
 obtain ⟨b6, rfl, rfl⟩ := hr6
 refine gl_nil (gq_then ?_)
 refine gc_cut (ι := Mem) (fun (mc : (Mem)) => MLe h0 mc ∧ (True)) (fun (mc : (Mem)) => [(2, vB s), (3, vP b3 0), (4, vP b4 0), (6, vP b6 0)]) (fun (mc : (Mem)) => [.var b6 29 [vB ((0 : Rat).num < 0), .slice none 0 0, .slice none 0 0], .var b4 29 [vB (qb.num < 0), vnb, vdb], .var b3 29 [vB (qa.num < 0), vna, vda]]) (fun (mc : (Mem)) => mc) ?_ ?_
 ·
  refine gc_seq (gc_region (gv (ov_load_agg (vs := [_, _, _]) (.tail _ (.tail _ (.head _))) Tryz.underlying29 rfl size29 rfl rfl) rfl ?_))
  refine gl_call (vs := [_]) rfl rfl rfl rfl Tryz.call100 ⟨rfl, trivial⟩ (fun w hs => rat_parts hs hna hda) ?_
  intro v24 h1 hh1 hr24
  subst hr24
  refine mv rfl rfl (gv (ov_extract (vs := [_, _, _]) rfl rfl) rfl (gv (ov_extract (vs := [_, _, _]) rfl rfl) rfl (gv (ov_extract (vs := [_, _, _]) rfl rfl) rfl (asg rfl rfl (asg rfl rfl (asg rfl rfl (gl_nil (gq_then (gc_seq (gc_region (mv rfl rfl (gl_nil (gq_then ?_)))))))))))))
  refine gc_cond rfl (fun hc28 => ?_) (fun hc28 => ?_)
  ·
   have hsa := hc28
   have hpa := smallQ_num hsa
   have hra := smallQ_den hsa
   refine gc_keep (e' := [(2, _), (3, _), (4, _), (6, _), (7, _), (8, _)]) ⟨rfl, rfl, rfl, rfl, rfl, rfl, trivial⟩ (gc_seq (gc_region (gv (ov_load_agg (vs := [_, _, _]) (.tail _ (.head _)) Tryz.underlying29 rfl size29 rfl rfl) rfl ?_)))
   replace hnb := hnb.mono hh1
   replace hdb := hdb.mono hh1
   refine gl_call (vs := [_]) rfl rfl rfl rfl Tryz.call100 ⟨rfl, trivial⟩ (fun w hs => rat_parts hs hnb hdb) ?_
   intro v31 h2 hh2 hr31
   subst hr31
   refine mv rfl rfl (gv (ov_extract (vs := [_, _, _]) rfl rfl) rfl (gv (ov_extract (vs := [_, _, _]) rfl rfl) rfl (gv (ov_extract (vs := [_, _, _]) rfl rfl) rfl (asg rfl rfl (asg rfl rfl (asg rfl rfl (gl_nil (gq_then (gc_seq (gc_region (mv rfl rfl (gl_nil (gq_then ?_)))))))))))))
   refine gc_cond rfl (fun hc35 => ?_) (fun hc35 => ?_)
   ·
    have hsb := hc35
    have hpb := smallQ_num hsb
    have hrb := smallQ_den hsb
    have hm1 := small_mul hpa hrb
    have hm2 := small_mul hpb hra
    have hm3 := small_mul hra hrb
    have hm4 := small_mul hpa hpb
    have hm5 := small_mul hra hpb
    have hd0 : qa.den * qb.den ≠ 0 := Nat.mul_ne_zero qa.den_nz qb.den_nz
    simp only [pN_t hsa, pD_t hsa, pN_t hsb, pD_t hsb]
    refine gc_seq (gc_region (mv rfl rfl (mv rfl rfl (gv (ov_mul_u (k := .u64) (W := 18446744073709551616) rfl rfl rfl rfl (by omega)) rfl (mv rfl rfl (mv rfl rfl (gv (ov_mul_u (k := .u64) (W := 18446744073709551616) rfl rfl rfl rfl (by omega)) rfl (asg rfl rfl (asg rfl rfl (gl_nil (gq_keep (e' := [(2, _), (3, _), (4, _), (6, _), (8, _), (11, _), (7, _), (10, _)]) ⟨rfl, rfl, rfl, rfl, rfl, rfl, rfl, rfl, trivial⟩ (gq_then (gc_seq ?_)))))))))))))
    refine gc_region (mv rfl rfl (mv rfl rfl (gv (ov_callx (vs := [_, _, vU .u64 0]) (add64 _ _) ⟨rfl, rfl, rfl, trivial⟩) rfl (mv rfl rfl (gv (ov_extract (vs := [_, _]) rfl rfl) rfl (gv (ov_extract (vs := [_, _]) rfl rfl) rfl (asg rfl rfl (asg rfl rfl (gl_nil (gq_then (gc_block (gc_seq (gc_region ?_)))))))))))))
    refine gv (ov_field_addr Tryz.underlying29 rfl Tryz.sizeOf4 rfl) rfl (gv (ov_load_var (.tail _ (.tail _ (.head _))) Tryz.isAgg4 rfl rfl) rfl (mv rfl rfl (gv (ov_eql_b Tryz.underlying4 rfl rfl) rfl ?_)))
    refine gl_cut (ι := Unit) 4 (fun _ => True) (fun _ => [(56, vB (((qa.num < 0) ↔ (s)) ∧ ((((qa.num.natAbs * qb.den) + (qb.num.natAbs * qa.den)) / 18446744073709551616) = (0 : Nat)))), (2, vB s), (3, vP b3 0), (4, vP b4 0), (6, vP b6 0), (8, vU .u64 qa.den), (11, vU .u64 qb.den), (7, vU .u64 (qa.num.natAbs * qb.den)), (10, vU .u64 (qb.num.natAbs * qa.den)), (13, vU .u64 (((qa.num.natAbs * qb.den) + (qb.num.natAbs * qa.den)) % 18446744073709551616))]) (fun _ => [.var b6 29 [vB ((0 : Rat).num < 0), .slice none 0 0, .slice none 0 0], .var b4 29 [vB (qb.num < 0), vnb, vdb], .var b3 29 [vB (qa.num < 0), vna, vda]]) (fun _ => h2) ?_ ?_
    ·
     refine gl_cases ((qa.num < 0) ↔ (s)) (fun hg => ?_) (fun hg => ?_)
     ·
      refine gl_val (ov_move (v := .bool true) (congrArg some (vB_true hg))) rfl rfl rfl (gl_on rfl rfl rfl (mv rfl rfl (gl_on rfl rfl rfl (gv (ov_eql_u (k := .u64) (q := 0) rfl rfl) rfl (gv (ov_pick_t rfl rfl) rfl (gl_nil ?_))))))
      refine gq_cut () trivial ⟨?_, rfl, rfl, rfl, rfl, rfl, rfl, rfl, rfl, rfl, trivial⟩ rfl rfl
      exact congrArg some (vB_and_t hg)
     ·
      refine gl_val (ov_move (v := .bool false) (congrArg some (vB_false hg))) rfl rfl rfl (gl_off rfl rfl rfl rfl rfl rfl (gl_off rfl rfl rfl rfl rfl rfl (gv (ov_pick_f rfl rfl) rfl (gl_nil ?_))))
      refine gq_cut () trivial ⟨?_, rfl, rfl, rfl, rfl, rfl, rfl, rfl, rfl, rfl, trivial⟩ rfl rfl
      exact congrArg some (vB_and_f hg)
    ·
     intro _ _
     show GL _ _ _ _ _ _ _ [(56, vB (((qa.num < 0) ↔ (s)) ∧ ((((qa.num.natAbs * qb.den) + (qb.num.natAbs * qa.den)) / 18446744073709551616) = (0 : Nat)))), (2, vB s), (3, vP b3 0), (4, vP b4 0), (6, vP b6 0), (8, vU .u64 qa.den), (11, vU .u64 qb.den), (7, vU .u64 (qa.num.natAbs * qb.den)), (10, vU .u64 (qb.num.natAbs * qa.den)), (13, vU .u64 (((qa.num.natAbs * qb.den) + (qb.num.natAbs * qa.den)) % 18446744073709551616))] [.var b6 29 [vB ((0 : Rat).num < 0), .slice none 0 0, .slice none 0 0], .var b4 29 [vB (qb.num < 0), vnb, vdb], .var b3 29 [vB (qa.num < 0), vna, vda]] h2
     refine asg rfl rfl (gl_nil (gq_then ?_))
     refine gc_cond rfl (fun hc48 => ?_) (fun hc48 => ?_)
     ·
      obtain ⟨hss, hcy⟩ := hc48
      refine gc_seq (gc_region (mv rfl rfl (mv rfl rfl (mv rfl rfl (mv rfl rfl (gv (ov_mul_u (k := .u64) (W := 18446744073709551616) rfl rfl rfl rfl (by omega)) rfl ?_))))))
      refine gl_call (vs := [_, _, _]) rfl rfl rfl rfl Tryz.call111 ⟨rfl, rfl, rfl, trivial⟩ (fun w hs => rat_short hs (by omega) (by omega) (by omega)) ?_
      intro v62 h3 hh3 hr62
      obtain ⟨vn62, vd62, rfl, hn62, hd62⟩ := hr62
      refine gl_upd (A := []) (r' := .var b6 29 [vB ((mkRat (sg (s) (((qa.num.natAbs * qb.den) + (qb.num.natAbs * qa.den)) % 18446744073709551616)) (qa.den * qb.den)).num < 0), vn62, vd62]) (upd_store_var (k := 0) (cs := [_, _, _]) (vs := [_, _, _]) rfl rfl rfl (ocr rfl (ocu hn62 (ocu hd62 oc0))) size29 (Nat.le_of_ble_eq_true rfl)) rfl rfl rfl (gl_nil (gq_keep (e' := [(6, _)]) ⟨rfl, trivial⟩ (gq_then (gc_ret (gr_in (gr_then (gq_res (fun E S => run_res1 rfl (rv_agg (cs := [_, _, _]) (.head _) Tryz.underlying29 rfl size29 rfl) E S) ?_)))))))
      have e := Nat.mod_eq_of_lt (a := qa.num.natAbs * qb.den + qb.num.natAbs * qa.den) (b := 18446744073709551616) (by omega)
      rw [e] at hn62 hd62 ⊢
      rw [add_sgd hss]
      exact ⟨_, _, rfl, hn62, hd62⟩
     ·
      refine gc_seq (gc_region (gv (ov_field_addr Tryz.underlying29 rfl Tryz.sizeOf4 rfl) rfl (gv (ov_load_var (.tail _ (.tail _ (.head _))) Tryz.isAgg4 rfl rfl) rfl (mv rfl rfl (gv (ov_neq_b Tryz.underlying4 rfl rfl) rfl ?_)))))
      refine gl_cut (ι := Unit) 5 (fun _ => True) (fun _ => [(72, vB ((¬ ((qa.num < 0) ↔ (s))) ∧ ((qb.num.natAbs * qa.den) ≤ (qa.num.natAbs * qb.den)))), (2, vB s), (3, vP b3 0), (4, vP b4 0), (6, vP b6 0), (8, vU .u64 qa.den), (11, vU .u64 qb.den), (7, vU .u64 (qa.num.natAbs * qb.den)), (10, vU .u64 (qb.num.natAbs * qa.den))]) (fun _ => [.var b6 29 [vB ((0 : Rat).num < 0), .slice none 0 0, .slice none 0 0], .var b4 29 [vB (qb.num < 0), vnb, vdb], .var b3 29 [vB (qa.num < 0), vna, vda]]) (fun _ => h2) ?_ ?_
      ·
       refine gl_cases (¬ ((qa.num < 0) ↔ (s))) (fun hg => ?_) (fun hg => ?_)
       ·
        refine gl_val (ov_move (v := .bool true) (congrArg some (vB_true hg))) rfl rfl rfl (gl_on rfl rfl rfl (mv rfl rfl (gl_on rfl rfl rfl (mv rfl rfl (gl_on rfl rfl rfl (gv (ov_geq_u (k := .u64) rfl rfl) rfl (gv (ov_pick_t rfl rfl) rfl (gl_nil ?_))))))))
        refine gq_cut () trivial ⟨?_, rfl, rfl, rfl, rfl, rfl, rfl, rfl, rfl, trivial⟩ rfl rfl
        exact congrArg some (vB_and_t hg)
       ·
        refine gl_val (ov_move (v := .bool false) (congrArg some (vB_false hg))) rfl rfl rfl (gl_off rfl rfl rfl rfl rfl rfl (gl_off rfl rfl rfl rfl rfl rfl (gl_off rfl rfl rfl rfl rfl rfl (gv (ov_pick_f rfl rfl) rfl (gl_nil ?_)))))
        refine gq_cut () trivial ⟨?_, rfl, rfl, rfl, rfl, rfl, rfl, rfl, rfl, trivial⟩ rfl rfl
        exact congrArg some (vB_and_f hg)
      ·
       intro _ _
       show GL _ _ _ _ _ _ _ [(72, vB ((¬ ((qa.num < 0) ↔ (s))) ∧ ((qb.num.natAbs * qa.den) ≤ (qa.num.natAbs * qb.den)))), (2, vB s), (3, vP b3 0), (4, vP b4 0), (6, vP b6 0), (8, vU .u64 qa.den), (11, vU .u64 qb.den), (7, vU .u64 (qa.num.natAbs * qb.den)), (10, vU .u64 (qb.num.natAbs * qa.den))] [.var b6 29 [vB ((0 : Rat).num < 0), .slice none 0 0, .slice none 0 0], .var b4 29 [vB (qb.num < 0), vnb, vdb], .var b3 29 [vB (qa.num < 0), vna, vda]] h2
       refine asg rfl rfl (gl_nil (gq_then ?_))
       refine gc_cond rfl (fun hc63 => ?_) (fun hc63 => ?_)
       ·
        obtain ⟨hss, hge⟩ := hc63
        refine gc_seq (gc_region (gv (ov_field_addr Tryz.underlying29 rfl Tryz.sizeOf4 rfl) rfl (gv (ov_load_var (.tail _ (.tail _ (.head _))) Tryz.isAgg4 rfl rfl) rfl (mv rfl rfl (mv rfl rfl (gv (ov_sub_u (k := .u64) (W := 18446744073709551616) rfl rfl rfl rfl (by omega) (by omega)) rfl (mv rfl rfl (mv rfl rfl (gv (ov_mul_u (k := .u64) (W := 18446744073709551616) rfl rfl rfl rfl (by omega)) rfl ?_)))))))))
        refine gl_call (vs := [_, _, _]) rfl rfl rfl rfl Tryz.call111 ⟨rfl, rfl, rfl, trivial⟩ (fun w hs => rat_short hs (by omega) (by omega) (by omega)) ?_
        intro v81 h3 hh3 hr81
        obtain ⟨vn81, vd81, rfl, hn81, hd81⟩ := hr81
        refine gl_upd (A := []) (r' := .var b6 29 [vB ((mkRat (sg (qa.num < 0) ((qa.num.natAbs * qb.den) - (qb.num.natAbs * qa.den))) (qa.den * qb.den)).num < 0), vn81, vd81]) (upd_store_var (k := 0) (cs := [_, _, _]) (vs := [_, _, _]) rfl rfl rfl (ocr rfl (ocu hn81 (ocu hd81 oc0))) size29 (Nat.le_of_ble_eq_true rfl)) rfl rfl rfl (gl_nil (gq_keep (e' := [(6, _)]) ⟨rfl, trivial⟩ (gq_then (gc_ret (gr_in (gr_then (gq_res (fun E S => run_res1 rfl (rv_agg (cs := [_, _, _]) (.head _) Tryz.underlying29 rfl size29 rfl) E S) ?_)))))))
        rw [sub_sgd hss hge]
        exact ⟨_, _, rfl, hn81, hd81⟩
       ·
        refine gc_seq (gc_region (gv (ov_field_addr Tryz.underlying29 rfl Tryz.sizeOf4 rfl) rfl (gv (ov_load_var (.tail _ (.tail _ (.head _))) Tryz.isAgg4 rfl rfl) rfl (mv rfl rfl (gv (ov_neq_b Tryz.underlying4 rfl rfl) rfl (asg rfl rfl (gl_nil (gq_then ?_))))))))
        refine gc_cond rfl (fun hc82 => ?_) (fun hc82 => ?_)
        ·
         have hlt : ¬ qb.num.natAbs * qa.den ≤ qa.num.natAbs * qb.den := fun h => hc63 ⟨hc82, h⟩
         refine gc_seq (gc_region (mv rfl rfl (mv rfl rfl (mv rfl rfl (gv (ov_sub_u (k := .u64) (W := 18446744073709551616) rfl rfl rfl rfl (by omega) (by omega)) rfl (mv rfl rfl (mv rfl rfl (gv (ov_mul_u (k := .u64) (W := 18446744073709551616) rfl rfl rfl rfl (by omega)) rfl ?_))))))))
         refine gl_call (vs := [_, _, _]) rfl rfl rfl rfl Tryz.call111 ⟨rfl, rfl, rfl, trivial⟩ (fun w hs => rat_short hs (by omega) (by omega) (by omega)) ?_
         intro v94 h3 hh3 hr94
         obtain ⟨vn94, vd94, rfl, hn94, hd94⟩ := hr94
         refine gl_upd (A := []) (r' := .var b6 29 [vB ((mkRat (sg (s) ((qb.num.natAbs * qa.den) - (qa.num.natAbs * qb.den))) (qa.den * qb.den)).num < 0), vn94, vd94]) (upd_store_var (k := 0) (cs := [_, _, _]) (vs := [_, _, _]) rfl rfl rfl (ocr rfl (ocu hn94 (ocu hd94 oc0))) size29 (Nat.le_of_ble_eq_true rfl)) rfl rfl rfl (gl_nil (gq_keep (e' := [(6, _)]) ⟨rfl, trivial⟩ (gq_then (gc_ret (gr_in (gr_then (gq_res (fun E S => run_res1 rfl (rv_agg (cs := [_, _, _]) (.head _) Tryz.underlying29 rfl size29 rfl) E S) ?_)))))))
         rw [sub_sgd' hc82 (by omega)]
         exact ⟨_, _, rfl, hn94, hd94⟩
        ·
         refine gc_keep (e' := [(2, _), (3, _), (4, _), (6, _)]) ⟨rfl, rfl, rfl, rfl, trivial⟩ (gc_skip (gq_in ?_))
         refine gq_cut (h2) ?_ ⟨?_, ?_, ?_, ?_, trivial⟩ ?_ rfl
         ·
          refine ⟨(hh1.trans hh2), ?_⟩
          trivial
         · exact rfl
         · exact rfl
         · exact rfl
         · exact rfl
         · exact rfl
   ·
    refine gc_keep (e' := [(2, _), (3, _), (4, _), (6, _)]) ⟨rfl, rfl, rfl, rfl, trivial⟩ (gc_skip ?_)
    refine gq_cut (h2) ?_ ⟨?_, ?_, ?_, ?_, trivial⟩ ?_ rfl
    ·
     refine ⟨(hh1.trans hh2), ?_⟩
     trivial
    · exact rfl
    · exact rfl
    · exact rfl
    · exact rfl
    · exact rfl
  ·
   refine gc_keep (e' := [(2, _), (3, _), (4, _), (6, _)]) ⟨rfl, rfl, rfl, rfl, trivial⟩ (gc_skip ?_)
   refine gq_cut (h1) ?_ ⟨?_, ?_, ?_, ?_, trivial⟩ ?_ rfl
   ·
    refine ⟨hh1, ?_⟩
    trivial
   · exact rfl
   · exact rfl
   · exact rfl
   · exact rfl
   · exact rfl
 ·
  intro mc hx
  obtain ⟨hmmc, hcut⟩ := hx
  show GC _ _ _ _ _ _ [(2, vB s), (3, vP b3 0), (4, vP b4 0), (6, vP b6 0)] [.var b6 29 [vB ((0 : Rat).num < 0), .slice none 0 0, .slice none 0 0], .var b4 29 [vB (qb.num < 0), vnb, vdb], .var b3 29 [vB (qa.num < 0), vna, vda]] mc
  refine gc_seq ?_
  refine gc_draw 9 _ [] [(0, .q), (1, .q), (2, .q), (3, .q), (4, .q), (5, .c), (6, .q), (7, .q), (8, .q)] mixed (fun x hx => by cases hx) (by kernel_rfl) (fun x hx => by cases hx) (fun r hr => hr) (w_q rfl (fun h' L' hh hR => ov_field_addr Tryz.underlying29 rfl Tryz.sizeOf27 rfl) rfl (w_q rfl (fun h' L' hh hR => ov_load_var (hR _ (.tail _ (.tail _ (.head _)))) Tryz.isAgg27 rfl rfl) rfl (w_q rfl (fun h' L' hh hR => ov_field_addr Tryz.underlying29 rfl Tryz.sizeOf27 rfl) rfl (w_q rfl (fun h' L' hh hR => ov_load_var (hR _ (.tail _ (.head _))) Tryz.isAgg27 rfl rfl) rfl (w_q rfl (fun h' L' hh hR => ov_load_agg (vs := [_, _, _]) (hR _ (.tail _ (.tail _ (.head _)))) Tryz.underlying29 rfl size29 rfl rfl) rfl ?_)))))
  refine w_c rfl ?_
  replace hna := hna.mono hmmc
  replace hda := hda.mono hmmc
  refine s_call (vs := [_]) Tryz.call102 ⟨rfl, trivial⟩ (fun w hs => rat_den hs hna hda) rfl ?_
  intro v100 h1 hh1 hr100
  rw [denL_den] at hr100
  refine w_q rfl (fun h' L' hh hR => ov_assign rfl) rfl (w_q rfl (fun h' L' hh hR => ov_assign rfl) rfl (w_q rfl (fun h' L' hh hR => ov_assign rfl) rfl (w_nil (gq_then (gc_seq (gc_seq (gc_region (gv (ov_field_addr Tryz.underlying29 rfl Tryz.sizeOf27 rfl) rfl (gv (ov_load_var (.tail _ (.tail _ (.head _))) Tryz.isAgg27 rfl rfl) rfl (gv (ov_field_addr Tryz.underlying29 rfl Tryz.sizeOf27 rfl) rfl (gv (ov_load_var (.tail _ (.head _)) Tryz.isAgg27 rfl rfl) rfl ?_)))))))))))
  replace hda := hda.mono hh1
  replace hdb := hdb.mono (hmmc.trans hh1)
  refine gl_call (vs := [_, _]) rfl rfl rfl rfl Tryz.call101 ⟨rfl, rfl, trivial⟩ (fun w hs => sl_equal hs hda hdb) ?_
  intro v105 h2 hh2 hr105
  subst hr105
  refine gv (ov_not rfl) rfl (gl_nil (gq_keep (e' := [(2, _), (3, _), (4, _), (6, _), (15, _), (16, _), (17, _), (106, _)]) ⟨rfl, rfl, rfl, rfl, rfl, rfl, rfl, rfl, trivial⟩ (gq_then ?_)))
  refine gc_cond rfl (fun hc106 => ?_) (fun hc106 => ?_)
  ·
   refine gc_draw 15 _ [] [(0, .q), (1, .q), (4, .q), (5, .q), (8, .q), (9, .q), (2, .c), (3, .c), (6, .c), (7, .c), (10, .c), (11, .c), (12, .q), (13, .q), (14, .q)] mixed (fun x hx => by cases hx) (by kernel_rfl) (fun x hx => by cases hx) (fun r hr => hr) (w_q rfl (fun h' L' hh hR => ov_move rfl) rfl (w_q rfl (fun h' L' hh hR => ov_load_agg (vs := [_, _, _]) (hR _ (.tail _ (.head _))) Tryz.underlying29 rfl size29 rfl rfl) rfl (w_q rfl (fun h' L' hh hR => ov_move rfl) rfl (w_q rfl (fun h' L' hh hR => ov_load_agg (vs := [_, _, _]) (hR _ (.tail _ (.tail _ (.head _)))) Tryz.underlying29 rfl size29 rfl rfl) rfl (w_q rfl (fun h' L' hh hR => ov_move rfl) rfl (w_q rfl (fun h' L' hh hR => ov_load_agg (vs := [_, _, _]) (hR _ (.tail _ (.head _))) Tryz.underlying29 rfl size29 rfl rfl) rfl ?_))))))
   refine w_c rfl ?_
   replace hnb := hnb.mono ((hmmc.trans hh1).trans hh2)
   replace hdb := hdb.mono hh2
   refine s_call (vs := [_]) Tryz.call102 ⟨rfl, trivial⟩ (fun w hs => rat_den hs hnb hdb) rfl ?_
   intro v109 h3 hh3 hr109
   rw [denL_den] at hr109
   refine w_c rfl ?_
   replace hna := hna.mono ((hh1.trans hh2).trans hh3)
   refine s_call (vs := [_, _]) Tryz.call86 ⟨rfl, rfl, trivial⟩ (fun w hs => nat_mul hs hna hr109 (by omega) (by omega)) rfl ?_
   intro v110 h4 hh4 hr110
   try simp only [val_limbs] at hr110
   have hlm110 := limbs_len_mul ((qa.num.natAbs)) ((qb.den))
   refine w_c rfl ?_
   replace hna := hna.mono hh4
   replace hda := hda.mono ((hh2.trans hh3).trans hh4)
   refine s_call (vs := [_]) Tryz.call102 ⟨rfl, trivial⟩ (fun w hs => rat_den hs hna hda) rfl ?_
   intro v113 h5 hh5 hr113
   rw [denL_den] at hr113
   refine w_c rfl ?_
   replace hnb := hnb.mono ((hh3.trans hh4).trans hh5)
   refine s_call (vs := [_, _]) Tryz.call86 ⟨rfl, rfl, trivial⟩ (fun w hs => nat_mul hs hnb hr113 (by omega) (by omega)) rfl ?_
   intro v114 h6 hh6 hr114
   try simp only [val_limbs] at hr114
   have hlm114 := limbs_len_mul ((qb.num.natAbs)) ((qa.den))
   refine w_c rfl ?_
   replace hnb := hnb.mono hh6
   replace hdb := hdb.mono (((hh3.trans hh4).trans hh5).trans hh6)
   refine s_call (vs := [_]) Tryz.call102 ⟨rfl, trivial⟩ (fun w hs => rat_den hs hnb hdb) rfl ?_
   intro v117 h7 hh7 hr117
   rw [denL_den] at hr117
   refine w_c rfl ?_
   replace hr100 := hr100.mono (((((hh2.trans hh3).trans hh4).trans hh5).trans hh6).trans hh7)
   refine s_call (vs := [_, _]) Tryz.call86 ⟨rfl, rfl, trivial⟩ (fun w hs => nat_mul hs hr100 hr117 (by omega) (by omega)) rfl ?_
   intro v118 h8 hh8 hr118
   try simp only [val_limbs] at hr118
   have hlm118 := limbs_len_mul ((qa.den)) ((qb.den))
   refine w_q rfl (fun h' L' hh hR => ov_assign rfl) rfl (w_q rfl (fun h' L' hh hR => ov_assign rfl) rfl (w_q rfl (fun h' L' hh hR => ov_assign rfl) rfl (w_nil (gq_keep (e' := [(2, _), (3, _), (6, _), (15, _), (16, _), (17, _)]) ⟨rfl, rfl, rfl, rfl, rfl, rfl, trivial⟩ (gq_then (gc_seq (gc_seq (gc_region (gv (ov_field_addr Tryz.underlying29 rfl Tryz.sizeOf4 rfl) rfl (gv (ov_load_var (.tail _ (.tail _ (.head _))) Tryz.isAgg4 rfl rfl) rfl (mv rfl rfl (gv (ov_eql_b Tryz.underlying4 rfl rfl) rfl (gl_nil ?_)))))))))))))
   refine gq_then ?_
   refine gc_cond rfl (fun hc122 => ?_) (fun hc122 => ?_)
   ·
    refine gc_seq (gc_region (mv rfl rfl (mv rfl rfl (mv rfl rfl ?_))))
    replace hr110 := hr110.mono (((hh5.trans hh6).trans hh7).trans hh8)
    replace hr114 := hr114.mono (hh7.trans hh8)
    refine gl_call (vs := [_, _]) rfl rfl rfl rfl Tryz.call87 ⟨rfl, rfl, trivial⟩ (fun w hs => nat_add hs hr110 hr114 (by omega) (by omega)) ?_
    intro v126 h9 hh9 hr126
    try simp only [val_limbs] at hr126
    have hlm126 := limbs_len_add (((((qa.num.natAbs)) * ((qb.den))))) (((((qb.num.natAbs)) * ((qa.den)))))
    refine mv rfl rfl ?_
    replace hr118 := hr118.mono hh9
    refine gl_call (vs := [_, _, _]) rfl rfl rfl rfl Tryz.call109 ⟨rfl, rfl, rfl, trivial⟩ (fun w hs => rat_reduce hs hr126 hr118 (by omega) (by omega)) ?_
    intro v128 h10 hh10 hr128
    try simp only [val_limbs] at hr128
    obtain ⟨vn128, vd128, rfl, hn128, hd128⟩ := hr128
    refine gl_upd (A := []) (r' := .var b6 29 [vB ((mkRat (sg (s) ((((((((qa.num.natAbs)) * ((qb.den))))) + (((((qb.num.natAbs)) * ((qa.den))))))))) (((((qa.den)) * ((qb.den)))))).num < 0), vn128, vd128]) (upd_store_var (k := 0) (cs := [_, _, _]) (vs := [_, _, _]) rfl rfl rfl (ocr rfl (ocu hn128 (ocu hd128 oc0))) size29 (Nat.le_of_ble_eq_true rfl)) rfl rfl rfl (gl_nil (gq_keep (e' := [(6, _)]) ⟨rfl, trivial⟩ (gq_then (gc_ret (gr_then (gq_res (fun E S => run_res1 rfl (rv_agg (cs := [_, _, _]) (.head _) Tryz.underlying29 rfl size29 rfl) E S) ?_))))))
    rw [add_sgd hc122]
    exact ⟨_, _, rfl, hn128, hd128⟩
   ·
    refine gc_skip (gq_then (gc_seq (gc_seq (gc_region (mv rfl rfl (mv rfl rfl ?_))))))
    replace hr110 := hr110.mono (((hh5.trans hh6).trans hh7).trans hh8)
    replace hr114 := hr114.mono (hh7.trans hh8)
    refine gl_call (vs := [_, _]) rfl rfl rfl rfl Tryz.call127 ⟨rfl, rfl, trivial⟩ (fun w hs => nat_sub hs hr110 hr114 (by omega)) ?_
    intro v132 h9 hh9 hr132
    obtain ⟨u132, rfl, hu132⟩ := hr132
    try simp only [val_limbs] at hu132 ⊢
    have hlm132 := limbs_len_mono (Nat.sub_le (((((qa.num.natAbs)) * ((qb.den))))) (((((qb.num.natAbs)) * ((qa.den))))))
    refine mv rfl rfl (gv (ov_extract (vs := [_, _]) rfl rfl) rfl (gv (ov_extract (vs := [_, _]) rfl rfl) rfl (asg rfl rfl (asg rfl rfl (gl_nil (gq_keep (e' := [(2, _), (3, _), (6, _), (15, _), (16, _), (17, _), (18, _), (19, _)]) ⟨rfl, rfl, rfl, rfl, rfl, rfl, rfl, rfl, trivial⟩ (gq_then (gc_seq (gc_region (mv rfl rfl (gv (ov_eql_i (q := 0) rfl rfl) rfl (gl_nil (gq_then ?_)))))))))))))
    refine gc_cond rfl (fun hc136 => ?_) (fun hc136 => ?_)
    ·
     have hge := sub_ok hc136
     rw [if_neg hge]
     refine gc_seq (gc_region (gv (ov_field_addr Tryz.underlying29 rfl Tryz.sizeOf4 rfl) rfl (gv (ov_load_var (.tail _ (.tail _ (.head _))) Tryz.isAgg4 rfl rfl) rfl (mv rfl rfl (mv rfl rfl ?_)))))
     replace hr118 := hr118.mono hh9
     refine gl_call (vs := [_, _, _]) rfl rfl rfl rfl Tryz.call109 ⟨rfl, rfl, rfl, trivial⟩ (fun w hs => rat_reduce hs hu132 hr118 (by omega) (by omega)) ?_
     intro v141 h10 hh10 hr141
     try simp only [val_limbs] at hr141
     obtain ⟨vn141, vd141, rfl, hn141, hd141⟩ := hr141
     refine gl_upd (A := []) (r' := .var b6 29 [vB ((mkRat (sg (qa.num < 0) ((((((((qa.num.natAbs)) * ((qb.den))))) - (((((qb.num.natAbs)) * ((qa.den))))))))) (((((qa.den)) * ((qb.den)))))).num < 0), vn141, vd141]) (upd_store_var (k := 0) (cs := [_, _, _]) (vs := [_, _, _]) rfl rfl rfl (ocr rfl (ocu hn141 (ocu hd141 oc0))) size29 (Nat.le_of_ble_eq_true rfl)) rfl rfl rfl (gl_nil (gq_keep (e' := [(6, _)]) ⟨rfl, trivial⟩ (gq_then (gc_ret (gr_then (gq_res (fun E S => run_res1 rfl (rv_agg (cs := [_, _, _]) (.head _) Tryz.underlying29 rfl size29 rfl) E S) ?_))))))
     rw [sub_sgd hc122 (by omega)]
     exact ⟨_, _, rfl, hn141, hd141⟩
    ·
     have hlt := sub_no hc136
     rw [if_pos hlt]
     refine gc_skip (gq_then (gc_seq (gc_region (mv rfl rfl (mv rfl rfl ?_)))))
     replace hr110 := hr110.mono hh9
     replace hr114 := hr114.mono hh9
     refine gl_call (vs := [_, _]) rfl rfl rfl rfl Tryz.call127 ⟨rfl, rfl, trivial⟩ (fun w hs => nat_sub hs hr114 hr110 (by omega)) ?_
     intro v145 h10 hh10 hr145
     obtain ⟨u145, rfl, hu145⟩ := hr145
     try simp only [val_limbs] at hu145 ⊢
     have hlm145 := limbs_len_mono (Nat.sub_le (((((qb.num.natAbs)) * ((qa.den))))) (((((qa.num.natAbs)) * ((qb.den))))))
     refine mv rfl rfl (gv (ov_extract (vs := [_, _]) rfl rfl) rfl (gv (ov_extract (vs := [_, _]) rfl rfl) rfl (asg rfl rfl (asg rfl rfl (gl_nil (gq_keep (e' := [(2, _), (6, _), (17, _), (20, _)]) ⟨rfl, rfl, rfl, rfl, trivial⟩ (gq_then (gc_seq (gc_region (mv rfl rfl (mv rfl rfl (mv rfl rfl ?_))))))))))))
     replace hr118 := hr118.mono (hh9.trans hh10)
     refine gl_call (vs := [_, _, _]) rfl rfl rfl rfl Tryz.call109 ⟨rfl, rfl, rfl, trivial⟩ (fun w hs => rat_reduce hs hu145 hr118 (by omega) (by omega)) ?_
     intro v151 h11 hh11 hr151
     try simp only [val_limbs] at hr151
     obtain ⟨vn151, vd151, rfl, hn151, hd151⟩ := hr151
     refine gl_upd (A := []) (r' := .var b6 29 [vB ((mkRat (sg (s) ((((((((qb.num.natAbs)) * ((qa.den))))) - (((((qa.num.natAbs)) * ((qb.den))))))))) (((((qa.den)) * ((qb.den)))))).num < 0), vn151, vd151]) (upd_store_var (k := 0) (cs := [_, _, _]) (vs := [_, _, _]) rfl rfl rfl (ocr rfl (ocu hn151 (ocu hd151 oc0))) size29 (Nat.le_of_ble_eq_true rfl)) rfl rfl rfl (gl_nil (gq_then (gc_ret (gq_res (fun E S => run_res1 rfl (rv_agg (cs := [_, _, _]) (.head _) Tryz.underlying29 rfl size29 rfl) E S) ?_))))
     rw [sub_sgd' hc122 (by omega)]
     exact ⟨_, _, rfl, hn151, hd151⟩
  ·
   have hde := den_eq.1 (Classical.not_not.1 hc106)
   refine gc_skip (gq_then (gc_seq (gc_seq (gc_region (gv (ov_field_addr Tryz.underlying29 rfl Tryz.sizeOf4 rfl) rfl (gv (ov_load_var (.tail _ (.tail _ (.head _))) Tryz.isAgg4 rfl rfl) rfl (mv rfl rfl (gv (ov_eql_b Tryz.underlying4 rfl rfl) rfl (gl_nil (gq_then ?_))))))))))
   refine gc_cond rfl (fun hc122 => ?_) (fun hc122 => ?_)
   ·
    refine gc_seq (gc_region (mv rfl rfl (mv rfl rfl (mv rfl rfl ?_))))
    replace hna := hna.mono (hh1.trans hh2)
    replace hnb := hnb.mono ((hmmc.trans hh1).trans hh2)
    refine gl_call (vs := [_, _]) rfl rfl rfl rfl Tryz.call87 ⟨rfl, rfl, trivial⟩ (fun w hs => nat_add hs hna hnb (by omega) (by omega)) ?_
    intro v126 h3 hh3 hr126
    try simp only [val_limbs] at hr126
    have hlm126 := limbs_len_add ((qa.num.natAbs)) ((qb.num.natAbs))
    refine mv rfl rfl ?_
    replace hr100 := hr100.mono (hh2.trans hh3)
    refine gl_call (vs := [_, _, _]) rfl rfl rfl rfl Tryz.call109 ⟨rfl, rfl, rfl, trivial⟩ (fun w hs => rat_reduce hs hr126 hr100 (by omega) (by omega)) ?_
    intro v128 h4 hh4 hr128
    try simp only [val_limbs] at hr128
    obtain ⟨vn128, vd128, rfl, hn128, hd128⟩ := hr128
    refine gl_upd (A := []) (r' := .var b6 29 [vB ((mkRat (sg (s) (((((qa.num.natAbs)) + ((qb.num.natAbs)))))) ((qa.den))).num < 0), vn128, vd128]) (upd_store_var (k := 0) (cs := [_, _, _]) (vs := [_, _, _]) rfl rfl rfl (ocr rfl (ocu hn128 (ocu hd128 oc0))) size29 (Nat.le_of_ble_eq_true rfl)) rfl rfl rfl (gl_nil (gq_keep (e' := [(6, _)]) ⟨rfl, trivial⟩ (gq_then (gc_ret (gr_then (gq_res (fun E S => run_res1 rfl (rv_agg (cs := [_, _, _]) (.head _) Tryz.underlying29 rfl size29 rfl) E S) ?_))))))
    rw [add_sgd1 hc122 hde]
    exact ⟨_, _, rfl, hn128, hd128⟩
   ·
    refine gc_skip (gq_then (gc_seq (gc_seq (gc_region (mv rfl rfl (mv rfl rfl ?_))))))
    replace hna := hna.mono (hh1.trans hh2)
    replace hnb := hnb.mono ((hmmc.trans hh1).trans hh2)
    refine gl_call (vs := [_, _]) rfl rfl rfl rfl Tryz.call127 ⟨rfl, rfl, trivial⟩ (fun w hs => nat_sub hs hna hnb (by omega)) ?_
    intro v132 h3 hh3 hr132
    obtain ⟨u132, rfl, hu132⟩ := hr132
    try simp only [val_limbs] at hu132 ⊢
    have hlm132 := limbs_len_mono (Nat.sub_le ((qa.num.natAbs)) ((qb.num.natAbs)))
    refine mv rfl rfl (gv (ov_extract (vs := [_, _]) rfl rfl) rfl (gv (ov_extract (vs := [_, _]) rfl rfl) rfl (asg rfl rfl (asg rfl rfl (gl_nil (gq_keep (e' := [(2, _), (3, _), (6, _), (15, _), (16, _), (17, _), (18, _), (19, _)]) ⟨rfl, rfl, rfl, rfl, rfl, rfl, rfl, rfl, trivial⟩ (gq_then (gc_seq (gc_region (mv rfl rfl (gv (ov_eql_i (q := 0) rfl rfl) rfl (gl_nil (gq_then ?_)))))))))))))
    refine gc_cond rfl (fun hc136 => ?_) (fun hc136 => ?_)
    ·
     have hge := sub_ok hc136
     rw [if_neg hge]
     refine gc_seq (gc_region (gv (ov_field_addr Tryz.underlying29 rfl Tryz.sizeOf4 rfl) rfl (gv (ov_load_var (.tail _ (.tail _ (.head _))) Tryz.isAgg4 rfl rfl) rfl (mv rfl rfl (mv rfl rfl ?_)))))
     replace hr100 := hr100.mono (hh2.trans hh3)
     refine gl_call (vs := [_, _, _]) rfl rfl rfl rfl Tryz.call109 ⟨rfl, rfl, rfl, trivial⟩ (fun w hs => rat_reduce hs hu132 hr100 (by omega) (by omega)) ?_
     intro v141 h4 hh4 hr141
     try simp only [val_limbs] at hr141
     obtain ⟨vn141, vd141, rfl, hn141, hd141⟩ := hr141
     refine gl_upd (A := []) (r' := .var b6 29 [vB ((mkRat (sg (qa.num < 0) (((((qa.num.natAbs)) - ((qb.num.natAbs)))))) ((qa.den))).num < 0), vn141, vd141]) (upd_store_var (k := 0) (cs := [_, _, _]) (vs := [_, _, _]) rfl rfl rfl (ocr rfl (ocu hn141 (ocu hd141 oc0))) size29 (Nat.le_of_ble_eq_true rfl)) rfl rfl rfl (gl_nil (gq_keep (e' := [(6, _)]) ⟨rfl, trivial⟩ (gq_then (gc_ret (gr_then (gq_res (fun E S => run_res1 rfl (rv_agg (cs := [_, _, _]) (.head _) Tryz.underlying29 rfl size29 rfl) E S) ?_))))))
     rw [sub_sgd1 hc122 hde (by omega)]
     exact ⟨_, _, rfl, hn141, hd141⟩
    ·
     have hlt := sub_no hc136
     rw [if_pos hlt]
     refine gc_skip (gq_then (gc_seq (gc_region (mv rfl rfl (mv rfl rfl ?_)))))
     replace hna := hna.mono hh3
     replace hnb := hnb.mono hh3
     refine gl_call (vs := [_, _]) rfl rfl rfl rfl Tryz.call127 ⟨rfl, rfl, trivial⟩ (fun w hs => nat_sub hs hnb hna (by omega)) ?_
     intro v145 h4 hh4 hr145
     obtain ⟨u145, rfl, hu145⟩ := hr145
     try simp only [val_limbs] at hu145 ⊢
     have hlm145 := limbs_len_mono (Nat.sub_le ((qb.num.natAbs)) ((qa.num.natAbs)))
     refine mv rfl rfl (gv (ov_extract (vs := [_, _]) rfl rfl) rfl (gv (ov_extract (vs := [_, _]) rfl rfl) rfl (asg rfl rfl (asg rfl rfl (gl_nil (gq_keep (e' := [(2, _), (6, _), (17, _), (20, _)]) ⟨rfl, rfl, rfl, rfl, trivial⟩ (gq_then (gc_seq (gc_region (mv rfl rfl (mv rfl rfl (mv rfl rfl ?_))))))))))))
     replace hr100 := hr100.mono ((hh2.trans hh3).trans hh4)
     refine gl_call (vs := [_, _, _]) rfl rfl rfl rfl Tryz.call109 ⟨rfl, rfl, rfl, trivial⟩ (fun w hs => rat_reduce hs hu145 hr100 (by omega) (by omega)) ?_
     intro v151 h5 hh5 hr151
     try simp only [val_limbs] at hr151
     obtain ⟨vn151, vd151, rfl, hn151, hd151⟩ := hr151
     refine gl_upd (A := []) (r' := .var b6 29 [vB ((mkRat (sg (s) (((((qb.num.natAbs)) - ((qa.num.natAbs)))))) ((qa.den))).num < 0), vn151, vd151]) (upd_store_var (k := 0) (cs := [_, _, _]) (vs := [_, _, _]) rfl rfl rfl (ocr rfl (ocu hn151 (ocu hd151 oc0))) size29 (Nat.le_of_ble_eq_true rfl)) rfl rfl rfl (gl_nil (gq_then (gc_ret (gq_res (fun E S => run_res1 rfl (rv_agg (cs := [_, _, _]) (.head _) Tryz.underlying29 rfl size29 rfl) E S) ?_))))
     rw [sub_sgd1' hc122 hde (by omega)]
     exact ⟨_, _, rfl, hn151, hd151⟩

end Go.Proofs.YtkdmphehabpcfaaGreat

namespace Go.Proofs.YtkdmphehabpcfaaGreat
open Bk Go
set_option linter.unusedVariables false
set_option linter.unusedSimpArgs false
set_option maxRecDepth 10000

theorem rat_add {w0 : World} {h0 : Mem}  (hs : MLe h0 (mem w0)) {qa : Rat} {vna vda : Value} (hna : Us .u32 h0 vna (limbs qa.num.natAbs)) (hda : Us .u32 h0 vda (limbs (denN qa.den))) {qb : Rat} {vnb vdb : Value} (hnb : Us .u32 h0 vnb (limbs qb.num.natAbs)) (hdb : Us .u32 h0 vdb (limbs (denN qb.den))) (hqa : lq qa ≤ 100000000000) (hqb : lq qb ≤ 100000000000)  :
    Calls Tryz.prog 76 #[.agg #[vB (qa.num < 0), vna, vda], .agg #[vB (qb.num < 0), vnb, vdb]] w0 (Ret w0 h0 (fun h r => IsRat h r (qa + qb))) := by
 have hlna := lq_num qa
 have hlda := lq_den qa
 have hlDa := lq_denL qa
 have hlnb := lq_num qb
 have hldb := lq_den qb
 have hlDb := lq_denL qb
 refine calls_begin (n := 10) (e := [(0, .agg #[vB (qa.num < 0), vna, vda]), (1, .agg #[vB (qb.num < 0), vnb, vdb])]) (vs := [.agg #[vB (qa.num < 0), vna, vda], .agg #[vB (qb.num < 0), vnb, vdb]]) Tryz.func76 rfl rfl (Nat.le_of_ble_eq_true rfl) hs ⟨rfl, rfl, trivial⟩ (gc_seq (gc_region (gl_newop (new_box (cs := [_, _, _]) rfl rfl) rfl rfl rfl ?_)))
 intro v2 r2 hr2
 obtain ⟨b2, rfl, rfl⟩ := hr2
 refine gl_newop (new_box (cs := [_, _, _]) rfl rfl) rfl rfl rfl ?_
 intro v3 r3 hr3
 obtain ⟨b3, rfl, rfl⟩ := hr3
 refine gl_newop (new_alloc (cs := [vB ((0 : Rat).num < 0), .slice none 0 0, .slice none 0 0]) info29 rfl (by simp only [zb]; rfl)) rfl rfl rfl ?_
 intro v4 r4 hr4
 obtain ⟨b4, rfl, rfl⟩ := hr4
 refine gl_nil (gq_then (gc_seq (gc_region (gv (ov_load_agg (vs := [_, _, _]) (.tail _ (.tail _ (.head _))) Tryz.underlying29 rfl size29 rfl rfl) rfl (gv (ov_load_agg (vs := [_, _, _]) (.tail _ (.head _)) Tryz.underlying29 rfl size29 rfl rfl) rfl (gv (ov_field_addr Tryz.underlying29 rfl Tryz.sizeOf4 rfl) rfl (gv (ov_load_var (.tail _ (.head _)) Tryz.isAgg4 rfl rfl) rfl ?_)))))))
 refine gl_call (vs := [_, _, _]) rfl rfl rfl rfl Tryz.call107 ⟨rfl, rfl, rfl, trivial⟩ (fun w hs => rat_addn hs hna hda hnb hdb (by omega) (by omega)) ?_
 intro v9 h1 hh1 hr9
 obtain ⟨vn9, vd9, rfl, hn9, hd9⟩ := hr9
 have hlq9 := lq_add qa (sgd (qb.num < 0) qb)
 have hls9 := lq_sgd (qb.num < 0) qb
 refine gl_upd (A := []) (r' := .var b4 29 [vB ((qa + sgd (qb.num < 0) qb).num < 0), vn9, vd9]) (upd_store_var (k := 0) (cs := [_, _, _]) (vs := [_, _, _]) rfl rfl rfl (ocr rfl (ocu hn9 (ocu hd9 oc0))) size29 (Nat.le_of_ble_eq_true rfl)) rfl rfl rfl (gl_nil (gq_then (gc_ret (gq_res (fun E S => run_res1 rfl (rv_agg (cs := [_, _, _]) (.head _) Tryz.underlying29 rfl size29 rfl) E S) ?_))))
 rw [sgd_self] at hn9 hd9 ⊢
 exact ⟨_, _, rfl, hn9, hd9⟩

theorem rat_sub {w0 : World} {h0 : Mem}  (hs : MLe h0 (mem w0)) {qa : Rat} {vna vda : Value} (hna : Us .u32 h0 vna (limbs qa.num.natAbs)) (hda : Us .u32 h0 vda (limbs (denN qa.den))) {qb : Rat} {vnb vdb : Value} (hnb : Us .u32 h0 vnb (limbs qb.num.natAbs)) (hdb : Us .u32 h0 vdb (limbs (denN qb.den))) (hqa : lq qa ≤ 100000000000) (hqb : lq qb ≤ 100000000000)  :
    Calls Tryz.prog 71 #[.agg #[vB (qa.num < 0), vna, vda], .agg #[vB (qb.num < 0), vnb, vdb]] w0 (Ret w0 h0 (fun h r => IsRat h r (qa - qb))) := by
 have hlna := lq_num qa
 have hlda := lq_den qa
 have hlDa := lq_denL qa
 have hlnb := lq_num qb
 have hldb := lq_den qb
 have hlDb := lq_denL qb
 refine calls_begin (n := 11) (e := [(0, .agg #[vB (qa.num < 0), vna, vda]), (1, .agg #[vB (qb.num < 0), vnb, vdb])]) (vs := [.agg #[vB (qa.num < 0), vna, vda], .agg #[vB (qb.num < 0), vnb, vdb]]) Tryz.func71 rfl rfl (Nat.le_of_ble_eq_true rfl) hs ⟨rfl, rfl, trivial⟩ (gc_seq (gc_region (gl_newop (new_box (cs := [_, _, _]) rfl rfl) rfl rfl rfl ?_)))
 intro v2 r2 hr2
 obtain ⟨b2, rfl, rfl⟩ := hr2
 refine gl_newop (new_box (cs := [_, _, _]) rfl rfl) rfl rfl rfl ?_
 intro v3 r3 hr3
 obtain ⟨b3, rfl, rfl⟩ := hr3
 refine gl_newop (new_alloc (cs := [vB ((0 : Rat).num < 0), .slice none 0 0, .slice none 0 0]) info29 rfl (by simp only [zb]; rfl)) rfl rfl rfl ?_
 intro v4 r4 hr4
 obtain ⟨b4, rfl, rfl⟩ := hr4
 refine gl_nil (gq_then (gc_seq (gc_region (gv (ov_load_agg (vs := [_, _, _]) (.tail _ (.tail _ (.head _))) Tryz.underlying29 rfl size29 rfl rfl) rfl (gv (ov_load_agg (vs := [_, _, _]) (.tail _ (.head _)) Tryz.underlying29 rfl size29 rfl rfl) rfl (gv (ov_field_addr Tryz.underlying29 rfl Tryz.sizeOf4 rfl) rfl (gv (ov_load_var (.tail _ (.head _)) Tryz.isAgg4 rfl rfl) rfl (gv (ov_not rfl) rfl ?_))))))))
 refine gl_call (vs := [_, _, _]) rfl rfl rfl rfl Tryz.call107 ⟨rfl, rfl, rfl, trivial⟩ (fun w hs => rat_addn hs hna hda hnb hdb (by omega) (by omega)) ?_
 intro v10 h1 hh1 hr10
 obtain ⟨vn10, vd10, rfl, hn10, hd10⟩ := hr10
 have hlq10 := lq_add qa (sgd (¬ (qb.num < 0)) qb)
 have hls10 := lq_sgd (¬ (qb.num < 0)) qb
 refine gl_upd (A := []) (r' := .var b4 29 [vB ((qa + sgd (¬ (qb.num < 0)) qb).num < 0), vn10, vd10]) (upd_store_var (k := 0) (cs := [_, _, _]) (vs := [_, _, _]) rfl rfl rfl (ocr rfl (ocu hn10 (ocu hd10 oc0))) size29 (Nat.le_of_ble_eq_true rfl)) rfl rfl rfl (gl_nil (gq_keep (e' := [(4, _)]) ⟨rfl, trivial⟩ (gq_then (gc_ret (gq_res (fun E S => run_res1 rfl (rv_agg (cs := [_, _, _]) (.head _) Tryz.underlying29 rfl size29 rfl) E S) ?_)))))
 rw [sgd_neg, ← Rat.sub_eq_add_neg] at hn10 hd10 ⊢
 exact ⟨_, _, rfl, hn10, hd10⟩

theorem rat_min {w0 : World} {h0 : Mem}  (hs : MLe h0 (mem w0)) {qa : Rat} {vna vda : Value} (hna : Us .u32 h0 vna (limbs qa.num.natAbs)) (hda : Us .u32 h0 vda (limbs (denN qa.den))) {qb : Rat} {vnb vdb : Value} (hnb : Us .u32 h0 vnb (limbs qb.num.natAbs)) (hdb : Us .u32 h0 vdb (limbs (denN qb.den))) (hqa : lq qa ≤ 100000000000) (hqb : lq qb ≤ 100000000000)  :
    Calls Tryz.prog 63 #[.agg #[vB (qa.num < 0), vna, vda], .agg #[vB (qb.num < 0), vnb, vdb]] w0 (Ret w0 h0 (fun h r => IsRat h r (minQ qa qb))) := by
 have hlna := lq_num qa
 have hlda := lq_den qa
 have hlDa := lq_denL qa
 have hlnb := lq_num qb
 have hldb := lq_den qb
 have hlDb := lq_denL qb
 refine calls_begin (n := 12) (e := [(0, .agg #[vB (qa.num < 0), vna, vda]), (1, .agg #[vB (qb.num < 0), vnb, vdb])]) (vs := [.agg #[vB (qa.num < 0), vna, vda], .agg #[vB (qb.num < 0), vnb, vdb]]) Tryz.func63 rfl rfl (Nat.le_of_ble_eq_true rfl) hs ⟨rfl, rfl, trivial⟩ (gc_seq (gc_region (gl_newop (new_box (cs := [_, _, _]) rfl rfl) rfl rfl rfl ?_)))
 intro v2 r2 hr2
 obtain ⟨b2, rfl, rfl⟩ := hr2
 refine gl_newop (new_box (cs := [_, _, _]) rfl rfl) rfl rfl rfl ?_
 intro v3 r3 hr3
 obtain ⟨b3, rfl, rfl⟩ := hr3
 refine gl_newop (new_alloc (cs := [vB ((0 : Rat).num < 0), .slice none 0 0, .slice none 0 0]) info29 rfl (by simp only [zb]; rfl)) rfl rfl rfl ?_
 intro v4 r4 hr4
 obtain ⟨b4, rfl, rfl⟩ := hr4
 refine gl_nil (gq_then (gc_seq (gc_seq (gc_region (gv (ov_load_agg (vs := [_, _, _]) (.tail _ (.head _)) Tryz.underlying29 rfl size29 rfl rfl) rfl (gv (ov_load_agg (vs := [_, _, _]) (.tail _ (.tail _ (.head _))) Tryz.underlying29 rfl size29 rfl rfl) rfl ?_))))))
 refine gl_call (vs := [_, _]) rfl rfl rfl rfl Tryz.call64 ⟨rfl, rfl, trivial⟩ (fun w hs => rat_cmp hs hnb hdb hna hda (by omega) (by omega)) ?_
 intro v7 h1 hh1 hr7
 have hcr7 := cmpQ_range qb qa
 subst hr7
 refine gv (ov_lss_i (q := 0) rfl rfl) rfl (gl_nil (gq_then ?_))
 refine gc_cond rfl (fun hc8 => ?_) (fun hc8 => ?_)
 ·
  refine gc_region (gv (ov_load_agg (vs := [_, _, _]) (.tail _ (.head _)) Tryz.underlying29 rfl size29 rfl rfl) rfl ?_)
  replace hnb := hnb.mono hh1
  replace hdb := hdb.mono hh1
  refine gl_upd (A := [_, _]) (r' := .var b2 29 [vB (qb.num < 0), vnb, vdb]) (upd_store_var (k := 0) (cs := [_, _, _]) (vs := [_, _, _]) rfl rfl rfl (ocr rfl (ocu hnb (ocu hdb oc0))) size29 (Nat.le_of_ble_eq_true rfl)) rfl rfl rfl (gl_nil (gq_then (gc_seq (gc_region (gv (ov_load_agg (vs := [_, _, _]) (.tail _ (.tail _ (.head _))) Tryz.underlying29 rfl size29 rfl rfl) rfl ?_)))))
  refine gl_call (vs := [_]) rfl rfl rfl rfl Tryz.call99 ⟨rfl, trivial⟩ (fun w hs => rat_copied hs hnb hdb (by first | omega | exact Nat.le_trans (lq_num _) (by omega)) (by first | omega | exact Nat.le_trans (lq_denL _) (by omega))) ?_
  intro v11 h2 hh2 hr11
  obtain ⟨vn11, vd11, rfl, hn11, hd11⟩ := hr11
  refine gl_upd (A := []) (r' := .var b4 29 [vB ((qb).num < 0), vn11, vd11]) (upd_store_var (k := 0) (cs := [_, _, _]) (vs := [_, _, _]) rfl rfl rfl (ocr rfl (ocu hn11 (ocu hd11 oc0))) size29 (Nat.le_of_ble_eq_true rfl)) rfl rfl rfl (gl_nil (gq_keep (e' := [(4, _)]) ⟨rfl, trivial⟩ (gq_then (gc_ret (gq_res (fun E S => run_res1 rfl (rv_agg (cs := [_, _, _]) (.head _) Tryz.underlying29 rfl size29 rfl) E S) ?_)))))
  rw [minQ_t hc8]
  exact ⟨_, _, rfl, hn11, hd11⟩
 ·
  refine gc_skip (gq_then (gc_seq (gc_region (gv (ov_load_agg (vs := [_, _, _]) (.tail _ (.tail _ (.head _))) Tryz.underlying29 rfl size29 rfl rfl) rfl ?_))))
  replace hna := hna.mono hh1
  replace hda := hda.mono hh1
  refine gl_call (vs := [_]) rfl rfl rfl rfl Tryz.call99 ⟨rfl, trivial⟩ (fun w hs => rat_copied hs hna hda (by first | omega | exact Nat.le_trans (lq_num _) (by omega)) (by first | omega | exact Nat.le_trans (lq_denL _) (by omega))) ?_
  intro v11 h2 hh2 hr11
  obtain ⟨vn11, vd11, rfl, hn11, hd11⟩ := hr11
  refine gl_upd (A := []) (r' := .var b4 29 [vB ((qa).num < 0), vn11, vd11]) (upd_store_var (k := 0) (cs := [_, _, _]) (vs := [_, _, _]) rfl rfl rfl (ocr rfl (ocu hn11 (ocu hd11 oc0))) size29 (Nat.le_of_ble_eq_true rfl)) rfl rfl rfl (gl_nil (gq_keep (e' := [(4, _)]) ⟨rfl, trivial⟩ (gq_then (gc_ret (gq_res (fun E S => run_res1 rfl (rv_agg (cs := [_, _, _]) (.head _) Tryz.underlying29 rfl size29 rfl) E S) ?_)))))
  rw [minQ_f hc8]
  exact ⟨_, _, rfl, hn11, hd11⟩

theorem rat_max {w0 : World} {h0 : Mem}  (hs : MLe h0 (mem w0)) {qa : Rat} {vna vda : Value} (hna : Us .u32 h0 vna (limbs qa.num.natAbs)) (hda : Us .u32 h0 vda (limbs (denN qa.den))) {qb : Rat} {vnb vdb : Value} (hnb : Us .u32 h0 vnb (limbs qb.num.natAbs)) (hdb : Us .u32 h0 vdb (limbs (denN qb.den))) (hqa : lq qa ≤ 100000000000) (hqb : lq qb ≤ 100000000000)  :
    Calls Tryz.prog 62 #[.agg #[vB (qa.num < 0), vna, vda], .agg #[vB (qb.num < 0), vnb, vdb]] w0 (Ret w0 h0 (fun h r => IsRat h r (maxQ qa qb))) := by
 have hlna := lq_num qa
 have hlda := lq_den qa
 have hlDa := lq_denL qa
 have hlnb := lq_num qb
 have hldb := lq_den qb
 have hlDb := lq_denL qb
 refine calls_begin (n := 12) (e := [(0, .agg #[vB (qa.num < 0), vna, vda]), (1, .agg #[vB (qb.num < 0), vnb, vdb])]) (vs := [.agg #[vB (qa.num < 0), vna, vda], .agg #[vB (qb.num < 0), vnb, vdb]]) Tryz.func62 rfl rfl (Nat.le_of_ble_eq_true rfl) hs ⟨rfl, rfl, trivial⟩ (gc_seq (gc_region (gl_newop (new_box (cs := [_, _, _]) rfl rfl) rfl rfl rfl ?_)))
 intro v2 r2 hr2
 obtain ⟨b2, rfl, rfl⟩ := hr2
 refine gl_newop (new_box (cs := [_, _, _]) rfl rfl) rfl rfl rfl ?_
 intro v3 r3 hr3
 obtain ⟨b3, rfl, rfl⟩ := hr3
 refine gl_newop (new_alloc (cs := [vB ((0 : Rat).num < 0), .slice none 0 0, .slice none 0 0]) info29 rfl (by simp only [zb]; rfl)) rfl rfl rfl ?_
 intro v4 r4 hr4
 obtain ⟨b4, rfl, rfl⟩ := hr4
 refine gl_nil (gq_then (gc_seq (gc_seq (gc_region (gv (ov_load_agg (vs := [_, _, _]) (.tail _ (.head _)) Tryz.underlying29 rfl size29 rfl rfl) rfl (gv (ov_load_agg (vs := [_, _, _]) (.tail _ (.tail _ (.head _))) Tryz.underlying29 rfl size29 rfl rfl) rfl ?_))))))
 refine gl_call (vs := [_, _]) rfl rfl rfl rfl Tryz.call64 ⟨rfl, rfl, trivial⟩ (fun w hs => rat_cmp hs hnb hdb hna hda (by omega) (by omega)) ?_
 intro v7 h1 hh1 hr7
 have hcr7 := cmpQ_range qb qa
 subst hr7
 refine gv (ov_gtr_i (q := 0) rfl rfl) rfl (gl_nil (gq_then ?_))
 refine gc_cond rfl (fun hc8 => ?_) (fun hc8 => ?_)
 ·
  refine gc_region (gv (ov_load_agg (vs := [_, _, _]) (.tail _ (.head _)) Tryz.underlying29 rfl size29 rfl rfl) rfl ?_)
  replace hnb := hnb.mono hh1
  replace hdb := hdb.mono hh1
  refine gl_upd (A := [_, _]) (r' := .var b2 29 [vB (qb.num < 0), vnb, vdb]) (upd_store_var (k := 0) (cs := [_, _, _]) (vs := [_, _, _]) rfl rfl rfl (ocr rfl (ocu hnb (ocu hdb oc0))) size29 (Nat.le_of_ble_eq_true rfl)) rfl rfl rfl (gl_nil (gq_then (gc_seq (gc_region (gv (ov_load_agg (vs := [_, _, _]) (.tail _ (.tail _ (.head _))) Tryz.underlying29 rfl size29 rfl rfl) rfl ?_)))))
  refine gl_call (vs := [_]) rfl rfl rfl rfl Tryz.call99 ⟨rfl, trivial⟩ (fun w hs => rat_copied hs hnb hdb (by first | omega | exact Nat.le_trans (lq_num _) (by omega)) (by first | omega | exact Nat.le_trans (lq_denL _) (by omega))) ?_
  intro v11 h2 hh2 hr11
  obtain ⟨vn11, vd11, rfl, hn11, hd11⟩ := hr11
  refine gl_upd (A := []) (r' := .var b4 29 [vB ((qb).num < 0), vn11, vd11]) (upd_store_var (k := 0) (cs := [_, _, _]) (vs := [_, _, _]) rfl rfl rfl (ocr rfl (ocu hn11 (ocu hd11 oc0))) size29 (Nat.le_of_ble_eq_true rfl)) rfl rfl rfl (gl_nil (gq_keep (e' := [(4, _)]) ⟨rfl, trivial⟩ (gq_then (gc_ret (gq_res (fun E S => run_res1 rfl (rv_agg (cs := [_, _, _]) (.head _) Tryz.underlying29 rfl size29 rfl) E S) ?_)))))
  rw [maxQ_t hc8]
  exact ⟨_, _, rfl, hn11, hd11⟩
 ·
  refine gc_skip (gq_then (gc_seq (gc_region (gv (ov_load_agg (vs := [_, _, _]) (.tail _ (.tail _ (.head _))) Tryz.underlying29 rfl size29 rfl rfl) rfl ?_))))
  replace hna := hna.mono hh1
  replace hda := hda.mono hh1
  refine gl_call (vs := [_]) rfl rfl rfl rfl Tryz.call99 ⟨rfl, trivial⟩ (fun w hs => rat_copied hs hna hda (by first | omega | exact Nat.le_trans (lq_num _) (by omega)) (by first | omega | exact Nat.le_trans (lq_denL _) (by omega))) ?_
  intro v11 h2 hh2 hr11
  obtain ⟨vn11, vd11, rfl, hn11, hd11⟩ := hr11
  refine gl_upd (A := []) (r' := .var b4 29 [vB ((qa).num < 0), vn11, vd11]) (upd_store_var (k := 0) (cs := [_, _, _]) (vs := [_, _, _]) rfl rfl rfl (ocr rfl (ocu hn11 (ocu hd11 oc0))) size29 (Nat.le_of_ble_eq_true rfl)) rfl rfl rfl (gl_nil (gq_keep (e' := [(4, _)]) ⟨rfl, trivial⟩ (gq_then (gc_ret (gq_res (fun E S => run_res1 rfl (rv_agg (cs := [_, _, _]) (.head _) Tryz.underlying29 rfl size29 rfl) E S) ?_)))))
  rw [maxQ_f hc8]
  exact ⟨_, _, rfl, hn11, hd11⟩

theorem rat_mid {w0 : World} {h0 : Mem}  (hs : MLe h0 (mem w0)) {qa : Rat} {vna vda : Value} (hna : Us .u32 h0 vna (limbs qa.num.natAbs)) (hda : Us .u32 h0 vda (limbs (denN qa.den))) {qb : Rat} {vnb vdb : Value} (hnb : Us .u32 h0 vnb (limbs qb.num.natAbs)) (hdb : Us .u32 h0 vdb (limbs (denN qb.den))) (hqa : lq qa ≤ 10000000000) (hqb : lq qb ≤ 10000000000)  :
    Calls Tryz.prog 72 #[.agg #[vB (qa.num < 0), vna, vda], .agg #[vB (qb.num < 0), vnb, vdb]] w0 (Ret w0 h0 (fun h r => IsRat h r (midQ qa qb))) := by
 have hlna := lq_num qa
 have hlda := lq_den qa
 have hlDa := lq_denL qa
 have hlnb := lq_num qb
 have hldb := lq_den qb
 have hlDb := lq_denL qb
 have hhf := lq_half
 refine calls_begin (n := 12) (e := [(0, .agg #[vB (qa.num < 0), vna, vda]), (1, .agg #[vB (qb.num < 0), vnb, vdb])]) (vs := [.agg #[vB (qa.num < 0), vna, vda], .agg #[vB (qb.num < 0), vnb, vdb]]) Tryz.func72 rfl rfl (Nat.le_of_ble_eq_true rfl) hs ⟨rfl, rfl, trivial⟩ (gc_seq (gc_region (gl_newop (new_box (cs := [_, _, _]) rfl rfl) rfl rfl rfl ?_)))
 intro v2 r2 hr2
 obtain ⟨b2, rfl, rfl⟩ := hr2
 refine gl_newop (new_box (cs := [_, _, _]) rfl rfl) rfl rfl rfl ?_
 intro v3 r3 hr3
 obtain ⟨b3, rfl, rfl⟩ := hr3
 refine gl_newop (new_alloc (cs := [vB ((0 : Rat).num < 0), .slice none 0 0, .slice none 0 0]) info29 rfl (by simp only [zb]; rfl)) rfl rfl rfl ?_
 intro v4 r4 hr4
 obtain ⟨b4, rfl, rfl⟩ := hr4
 refine gl_nil (gq_then (gc_seq (gc_region (gv (ov_load_agg (vs := [_, _, _]) (.tail _ (.tail _ (.head _))) Tryz.underlying29 rfl size29 rfl rfl) rfl (gv (ov_load_agg (vs := [_, _, _]) (.tail _ (.head _)) Tryz.underlying29 rfl size29 rfl rfl) rfl ?_)))))
 refine gl_call (vs := [_, _]) rfl rfl rfl rfl Tryz.call76 ⟨rfl, rfl, trivial⟩ (fun w hs => rat_add hs hna hda hnb hdb (by omega) (by omega)) ?_
 intro v7 h1 hh1 hr7
 obtain ⟨vn7, vd7, rfl, hn7, hd7⟩ := hr7
 have hlq7 := lq_add qa qb
 refine gl_call (vs := []) rfl rfl rfl rfl Tryz.call108 trivial (fun w hs => rat_one hs) ?_
 intro v8 h2 hh2 hr8
 rw [one_limbs] at hr8
 have hlm8 := len_one
 refine gl_newop (new_build1 (kd := .u32) (p := 2) Tryz.underlying27 info78 rfl rfl rfl) rfl rfl rfl ?_
 intro v9 r9 hr9
 obtain rfl := hr9
 refine gl_freeze_us0 (by intro z hz; simp only [List.mem_singleton] at hz; subst hz; decide) ?_
 intro h3 hh3 h9
 replace hr8 := hr8.mono hh3
 refine gv (ov_build_parts (ps' := [(1, _), (2, _)]) (vs := [vB (halfQ.num < 0), v8, v9]) Tryz.underlying29 info29 rfl (places29 Tryz.underlying29) ⟨rfl, rfl, rfl, rfl, trivial⟩ (by rw [half_neg]; exact (fill_one (A := [_]) (B := [_]) (C := [_]) (cs := [_]) (off := 1) (size := 1) rfl rfl rfl rfl hr8.cells (fill_one (A := [_, _]) (B := [_]) (C := []) (cs := [_]) (off := 2) (size := 1) rfl rfl rfl rfl h9.cells fill_nil)))) rfl ?_
 replace hn7 := hn7.mono (hh2.trans hh3)
 replace hd7 := hd7.mono (hh2.trans hh3)
 refine gl_call (vs := [_, _]) rfl rfl rfl rfl Tryz.call79 ⟨rfl, rfl, trivial⟩ (fun w hs => rat_mul hs hn7 hd7 (half_num hr8) (half_den h9) (by omega) (by omega)) ?_
 intro v11 h4 hh4 hr11
 obtain ⟨vn11, vd11, rfl, hn11, hd11⟩ := hr11
 have hlq11 := lq_mul (qa + qb) halfQ
 refine gl_upd (A := []) (r' := .var b4 29 [vB (((qa + qb) * halfQ).num < 0), vn11, vd11]) (upd_store_var (k := 0) (cs := [_, _, _]) (vs := [_, _, _]) rfl rfl rfl (ocr rfl (ocu hn11 (ocu hd11 oc0))) size29 (Nat.le_of_ble_eq_true rfl)) rfl rfl rfl (gl_nil (gq_keep (e' := [(4, _)]) ⟨rfl, trivial⟩ (gq_then (gc_ret (gq_res (fun E S => run_res1 rfl (rv_agg (cs := [_, _, _]) (.head _) Tryz.underlying29 rfl size29 rfl) E S) ?_)))))
 exact ⟨_, _, rfl, hn11, hd11⟩

theorem rat_floorn {w0 : World} {h0 : Mem}  (hs : MLe h0 (mem w0)) {s : Prop} {vn vd : Value} {X Y : Nat} (hn : Us .u32 h0 vn (limbs X)) (hd : Us .u32 h0 vd (limbs Y)) (hY : Y ≠ 0) (hl : (limbs X).length ≤ 200000000000) (hl' : (limbs Y).length ≤ 200000000000) :
    Calls Tryz.prog 120 #[vB s, vn, vd] w0 (Ret w0 h0 (fun h r => IsRat h r (floorQ (mkRat (sg s X) Y)))) := by
 refine calls_begin (n := 33) (e := [(0, vB s), (1, vn), (2, vd)]) (vs := [vB s, vn, vd]) Tryz.func120 rfl rfl (Nat.le_of_ble_eq_true rfl) hs ⟨rfl, rfl, rfl, trivial⟩ (gc_seq (gc_region (gl_newop (new_alloc (cs := [vB ((0 : Rat).num < 0), .slice none 0 0, .slice none 0 0]) info29 rfl (by simp only [zb]; rfl)) rfl rfl rfl ?_)))
 intro v6 r6 hr6
 obtain ⟨b6, rfl, rfl⟩ := hr6
 refine gl_nil (gq_then (gc_seq (gc_region (mv rfl rfl (mv rfl rfl ?_)))))
 refine gl_call (vs := [_, _]) rfl rfl rfl rfl Tryz.call115 ⟨rfl, rfl, trivial⟩ (fun w hs => nat_div hs hn hd (by omega) (by omega)) ?_
 intro v13 h1 hh1 hr13
 obtain ⟨q13, r13, rfl, hq13, hr13⟩ := hr13
 try simp only [val_limbs] at hq13 hr13 ⊢
 have hlm13 := limbs_len_mono (Nat.div_le_self ((X)) ((Y)))
 rw [if_neg hY] at hr13 ⊢
 have hlmm := limbs_len_mono (Nat.mod_le X Y)
 refine mv rfl rfl (gv (ov_extract (vs := [_, _, _]) rfl rfl) rfl (gv (ov_extract (vs := [_, _, _]) rfl rfl) rfl (gv (ov_extract (vs := [_, _, _]) rfl rfl) rfl (asg rfl rfl (asg rfl rfl (asg rfl rfl (gl_nil (gq_then (gc_seq (gc_seq (gc_region (mv rfl rfl (gv (ov_neq_i (q := 0) rfl rfl) rfl ?_)))))))))))))
 refine gl_nil (gq_keep (e' := [(0, _), (6, _), (7, _), (8, _), (18, _)]) ⟨rfl, rfl, rfl, rfl, rfl, trivial⟩ (gq_then ?_))
 refine gc_cond rfl (fun hc18 => ?_) (fun hc18 => ?_)
 ·
  exact absurd rfl hc18
 ·
  refine gc_skip (gq_then (gc_seq (gc_seq (gc_region (mv rfl rfl ?_)))))
  refine gl_cut (ι := Mem) 5 (fun m_ => MLe h1 m_) (fun _ => [(25, vB ((s) ∧ ((0 : Int) < (↑(bitsN (((X % Y)))) : Int)))), (0, vB s), (6, vP b6 0), (7, q13)]) (fun _ => [.var b6 29 [vB ((0 : Rat).num < 0), .slice none 0 0, .slice none 0 0]]) (fun m_ => m_) ?_ ?_
  ·
   refine gl_cases (s) (fun hg => ?_) (fun hg => ?_)
   ·
    refine gl_val (ov_move (v := .bool true) (congrArg some (vB_true hg))) rfl rfl rfl (gl_on rfl rfl rfl (mv rfl rfl (gl_on rfl rfl rfl ?_)))
    refine gl_call (vs := [_]) rfl rfl rfl rfl Tryz.call103 ⟨rfl, trivial⟩ (fun w hs => nat_bits hs hr13 (by omega)) ?_
    intro v23 h2 hh2 hr23
    try simp only [val_limbs] at hr23
    subst hr23
    refine gl_on rfl rfl rfl (gv (ov_gtr_i (q := 0) rfl rfl) rfl (gv (ov_pick_t rfl rfl) rfl (gl_nil ?_)))
    refine gq_cut h2 hh2 ⟨?_, rfl, rfl, rfl, trivial⟩ rfl rfl
    exact congrArg some (vB_and_t hg)
   ·
    refine gl_val (ov_move (v := .bool false) (congrArg some (vB_false hg))) rfl rfl rfl (gl_off rfl rfl rfl rfl rfl rfl (gl_off rfl rfl rfl rfl rfl rfl (gl_off rfl rfl rfl rfl rfl rfl (gv (ov_pick_f rfl rfl) rfl (gl_nil ?_)))))
    refine gq_cut h1 (MLe.refl _) ⟨?_, rfl, rfl, rfl, trivial⟩ rfl rfl
    exact congrArg some (vB_and_f hg)
  ·
   intro mg4_1 hmmg4_1
   show GL _ _ _ _ _ _ _ [(25, vB ((s) ∧ ((0 : Int) < (↑(bitsN (((X % Y)))) : Int)))), (0, vB s), (6, vP b6 0), (7, q13)] [.var b6 29 [vB ((0 : Rat).num < 0), .slice none 0 0, .slice none 0 0]] mg4_1
   refine gl_nil (gq_then ?_)
   refine gc_cond rfl (fun hc25 => ?_) (fun hc25 => ?_)
   ·
    refine gc_region (mv rfl rfl ?_)
    refine gl_call (vs := []) rfl rfl rfl rfl Tryz.call108 trivial (fun w hs => rat_one hs) ?_
    intro v27 h2 hh2 hr27
    rw [one_limbs] at hr27
    have hlm27 := len_one
    replace hq13 := hq13.mono (hmmg4_1.trans hh2)
    refine gl_call (vs := [_, _]) rfl rfl rfl rfl Tryz.call87 ⟨rfl, rfl, trivial⟩ (fun w hs => nat_add hs hq13 hr27 (by omega) (by omega)) ?_
    intro v28 h3 hh3 hr28
    try simp only [val_limbs] at hr28
    have hlm28 := limbs_len_add (((((X)) / ((Y))))) ((1))
    refine asg rfl rfl (gl_nil (gq_then (gc_seq (gc_region (mv rfl rfl (mv rfl rfl ?_))))))
    refine gl_call (vs := []) rfl rfl rfl rfl Tryz.call108 trivial (fun w hs => rat_one hs) ?_
    intro v31 h4 hh4 hr31
    rw [one_limbs] at hr31
    have hlm31 := len_one
    replace hr28 := hr28.mono hh4
    refine gl_call (vs := [_, _, _]) rfl rfl rfl rfl Tryz.call109 ⟨rfl, rfl, rfl, trivial⟩ (fun w hs => rat_reduce hs hr28 hr31 (by omega) (by omega)) ?_
    intro v32 h5 hh5 hr32
    try simp only [val_limbs] at hr32
    obtain ⟨vn32, vd32, rfl, hn32, hd32⟩ := hr32
    refine gl_upd (A := []) (r' := .var b6 29 [vB ((mkRat (sg (s) ((((((((X)) / ((Y))))) + ((1)))))) ((1))).num < 0), vn32, vd32]) (upd_store_var (k := 0) (cs := [_, _, _]) (vs := [_, _, _]) rfl rfl rfl (ocr rfl (ocu hn32 (ocu hd32 oc0))) size29 (Nat.le_of_ble_eq_true rfl)) rfl rfl rfl (gl_nil (gq_keep (e' := [(6, _)]) ⟨rfl, trivial⟩ (gq_then (gc_ret (gq_res (fun E S => run_res1 rfl (rv_agg (cs := [_, _, _]) (.head _) Tryz.underlying29 rfl size29 rfl) E S) ?_)))))
    rw [floor_fin hY hc25] at hn32 hd32 ⊢
    exact ⟨_, _, rfl, hn32, hd32⟩
   ·
    refine gc_skip (gq_then (gc_seq (gc_region (mv rfl rfl (mv rfl rfl ?_)))))
    refine gl_call (vs := []) rfl rfl rfl rfl Tryz.call108 trivial (fun w hs => rat_one hs) ?_
    intro v31 h2 hh2 hr31
    rw [one_limbs] at hr31
    have hlm31 := len_one
    replace hq13 := hq13.mono (hmmg4_1.trans hh2)
    refine gl_call (vs := [_, _, _]) rfl rfl rfl rfl Tryz.call109 ⟨rfl, rfl, rfl, trivial⟩ (fun w hs => rat_reduce hs hq13 hr31 (by omega) (by omega)) ?_
    intro v32 h3 hh3 hr32
    try simp only [val_limbs] at hr32
    obtain ⟨vn32, vd32, rfl, hn32, hd32⟩ := hr32
    refine gl_upd (A := []) (r' := .var b6 29 [vB ((mkRat (sg (s) (((((X)) / ((Y)))))) ((1))).num < 0), vn32, vd32]) (upd_store_var (k := 0) (cs := [_, _, _]) (vs := [_, _, _]) rfl rfl rfl (ocr rfl (ocu hn32 (ocu hd32 oc0))) size29 (Nat.le_of_ble_eq_true rfl)) rfl rfl rfl (gl_nil (gq_then (gc_ret (gq_res (fun E S => run_res1 rfl (rv_agg (cs := [_, _, _]) (.head _) Tryz.underlying29 rfl size29 rfl) E S) ?_))))
    rw [floor_fin' hY hc25] at hn32 hd32 ⊢
    exact ⟨_, _, rfl, hn32, hd32⟩

theorem rat_int {w0 : World} {h0 : Mem}  (hs : MLe h0 (mem w0)) {n : Int} (hn1 : -9223372036854775808 ≤ n) (hn2 : n < 9223372036854775808) :
    Calls Tryz.prog 74 #[vI n] w0 (Ret w0 h0 (fun h r => IsRat h r (n : Rat))) := by
 refine calls_begin (n := 9) (e := [(0, vI n)]) (vs := [vI n]) Tryz.func74 rfl rfl (Nat.le_of_ble_eq_true rfl) hs ⟨rfl, trivial⟩ (gc_seq (gc_region (gl_newop (new_alloc (cs := [vB ((0 : Rat).num < 0), .slice none 0 0, .slice none 0 0]) info29 rfl (by simp only [zb]; rfl)) rfl rfl rfl ?_)))
 intro v2 r2 hr2
 obtain ⟨b2, rfl, rfl⟩ := hr2
 refine gl_nil (gq_then (gc_seq (gc_region (mv rfl rfl (gv (ov_lss_i (q := 0) rfl rfl) rfl (mv rfl rfl ?_))))))
 refine gl_call (vs := [_]) rfl rfl rfl rfl Tryz.call110 ⟨rfl, trivial⟩ (fun w hs => rat_size hs (by omega) (by omega)) ?_
 intro v6 h1 hh1 hr6
 have hlm6 := limbs_len_i64 (n := n) (by omega) (by omega)
 refine gl_call (vs := []) rfl rfl rfl rfl Tryz.call108 trivial (fun w hs => rat_one hs) ?_
 intro v7 h2 hh2 hr7
 rw [one_limbs] at hr7
 have hlm7 := len_one
 replace hr6 := hr6.mono hh2
 refine gl_call (vs := [_, _, _]) rfl rfl rfl rfl Tryz.call109 ⟨rfl, rfl, rfl, trivial⟩ (fun w hs => rat_reduce hs hr6 hr7 (by omega) (by omega)) ?_
 intro v8 h3 hh3 hr8
 try simp only [val_limbs] at hr8
 obtain ⟨vn8, vd8, rfl, hn8, hd8⟩ := hr8
 refine gl_upd (A := []) (r' := .var b2 29 [vB ((mkRat (sg (n < (0 : Int)) (((n).natAbs))) ((1))).num < 0), vn8, vd8]) (upd_store_var (k := 0) (cs := [_, _, _]) (vs := [_, _, _]) rfl rfl rfl (ocr rfl (ocu hn8 (ocu hd8 oc0))) size29 (Nat.le_of_ble_eq_true rfl)) rfl rfl rfl (gl_nil (gq_then (gc_ret (gq_res (fun E S => run_res1 rfl (rv_agg (cs := [_, _, _]) (.head _) Tryz.underlying29 rfl size29 rfl) E S) ?_))))
 rw [int_eq] at hn8 hd8 ⊢
 exact ⟨_, _, rfl, hn8, hd8⟩

theorem rat_down {w0 : World} {h0 : Mem}  (hs : MLe h0 (mem w0)) {qa : Rat} {vna vda : Value} (hna : Us .u32 h0 vna (limbs qa.num.natAbs)) (hda : Us .u32 h0 vda (limbs (denN qa.den))) (hqa : lq qa ≤ 10000000000) {k : Int} (hk1 : -9223372036854775808 ≤ k) (hk2 : k < 9223372036854775808) :
    Calls Tryz.prog 94 #[.agg #[vB (qa.num < 0), vna, vda], vI k] w0 (Ret w0 h0 (fun h r => IsRat h r (downQ qa k))) := by
 have hlna := lq_num qa
 have hlda := lq_den qa
 have hlDa := lq_denL qa
 have hpl := pow_len (kN_le k)
 have hml := limbs_len_mul qa.num.natAbs (2 ^ kN k)
 have hp0 : 2 ^ kN k ≠ 0 := Nat.ne_of_gt (Nat.pow_pos (by omega))
 refine calls_begin (n := 38) (e := [(0, .agg #[vB (qa.num < 0), vna, vda]), (1, vI k)]) (vs := [.agg #[vB (qa.num < 0), vna, vda], vI k]) Tryz.func94 rfl rfl (Nat.le_of_ble_eq_true rfl) hs ⟨rfl, rfl, trivial⟩ (gc_seq (gc_region (gl_newop (new_box (cs := [_, _, _]) rfl rfl) rfl rfl rfl ?_)))
 intro v2 r2 hr2
 obtain ⟨b2, rfl, rfl⟩ := hr2
 refine gl_newop (new_alloc (cs := [vB ((0 : Rat).num < 0), .slice none 0 0, .slice none 0 0]) info29 rfl (by simp only [zb]; rfl)) rfl rfl rfl ?_
 intro v4 r4 hr4
 obtain ⟨b4, rfl, rfl⟩ := hr4
 refine gl_nil (gq_then (gc_seq (gc_region (mv rfl rfl (gv (ov_max_i (q := 0) rfl rfl) rfl (gv (ov_min_i (q := 4096) rfl rfl) rfl (asg rfl rfl (gl_nil (gq_then (gc_seq (gc_region (gv (ov_field_addr Tryz.underlying29 rfl Tryz.sizeOf27 rfl) rfl (gv (ov_load_var (.tail _ (.head _)) Tryz.isAgg27 rfl rfl) rfl ?_)))))))))))))
 refine mv rfl rfl ?_
 refine gl_call (vs := [_, _]) rfl rfl rfl rfl Tryz.call82 ⟨rfl, rfl, trivial⟩ (fun w hs => nat_shift hs hna (by omega) (by omega) (by omega)) ?_
 intro v17 h1 hh1 hr17
 obtain ⟨u17, rfl, hu17⟩ := hr17
 try simp only [val_limbs] at hu17
 rw [shN_k] at hu17
 rw [shE_k]
 refine mv rfl rfl (gv (ov_extract (vs := [_, _]) rfl rfl) rfl (gv (ov_extract (vs := [_, _]) rfl rfl) rfl (asg rfl rfl (asg rfl rfl (gl_nil (gq_keep (e' := [(2, _), (4, _), (1, _), (5, _)]) ⟨rfl, rfl, rfl, rfl, trivial⟩ (gq_then (gc_seq (gc_region ?_)))))))))
 refine gl_call (vs := []) rfl rfl rfl rfl Tryz.call108 trivial (fun w hs => rat_one hs) ?_
 intro v21 h2 hh2 hr21
 rw [one_limbs] at hr21
 have hlm21 := len_one
 refine mv rfl rfl ?_
 refine gl_call (vs := [_, _]) rfl rfl rfl rfl Tryz.call82 ⟨rfl, rfl, trivial⟩ (fun w hs => nat_shift hs hr21 (by omega) (by omega) (by omega)) ?_
 intro v23 h3 hh3 hr23
 obtain ⟨u23, rfl, hu23⟩ := hr23
 try simp only [val_limbs] at hu23
 rw [shN_k1] at hu23
 rw [shE_k]
 refine mv rfl rfl (gv (ov_extract (vs := [_, _]) rfl rfl) rfl (gv (ov_extract (vs := [_, _]) rfl rfl) rfl (asg rfl rfl (asg rfl rfl (gl_nil (gq_then (gc_seq ?_)))))))
 refine gc_draw 7 _ [(6, (9, 29, [vB ((0 : Rat).num < 0), .slice none 0 0, .slice none 0 0]))] [(0, .q), (1, .q), (2, .q), (3, .q), (4, .c), (5, .c), (6, .a), (7, .t)] mixed (AlOk.cons rfl (zero_run info29 rfl (by simp only [zb]; rfl)) AlOk.nil) (by kernel_rfl) (hae_cons rfl rfl hae_nil) (fun r hr => hr) (w_q rfl (fun h' L' hh hR => ov_field_addr Tryz.underlying29 rfl Tryz.sizeOf4 rfl) rfl (w_q rfl (fun h' L' hh hR => ov_load_var (hR _ (.tail _ (.head _))) Tryz.isAgg4 rfl rfl) rfl (w_q rfl (fun h' L' hh hR => ov_move rfl) rfl (w_q rfl (fun h' L' hh hR => ov_load_agg (vs := [_, _, _]) (hR _ (.tail _ (.head _))) Tryz.underlying29 rfl size29 rfl rfl) rfl ?_))))
 refine w_c rfl ?_
 replace hna := hna.mono ((hh1.trans hh2).trans hh3)
 replace hda := hda.mono ((hh1.trans hh2).trans hh3)
 refine s_call (vs := [_]) Tryz.call102 ⟨rfl, trivial⟩ (fun w hs => rat_den hs hna hda) rfl ?_
 intro v30 h4 hh4 hr30
 rw [denL_den] at hr30
 refine w_c rfl ?_
 replace hu17 := hu17.mono ((hh2.trans hh3).trans hh4)
 refine s_call (vs := [_, _, _]) Tryz.call120 ⟨rfl, rfl, rfl, trivial⟩ (fun w hs => rat_floorn hs hu17 hr30 (by first | omega | exact Rat.den_nz _) (by omega) (by omega)) rfl ?_
 intro v31 h5 hh5 hr31
 rw [mul_pow] at hr31
 obtain ⟨vn31, vd31, rfl, hn31, hd31⟩ := hr31
 have hlq31 := lq_floor (qa * ((2 ^ kN k : Nat) : Rat))
 have hlqq31 := lq_qpow qa k
 have hlqn31 := lq_num (floorQ (qa * ((2 ^ kN k : Nat) : Rat)))
 refine w_a rfl (fun b9 => ?_)
 refine w_t_upd (A := []) (q' := .var b9 29 [vB ((floorQ (qa * ((2 ^ kN k : Nat) : Rat))).num < 0), vn31, vd31]) rfl (upd_store_var (k := 0) (cs := [_, _, _]) (vs := [_, _, _]) rfl rfl rfl (ocr rfl (ocu hn31 (ocu hd31 oc0))) size29 (Nat.le_of_ble_eq_true rfl)) rfl (w_nil (gq_keep (e' := [(4, _), (7, _), (9, _)]) ⟨rfl, rfl, rfl, trivial⟩ (gq_then (gc_seq (gc_region (gv (ov_field_addr Tryz.underlying29 rfl Tryz.sizeOf4 rfl) rfl (gv (ov_load_var (.head _) Tryz.isAgg4 rfl rfl) rfl (gv (ov_field_addr Tryz.underlying29 rfl Tryz.sizeOf27 rfl) rfl (gv (ov_load_var (.head _) Tryz.isAgg27 rfl rfl) rfl (mv rfl rfl ?_))))))))))
 replace hu23 := hu23.mono (hh4.trans hh5)
 refine gl_call (vs := [_, _, _]) rfl rfl rfl rfl Tryz.call109 ⟨rfl, rfl, rfl, trivial⟩ (fun w hs => rat_reduce hs hn31 hu23 (by omega) (by omega)) ?_
 intro v37 h6 hh6 hr37
 try simp only [val_limbs] at hr37
 obtain ⟨vn37, vd37, rfl, hn37, hd37⟩ := hr37
 refine gl_upd (A := [_]) (r' := .var b4 29 [vB ((mkRat (sg ((floorQ (qa * ((2 ^ kN k : Nat) : Rat))).num < 0) (((floorQ (qa * ((2 ^ kN k : Nat) : Rat))).num.natAbs))) (((2 ^ kN k)))).num < 0), vn37, vd37]) (upd_store_var (k := 0) (cs := [_, _, _]) (vs := [_, _, _]) rfl rfl rfl (ocr rfl (ocu hn37 (ocu hd37 oc0))) size29 (Nat.le_of_ble_eq_true rfl)) rfl rfl rfl (gl_nil (gq_then (gc_ret (gq_res (fun E S => run_res1 rfl (rv_agg (cs := [_, _, _]) (.tail _ (.head _)) Tryz.underlying29 rfl size29 rfl) E S) ?_))))
 rw [down_eq] at hn37 hd37 ⊢
 exact ⟨_, _, rfl, hn37, hd37⟩

theorem rat_up {w0 : World} {h0 : Mem}  (hs : MLe h0 (mem w0)) {qa : Rat} {vna vda : Value} (hna : Us .u32 h0 vna (limbs qa.num.natAbs)) (hda : Us .u32 h0 vda (limbs (denN qa.den))) (hqa : lq qa ≤ 10000000000) {k : Int} (hk1 : -9223372036854775808 ≤ k) (hk2 : k < 9223372036854775808) :
    Calls Tryz.prog 95 #[.agg #[vB (qa.num < 0), vna, vda], vI k] w0 (Ret w0 h0 (fun h r => IsRat h r (upQ qa k))) := by
 have hlna := lq_num qa
 have hlda := lq_den qa
 have hlDa := lq_denL qa
 refine calls_begin (n := 10) (e := [(0, .agg #[vB (qa.num < 0), vna, vda]), (1, vI k)]) (vs := [.agg #[vB (qa.num < 0), vna, vda], vI k]) Tryz.func95 rfl rfl (Nat.le_of_ble_eq_true rfl) hs ⟨rfl, rfl, trivial⟩ (gc_seq (gc_region (gl_newop (new_box (cs := [_, _, _]) rfl rfl) rfl rfl rfl ?_)))
 intro v2 r2 hr2
 obtain ⟨b2, rfl, rfl⟩ := hr2
 refine gl_newop (new_alloc (cs := [vB ((0 : Rat).num < 0), .slice none 0 0, .slice none 0 0]) info29 rfl (by simp only [zb]; rfl)) rfl rfl rfl ?_
 intro v4 r4 hr4
 obtain ⟨b4, rfl, rfl⟩ := hr4
 refine gl_nil (gq_then (gc_seq (gc_region (gv (ov_load_agg (vs := [_, _, _]) (.tail _ (.head _)) Tryz.underlying29 rfl size29 rfl rfl) rfl ?_))))
 refine gl_call (vs := [_]) rfl rfl rfl rfl Tryz.call77 ⟨rfl, trivial⟩ (fun w hs => rat_neg hs hna hda (by first | omega | exact Nat.le_trans (lq_num _) (by omega)) (by first | omega | exact Nat.le_trans (lq_denL _) (by omega))) ?_
 intro v6 h1 hh1 hr6
 obtain ⟨vn6, vd6, rfl, hn6, hd6⟩ := hr6
 have hlq6 := lq_neg qa
 refine mv rfl rfl ?_
 refine gl_call (vs := [_, _]) rfl rfl rfl rfl Tryz.call94 ⟨rfl, rfl, trivial⟩ (fun w hs => rat_down hs hn6 hd6 (by omega) (by omega) (by omega)) ?_
 intro v8 h2 hh2 hr8
 obtain ⟨vn8, vd8, rfl, hn8, hd8⟩ := hr8
 have hlq8 := lq_down (-qa) k
 refine gl_call (vs := [_]) rfl rfl rfl rfl Tryz.call77 ⟨rfl, trivial⟩ (fun w hs => rat_neg hs hn8 hd8 (by first | omega | exact Nat.le_trans (lq_num _) (by omega)) (by first | omega | exact Nat.le_trans (lq_denL _) (by omega))) ?_
 intro v9 h3 hh3 hr9
 obtain ⟨vn9, vd9, rfl, hn9, hd9⟩ := hr9
 have hlq9 := lq_neg (downQ (-qa) k)
 refine gl_upd (A := []) (r' := .var b4 29 [vB ((-(downQ (-qa) k)).num < 0), vn9, vd9]) (upd_store_var (k := 0) (cs := [_, _, _]) (vs := [_, _, _]) rfl rfl rfl (ocr rfl (ocu hn9 (ocu hd9 oc0))) size29 (Nat.le_of_ble_eq_true rfl)) rfl rfl rfl (gl_nil (gq_then (gc_ret (gq_res (fun E S => run_res1 rfl (rv_agg (cs := [_, _, _]) (.head _) Tryz.underlying29 rfl size29 rfl) E S) ?_))))
 exact ⟨_, _, rfl, hn9, hd9⟩

end Go.Proofs.YtkdmphehabpcfaaGreat

namespace Go.Proofs.YtkdmphehabpcfaaGreat
open Bk Go
set_option linter.unusedVariables false
set_option linter.unusedSimpArgs false
set_option maxRecDepth 10000

theorem rat_norm {w0 : World} {h0 : Mem}  (hs : MLe h0 (mem w0)) {sa : Prop} {ba vna vda : Value} {xa ya : List Nat} (hba : ba = vB sa) (hna : Us .u32 h0 vna xa) (hda : Us .u32 h0 vda ya) (hlx : xa.length ≤ 100000000000) (hly : ya.length ≤ 100000000000) :
    Calls Tryz.prog 88 #[.agg #[ba, vna, vda]] w0 (Ret w0 h0 (fun h r => ∃ u, r = .tuple #[u, vI (if dV ya = 0 then 3 else 0)] ∧ IsRat h u (mkRat (sg sa (val xa)) (dV ya)))) := by
 subst hba
 have hlx1 := limbs_len_le hna.lt
 have hly1 := limbs_len_le hda.lt
 refine calls_begin (n := 22) (e := [(0, .agg #[vB sa, vna, vda])]) (vs := [.agg #[vB sa, vna, vda]]) Tryz.func88 rfl rfl (Nat.le_of_ble_eq_true rfl) hs ⟨rfl, trivial⟩ (gc_seq (gc_region (gl_newop (new_box (cs := [_, _, _]) rfl rfl) rfl rfl rfl ?_)))
 intro v1 r1 hr1
 obtain ⟨b1, rfl, rfl⟩ := hr1
 refine gl_newop (new_alloc (cs := [vB ((0 : Rat).num < 0), .slice none 0 0, .slice none 0 0]) info29 rfl (by simp only [zb]; rfl)) rfl rfl rfl ?_
 intro v2 r2 hr2
 obtain ⟨b2, rfl, rfl⟩ := hr2
 refine asg (v := vI (0)) rfl rfl (gl_nil (gq_then (gc_seq (gc_seq (gc_region (gv (ov_field_addr Tryz.underlying29 rfl Tryz.sizeOf27 rfl) rfl (gv (ov_load_var (.tail _ (.head _)) Tryz.isAgg27 rfl rfl) rfl (gv (ov_len_us Tryz.underlying27 rfl hda) rfl (gv (ov_gtr_i (q := 0) rfl rfl) rfl ?_)))))))))
 refine gl_cut (ι := Mem) 6 (fun m_ => MLe h0 m_) (fun _ => [(13, vB (((0 : Int) < (↑(ya).length : Int)) ∧ ((↑(bitsN (val (ya))) : Int) = (0 : Int)))), (1, vP b1 0), (2, vP b2 0)]) (fun _ => [.var b2 29 [vB ((0 : Rat).num < 0), .slice none 0 0, .slice none 0 0], .var b1 29 [vB sa, vna, vda]]) (fun m_ => m_) ?_ ?_
 ·
  refine gl_cases ((0 : Int) < (↑(ya).length : Int)) (fun hg => ?_) (fun hg => ?_)
  ·
   refine gl_val (ov_move (v := .bool true) (congrArg some (vB_true hg))) rfl rfl rfl (gl_on rfl rfl rfl (gv (ov_field_addr Tryz.underlying29 rfl Tryz.sizeOf27 rfl) rfl (gl_on rfl rfl rfl (gv (ov_load_var (.tail _ (.head _)) Tryz.isAgg27 rfl rfl) rfl (gl_on rfl rfl rfl ?_)))))
   refine gl_call (vs := [_]) rfl rfl rfl rfl Tryz.call103 ⟨rfl, trivial⟩ (fun w hs => nat_bits hs hda (by omega)) ?_
   intro v11 h1 hh1 hr11
   try simp only [val_limbs] at hr11
   subst hr11
   refine gl_on rfl rfl rfl (gv (ov_eql_i (q := 0) rfl rfl) rfl (gv (ov_pick_t rfl rfl) rfl (gl_nil ?_)))
   refine gq_cut h1 hh1 ⟨?_, rfl, rfl, trivial⟩ rfl rfl
   exact congrArg some (vB_and_t hg)
  ·
   refine gl_val (ov_move (v := .bool false) (congrArg some (vB_false hg))) rfl rfl rfl (gl_off rfl rfl rfl rfl rfl rfl (gl_off rfl rfl rfl rfl rfl rfl (gl_off rfl rfl rfl rfl rfl rfl (gl_off rfl rfl rfl rfl rfl rfl (gv (ov_pick_f rfl rfl) rfl (gl_nil ?_))))))
   refine gq_cut h0 (MLe.refl _) ⟨?_, rfl, rfl, trivial⟩ rfl rfl
   exact congrArg some (vB_and_f hg)
 ·
  intro mg1_4 hmmg1_4
  show GL _ _ _ _ _ _ _ [(13, vB (((0 : Int) < (↑(ya).length : Int)) ∧ ((↑(bitsN (val (ya))) : Int) = (0 : Int)))), (1, vP b1 0), (2, vP b2 0)] [.var b2 29 [vB ((0 : Rat).num < 0), .slice none 0 0, .slice none 0 0], .var b1 29 [vB sa, vna, vda]] mg1_4
  refine gl_nil (gq_then ?_)
  refine gc_cond rfl (fun hc13 => ?_) (fun hc13 => ?_)
  ·
   refine gc_seq (gc_region (gv (ov_build_parts (ps' := []) (vs := [vB ((0 : Rat).num < 0), .slice none 0 0, .slice none 0 0]) Tryz.underlying29 info29 rfl (places29 Tryz.underlying29) trivial (by simp only [zb]; exact fill_nil)) rfl (gl_upd (A := []) (r' := .var b2 29 [vB ((0 : Rat).num < 0), .slice none 0 0, .slice none 0 0]) (upd_store_var (k := 0) (cs := [_, _, _]) (vs := [_, _, _]) rfl rfl rfl rfl size29 (Nat.le_of_ble_eq_true rfl)) rfl rfl rfl (asg (v := vI (3)) rfl rfl (gl_nil (gq_then (gc_ret (gr_then (gq_res (fun E S => run_res2 rfl (rv_agg (cs := [_, _, _]) (.head _) Tryz.underlying29 rfl size29 rfl) (rv_tmp rfl) E S) ?_)))))))))
   have e := dV_zero hc13
   rw [e, if_pos rfl, mk_zero']
   exact ⟨_, rfl, IsRat.zero _⟩
  ·
   refine gc_skip (gq_then (gc_seq ?_))
   refine gc_draw 7 _ [] [(0, .q), (1, .q), (2, .q), (3, .q), (4, .q), (5, .c), (6, .c), (7, .t), (8, .t)] mixed (fun x hx => by cases hx) (by kernel_rfl) (fun x hx => by cases hx) (fun r hr => hr) (w_q rfl (fun h' L' hh hR => ov_field_addr Tryz.underlying29 rfl Tryz.sizeOf4 rfl) rfl (w_q rfl (fun h' L' hh hR => ov_load_var (hR _ (.tail _ (.head _))) Tryz.isAgg4 rfl rfl) rfl (w_q rfl (fun h' L' hh hR => ov_field_addr Tryz.underlying29 rfl Tryz.sizeOf27 rfl) rfl (w_q rfl (fun h' L' hh hR => ov_load_var (hR _ (.tail _ (.head _))) Tryz.isAgg27 rfl rfl) rfl (w_q rfl (fun h' L' hh hR => ov_load_agg (vs := [_, _, _]) (hR _ (.tail _ (.head _))) Tryz.underlying29 rfl size29 rfl rfl) rfl ?_)))))
   refine w_c rfl ?_
   replace hna := hna.mono hmmg1_4
   replace hda := hda.mono hmmg1_4
   refine s_call (vs := [_]) Tryz.call102 ⟨rfl, trivial⟩ (fun w hs => rat_den hs hna hda) rfl ?_
   intro v20 h1 hh1 hr20
   have hlm20 := dL_len (ya)
   refine w_c rfl ?_
   replace hna := hna.mono hh1
   refine s_call (vs := [_, _, _]) Tryz.call109 ⟨rfl, rfl, rfl, trivial⟩ (fun w hs => rat_reduce hs hna hr20 (by omega) (by omega)) rfl ?_
   intro v21 h2 hh2 hr21
   try simp only [val_limbs] at hr21
   obtain ⟨vn21, vd21, rfl, hn21, hd21⟩ := hr21
   refine w_t_upd (A := []) (q' := .var b2 29 [vB ((mkRat (sg (sa) (val (xa))) (val (if (ya) = [] then [1] else (ya)))).num < 0), vn21, vd21]) rfl (upd_store_var (k := 0) (cs := [_, _, _]) (vs := [_, _, _]) rfl rfl rfl (ocr rfl (ocu hn21 (ocu hd21 oc0))) size29 (Nat.le_of_ble_eq_true rfl)) rfl (w_t_val rfl (ov_assign (v := vI (0)) rfl) rfl (w_nil (gq_then (gc_ret (gq_res (fun E S => run_res2 rfl (rv_agg (cs := [_, _, _]) (.head _) Tryz.underlying29 rfl size29 rfl) (rv_tmp rfl) E S) ?_)))))
   rw [if_neg (dV_ne hc13)]
   rw [val_dL] at hn21 hd21 ⊢
   exact ⟨_, rfl, _, _, rfl, hn21, hd21⟩

theorem rat_valid {w0 : World} {h0 : Mem}  (hs : MLe h0 (mem w0)) {sa : Prop} {ba vna vda : Value} {xa ya : List Nat} (hba : ba = vB sa) (hna : Us .u32 h0 vna xa) (hda : Us .u32 h0 vda ya) (hlx : xa.length ≤ 100000000000) (hly : ya.length ≤ 100000000000) :
    Calls Tryz.prog 67 #[.agg #[ba, vna, vda]] w0 (Ret w0 h0 (fun _ r => r = vB (validP sa xa ya))) := by
 subst hba
 have hlx1 := limbs_len_le hna.lt
 have hly1 := limbs_len_le hda.lt
 refine calls_begin (n := 52) (e := [(0, .agg #[vB sa, vna, vda])]) (vs := [.agg #[vB sa, vna, vda]]) Tryz.func67 rfl rfl (Nat.le_of_ble_eq_true rfl) hs ⟨rfl, trivial⟩ (gc_seq (gc_region (gl_newop (new_box (cs := [_, _, _]) rfl rfl) rfl rfl rfl ?_)))
 intro v1 r1 hr1
 obtain ⟨b1, rfl, rfl⟩ := hr1
 refine asg rfl rfl (gl_nil (gq_then (gc_seq (gc_seq (gc_region (gv (ov_field_addr Tryz.underlying29 rfl Tryz.sizeOf27 rfl) rfl (gv (ov_load_var (.head _) Tryz.isAgg27 rfl rfl) rfl ?_)))))))
 refine gl_call (vs := [_]) rfl rfl rfl rfl Tryz.call104 ⟨rfl, trivial⟩ (fun w hs => nat_valid hs hna) ?_
 intro v5 h1 hh1 hr5
 subst hr5
 refine gv (ov_not rfl) rfl ?_
 refine gl_cut (ι := Mem) 6 (fun m_ => MLe h1 m_) (fun _ => [(12, vB ((¬ (((xa) = [] ∨ ((xa)).getD (((xa)).length - 1) 0 ≠ 0))) ∨ (¬ (((ya) = [] ∨ ((ya)).getD (((ya)).length - 1) 0 ≠ 0))))), (1, vP b1 0)]) (fun _ => [.var b1 29 [vB sa, vna, vda]]) (fun m_ => m_) ?_ ?_
 ·
  refine gl_cases (¬ (((xa) = [] ∨ ((xa)).getD (((xa)).length - 1) 0 ≠ 0))) (fun hg => ?_) (fun hg => ?_)
  ·
   refine gl_val (ov_move (v := .bool true) (congrArg some (vB_true hg))) rfl rfl rfl (gl_off rfl rfl rfl rfl rfl rfl (gl_off rfl rfl rfl rfl rfl rfl (gl_off rfl rfl rfl rfl rfl rfl (gl_off rfl rfl rfl rfl rfl rfl (gv (ov_pick_t rfl rfl) rfl (gl_nil ?_))))))
   refine gq_cut h1 (MLe.refl _) ⟨?_, rfl, trivial⟩ rfl rfl
   exact congrArg some (vB_or_t hg)
  ·
   refine gl_val (ov_move (v := .bool false) (congrArg some (vB_false hg))) rfl rfl rfl (gl_on rfl rfl rfl (gv (ov_field_addr Tryz.underlying29 rfl Tryz.sizeOf27 rfl) rfl (gl_on rfl rfl rfl (gv (ov_load_var (.head _) Tryz.isAgg27 rfl rfl) rfl (gl_on rfl rfl rfl ?_)))))
   replace hda := hda.mono hh1
   refine gl_call (vs := [_]) rfl rfl rfl rfl Tryz.call104 ⟨rfl, trivial⟩ (fun w hs => nat_valid hs hda) ?_
   intro v10 h2 hh2 hr10
   subst hr10
   refine gl_on rfl rfl rfl (gv (ov_not rfl) rfl (gv (ov_pick_f rfl rfl) rfl (gl_nil ?_)))
   refine gq_cut h2 hh2 ⟨?_, rfl, trivial⟩ rfl rfl
   exact congrArg some (vB_or_f hg)
 ·
  intro mg1_4 hmmg1_4
  show GL _ _ _ _ _ _ _ [(12, vB ((¬ (((xa) = [] ∨ ((xa)).getD (((xa)).length - 1) 0 ≠ 0))) ∨ (¬ (((ya) = [] ∨ ((ya)).getD (((ya)).length - 1) 0 ≠ 0))))), (1, vP b1 0)] [.var b1 29 [vB sa, vna, vda]] mg1_4
  refine gl_cut (ι := Unit) 13 (fun _ => True) (fun _ => [(25, vB (((¬ (((xa) = [] ∨ ((xa)).getD (((xa)).length - 1) 0 ≠ 0))) ∨ (¬ (((ya) = [] ∨ ((ya)).getD (((ya)).length - 1) 0 ≠ 0)))) ∨ (((↑(ya).length : Int) = (1 : Int)) ∧ (((ya).getD (0) 0) = (1 : Nat))))), (1, vP b1 0)]) (fun _ => [.var b1 29 [vB sa, vna, vda]]) (fun _ => mg1_4) ?_ ?_
  ·
   refine gl_cases ((¬ (((xa) = [] ∨ ((xa)).getD (((xa)).length - 1) 0 ≠ 0))) ∨ (¬ (((ya) = [] ∨ ((ya)).getD (((ya)).length - 1) 0 ≠ 0)))) (fun hg => ?_) (fun hg => ?_)
   ·
    refine gl_val (ov_move (v := .bool true) (congrArg some (vB_true hg))) rfl rfl rfl (gl_off rfl rfl rfl rfl rfl rfl (gl_off rfl rfl rfl rfl rfl rfl (gl_off rfl rfl rfl rfl rfl rfl (gl_off rfl rfl rfl rfl rfl rfl (gl_off rfl rfl rfl rfl rfl rfl (gl_offu rfl rfl rfl rfl rfl (gl_offu rfl rfl rfl rfl rfl (gl_offu rfl rfl rfl rfl rfl (gl_offu rfl rfl rfl rfl rfl (gl_offu rfl rfl rfl rfl rfl (gl_off rfl rfl rfl rfl rfl rfl (gv (ov_pick_t rfl rfl) rfl (gl_nil ?_)))))))))))))
    refine gq_cut () trivial ⟨?_, rfl, trivial⟩ rfl rfl
    exact congrArg some (vB_or_t hg)
   ·
    refine gl_val (ov_move (v := .bool false) (congrArg some (vB_false hg))) rfl rfl rfl (gl_on rfl rfl rfl (gv (ov_field_addr Tryz.underlying29 rfl Tryz.sizeOf27 rfl) rfl (gl_on rfl rfl rfl (gv (ov_load_var (.head _) Tryz.isAgg27 rfl rfl) rfl (gl_on rfl rfl rfl ?_)))))
    replace hda := hda.mono (hh1.trans hmmg1_4)
    refine gv (ov_len_us Tryz.underlying27 rfl hda) rfl (gl_on rfl rfl rfl (gv (ov_eql_i (q := 1) rfl rfl) rfl ?_))
    refine gl_cut (ι := Unit) 7 (fun _ => True) (fun _ => [(24, vB (((↑(ya).length : Int) = (1 : Int)) ∧ (((ya).getD (0) 0) = (1 : Nat)))), (1, vP b1 0), (13, .bool false)]) (fun _ => [.var b1 29 [vB sa, vna, vda]]) (fun _ => mg1_4) ?_ ?_
    ·
     refine gl_cases ((↑(ya).length : Int) = (1 : Int)) (fun hg => ?_) (fun hg => ?_)
     ·
      refine gl_on rfl rfl rfl (gl_val (ov_move (v := .bool true) (congrArg some (vB_true hg))) rfl rfl rfl (gl_on rfl rfl rfl (gv (ov_field_addr Tryz.underlying29 rfl Tryz.sizeOf27 rfl) rfl (gl_on rfl rfl rfl (gv (ov_load_var (.head _) Tryz.isAgg27 rfl rfl) rfl (gl_on rfl rfl rfl (gv (ov_index_us (q := 0) (0) Tryz.underlying27 Tryz.sizeOf78 rfl rfl hda rfl (by omega)) rfl (gl_on rfl rfl rfl (gv (ov_load_us Tryz.isAgg78 rfl hda (by omega)) rfl (gl_on rfl rfl rfl (gv (ov_eql_u (k := .u32) (q := 1) rfl rfl) rfl (gl_on rfl rfl rfl (gv (ov_pick_t rfl rfl) rfl ?_)))))))))))))
      refine gl_nil ?_
      refine gq_cut () trivial ⟨?_, rfl, rfl, trivial⟩ rfl rfl
      exact congrArg some (vB_and_t hg)
     ·
      refine gl_on rfl rfl rfl (gl_val (ov_move (v := .bool false) (congrArg some (vB_false hg))) rfl rfl rfl (gl_off rfl rfl rfl rfl rfl rfl (gl_off rfl rfl rfl rfl rfl rfl (gl_off rfl rfl rfl rfl rfl rfl (gl_off rfl rfl rfl rfl rfl rfl (gl_off rfl rfl rfl rfl rfl rfl (gl_on rfl rfl rfl (gv (ov_pick_f rfl rfl) rfl (gl_nil ?_)))))))))
      refine gq_cut () trivial ⟨?_, rfl, rfl, trivial⟩ rfl rfl
      exact congrArg some (vB_and_f hg)
    ·
     intro _ _
     show GL _ _ _ _ _ _ _ [(24, vB (((↑(ya).length : Int) = (1 : Int)) ∧ (((ya).getD (0) 0) = (1 : Nat)))), (1, vP b1 0), (13, .bool false)] [.var b1 29 [vB sa, vna, vda]] mg1_4
     refine gv (ov_pick_f rfl rfl) rfl (gl_nil ?_)
     refine gq_cut () trivial ⟨?_, rfl, trivial⟩ rfl rfl
     exact congrArg some (vB_or_f hg)
  ·
   intro _ _
   show GL _ _ _ _ _ _ _ [(25, vB (((¬ (((xa) = [] ∨ ((xa)).getD (((xa)).length - 1) 0 ≠ 0))) ∨ (¬ (((ya) = [] ∨ ((ya)).getD (((ya)).length - 1) 0 ≠ 0)))) ∨ (((↑(ya).length : Int) = (1 : Int)) ∧ (((ya).getD (0) 0) = (1 : Nat))))), (1, vP b1 0)] [.var b1 29 [vB sa, vna, vda]] mg1_4
   refine gl_nil (gq_then ?_)
   refine gc_cond rfl (fun hc25 => ?_) (fun hc25 => ?_)
   ·
    refine gc_seq (gc_region (asg rfl rfl (gl_nil (gq_then (gc_ret (gr_then (gq_body1 rfl rfl ?_)))))))
    rw [vB_false (fun h => h.1 hc25)]
   ·
    refine gc_skip (gq_then (gc_seq (gc_seq (gc_region (gv (ov_field_addr Tryz.underlying29 rfl Tryz.sizeOf27 rfl) rfl (gv (ov_load_var (.head _) Tryz.isAgg27 rfl rfl) rfl ?_))))))
    replace hna := hna.mono (hh1.trans hmmg1_4)
    refine gv (ov_len_us Tryz.underlying27 rfl hna) rfl (gv (ov_eql_i (q := 0) rfl rfl) rfl (gl_nil (gq_then ?_)))
    refine gc_cond rfl (fun hc29 => ?_) (fun hc29 => ?_)
    ·
     refine gc_seq (gc_region (gv (ov_field_addr Tryz.underlying29 rfl Tryz.sizeOf4 rfl) rfl (gv (ov_load_var (.head _) Tryz.isAgg4 rfl rfl) rfl (gv (ov_not rfl) rfl ?_))))
     refine gl_cut (ι := Unit) 6 (fun _ => True) (fun _ => [(38, vB ((¬ (sa)) ∧ ((↑(ya).length : Int) = (0 : Int))))]) (fun _ => [.var b1 29 [vB sa, vna, vda]]) (fun _ => mg1_4) ?_ ?_
     ·
      refine gl_cases (¬ (sa)) (fun hg => ?_) (fun hg => ?_)
      ·
       refine gl_val (ov_move (v := .bool true) (congrArg some (vB_true hg))) rfl rfl rfl (gl_on rfl rfl rfl (gv (ov_field_addr Tryz.underlying29 rfl Tryz.sizeOf27 rfl) rfl (gl_on rfl rfl rfl (gv (ov_load_var (.head _) Tryz.isAgg27 rfl rfl) rfl (gl_on rfl rfl rfl ?_)))))
       replace hda := hda.mono (hh1.trans hmmg1_4)
       refine gv (ov_len_us Tryz.underlying27 rfl hda) rfl (gl_on rfl rfl rfl (gv (ov_eql_i (q := 0) rfl rfl) rfl (gv (ov_pick_t rfl rfl) rfl (gl_nil ?_))))
       refine gq_cut () trivial ⟨?_, trivial⟩ rfl rfl
       exact congrArg some (vB_and_t hg)
      ·
       refine gl_val (ov_move (v := .bool false) (congrArg some (vB_false hg))) rfl rfl rfl (gl_off rfl rfl rfl rfl rfl rfl (gl_off rfl rfl rfl rfl rfl rfl (gl_off rfl rfl rfl rfl rfl rfl (gl_off rfl rfl rfl rfl rfl rfl (gv (ov_pick_f rfl rfl) rfl (gl_nil ?_))))))
       refine gq_cut () trivial ⟨?_, trivial⟩ rfl rfl
       exact congrArg some (vB_and_f hg)
     ·
      intro _ _
      show GL _ _ _ _ _ _ _ [(38, vB ((¬ (sa)) ∧ ((↑(ya).length : Int) = (0 : Int))))] [.var b1 29 [vB sa, vna, vda]] mg1_4
      refine asg rfl rfl (gl_nil (gq_then (gc_ret (gr_then (gq_body1 rfl rfl ?_)))))
      exact vB_iff (valid_nil hc25 hc29)
    ·
     refine gc_skip (gq_then (gc_seq (gc_region (gv (ov_field_addr Tryz.underlying29 rfl Tryz.sizeOf27 rfl) rfl (gv (ov_load_var (.head _) Tryz.isAgg27 rfl rfl) rfl ?_)))))
     replace hda := hda.mono (hh1.trans hmmg1_4)
     refine gv (ov_len_us Tryz.underlying27 rfl hda) rfl (gv (ov_eql_i (q := 0) rfl rfl) rfl ?_)
     refine gl_cut (ι := Mem) 9 (fun m_ => MLe mg1_4 m_) (fun _ => [(51, vB (((↑(ya).length : Int) = (0 : Int)) ∨ ((↑(bitsN (((Nat.gcd (val (xa)) (val (ya)))))) : Int) = (1 : Int))))]) (fun _ => [.var b1 29 [vB sa, vna, vda]]) (fun m_ => m_) ?_ ?_
     ·
      refine gl_cases ((↑(ya).length : Int) = (0 : Int)) (fun hg => ?_) (fun hg => ?_)
      ·
       refine gl_val (ov_move (v := .bool true) (congrArg some (vB_true hg))) rfl rfl rfl (gl_off rfl rfl rfl rfl rfl rfl (gl_off rfl rfl rfl rfl rfl rfl (gl_off rfl rfl rfl rfl rfl rfl (gl_off rfl rfl rfl rfl rfl rfl (gl_off rfl rfl rfl rfl rfl rfl (gl_off rfl rfl rfl rfl rfl rfl (gl_off rfl rfl rfl rfl rfl rfl (gv (ov_pick_t rfl rfl) rfl (gl_nil ?_)))))))))
       refine gq_cut mg1_4 (MLe.refl _) ⟨?_, trivial⟩ rfl rfl
       exact congrArg some (vB_or_t hg)
      ·
       refine gl_val (ov_move (v := .bool false) (congrArg some (vB_false hg))) rfl rfl rfl (gl_on rfl rfl rfl (gv (ov_field_addr Tryz.underlying29 rfl Tryz.sizeOf27 rfl) rfl (gl_on rfl rfl rfl (gv (ov_load_var (.head _) Tryz.isAgg27 rfl rfl) rfl (gl_on rfl rfl rfl (gv (ov_field_addr Tryz.underlying29 rfl Tryz.sizeOf27 rfl) rfl (gl_on rfl rfl rfl (gv (ov_load_var (.head _) Tryz.isAgg27 rfl rfl) rfl (gl_on rfl rfl rfl ?_)))))))))
       refine gl_call (vs := [_, _]) rfl rfl rfl rfl Tryz.call105 ⟨rfl, rfl, trivial⟩ (fun w hs => nat_gcd hs hna hda (by omega) (by omega)) ?_
       intro v48 h2 hh2 hr48
       try simp only [val_limbs] at hr48
       have hlm48 := limbs_len_gcd (val (xa)) (val (ya))
       refine gl_on rfl rfl rfl ?_
       refine gl_call (vs := [_]) rfl rfl rfl rfl Tryz.call103 ⟨rfl, trivial⟩ (fun w hs => nat_bits hs hr48 (by omega)) ?_
       intro v49 h3 hh3 hr49
       try simp only [val_limbs] at hr49
       subst hr49
       refine gl_on rfl rfl rfl (gv (ov_eql_i (q := 1) rfl rfl) rfl (gv (ov_pick_f rfl rfl) rfl (gl_nil ?_)))
       refine gq_cut h3 (hh2.trans hh3) ⟨?_, trivial⟩ rfl rfl
       exact congrArg some (vB_or_f hg)
     ·
      intro mg5_4 hmmg5_4
      show GL _ _ _ _ _ _ _ [(51, vB (((↑(ya).length : Int) = (0 : Int)) ∨ ((↑(bitsN (((Nat.gcd (val (xa)) (val (ya)))))) : Int) = (1 : Int))))] [.var b1 29 [vB sa, vna, vda]] mg5_4
      refine asg rfl rfl (gl_nil (gq_then (gc_ret (gq_body1 rfl rfl ?_))))
      exact vB_iff (valid_cons hc25 hc29)

theorem rref_den {w0 : World} {h0 : Mem}  (hs : MLe h0 (mem w0)) {sa : Prop} {ba vna vda : Value} {xa ya : List Nat} (hba : ba = vB sa) (hna : Us .u32 h0 vna xa) (hda : Us .u32 h0 vda ya) :
    Calls Tryz.prog 90 #[.agg #[ba, vna, vda]] w0 (Ret w0 h0 (fun h r => Us .u32 h r (if ya = [] then [1] else ya))) := by
 subst hba
 have hlx1 := limbs_len_le hna.lt
 have hly1 := limbs_len_le hda.lt
 refine calls_begin (n := 10) (e := [(0, .agg #[vB sa, vna, vda])]) (vs := [.agg #[vB sa, vna, vda]]) Tryz.func90 rfl rfl (Nat.le_of_ble_eq_true rfl) hs ⟨rfl, trivial⟩ (gc_seq (gc_region (gl_newop (new_box (cs := [_, _, _]) rfl rfl) rfl rfl rfl ?_)))
 intro v1 r1 hr1
 obtain ⟨b1, rfl, rfl⟩ := hr1
 refine asg rfl rfl (gl_nil (gq_then (gc_seq (gc_seq (gc_region (gv (ov_field_addr Tryz.underlying29 rfl Tryz.sizeOf27 rfl) rfl (gv (ov_load_var (.head _) Tryz.isAgg27 rfl rfl) rfl (gv (ov_len_us Tryz.underlying27 rfl hda) rfl (gv (ov_eql_i (q := 0) rfl rfl) rfl (gl_nil (gq_then ?_)))))))))))
 refine gc_cond rfl (fun hc6 => ?_) (fun hc6 => ?_)
 ·
  refine gc_seq (gc_region (gl_newop (new_build1 (kd := .u32) (p := 1) Tryz.underlying27 info78 rfl rfl rfl) rfl rfl rfl ?_))
  intro v7 r7 hr7
  obtain rfl := hr7
  refine gl_freeze_us0 (by intro z hz; simp only [List.mem_singleton] at hz; subst hz; decide) ?_
  intro h1 hh1 h9
  refine asg rfl rfl (gl_nil (gq_then (gc_ret (gr_then (gq_body1 rfl rfl ?_)))))
  rw [if_pos (len_zero.1 hc6)]
  exact h9
 ·
  refine gc_skip (gq_then (gc_seq (gc_region (gv (ov_field_addr Tryz.underlying29 rfl Tryz.sizeOf27 rfl) rfl (gv (ov_load_var (.head _) Tryz.isAgg27 rfl rfl) rfl (asg rfl rfl (gl_nil (gq_then (gc_ret (gq_body1 rfl rfl ?_))))))))))
  rw [if_neg (fun h => hc6 (len_zero.2 h))]
  exact hda

end Go.Proofs.YtkdmphehabpcfaaGreat
