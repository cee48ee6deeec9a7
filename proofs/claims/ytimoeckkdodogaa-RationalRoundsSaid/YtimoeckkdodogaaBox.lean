/- Variables that lie in memory, and structs: making, reading, writing, and results that are read out of a variable. They hold for any program P. -/
import Derived.Test.YtimoeckkdodogaaOps2
import Derived.Deep.MidRow
namespace Bk
set_option linter.unusedVariables false
set_option linter.unusedSimpArgs false
open Go Go.RowKit

section
variable {P : Program} {n : Nat} {w0 : World} {h0 : Mem} {e : List (Nat × Value)} {L : List Res} {h : Mem} {Q : Exit → Act → World → Prop}
variable {ds : Option Tmp} {ty : TypeId} {ps : String} {af : Array Edge} {gd : Option (Nat × Bool)}

/-- A variable in memory. -/
abbrev Res.var (b : Nat) (E : TypeId) (cs : List Value) : Res := .blk b (.cells cs.toArray E)
/-- Its address, or that of a part. -/
abbrev vP (b k : Nat) : Value := .pointer (some ⟨b, k, none⟩)

theorem heap_last (w : World) (o : Obj) : (w.alloc o).heap[w.heap.size]? = some o := by
  show (w.heap.push o)[w.heap.size]? = some o
  exact Array.getElem?_push_size

theorem new_box {E : TypeId} {x : Operand} {v : Value} {cs : List Value} (hx : evalO e x = some v) (hc : v.cells = cs.toArray) :
    NewOp P n w0 h0 ⟨ds, .box E x, ty, ps, af, gd⟩ e L h (fun u r => ∃ b, u = vP b 0 ∧ r = .var b E cs) := by
  intro a w Ev S
  refine ⟨_, w.alloc (.cells cs.toArray E), .var w.heap.size E cs, ?_, World.grownBy_alloc w _ none, ?_, fun b hb => ?_, _, rfl, rfl⟩
  · simp [execOp, Ev.eval hx, Instr.box, newVar, newRow, newObj, Sem.run, hc]
  · exact heap_last w _
  · simp only [Res.fp, Option.some.injEq] at hb
    omega

theorem new_alloc {E : TypeId} {i : TypeInfo} {z : Value} {cs : List Value} (hi : P.info? E = some i) (hz : i.zero = some z) (hc : z.cells = cs.toArray) :
    NewOp P n w0 h0 ⟨ds, .alloc E, ty, ps, af, gd⟩ e L h (fun u r => ∃ b, u = vP b 0 ∧ r = .var b E cs) := by
  intro a w Ev S
  refine ⟨_, w.alloc (.cells cs.toArray E), .var w.heap.size E cs, ?_, World.grownBy_alloc w _ none, ?_, fun b hb => ?_, _, rfl, rfl⟩
  · have hz' : (zeroValue E).run P w = .ok z w := by simp [zeroValue, typeInfo, hi, hz]
    simp [execOp, Instr.alloc, hz', newVar, newRow, newObj, Sem.run, hc]
  · exact heap_last w _
  · simp only [Res.fp, Option.some.injEq] at hb
    omega

theorem ov_field_addr {t : TypeId} {x : Operand} {f b k : Nat} {fs : Array Field} {fl : Field} {m : Nat} (ht : P.underlying t = some (.struct fs)) (hf : fs[f]? = some fl) (hsz : ∀ w, (Go.sizeOf fl.type).run P w = .ok (m + 1) w) (hx : evalO e x = some (vP b k)) :
    OpV P n w0 h0 ⟨ds, .fieldAddr t x f, ty, ps, af, gd⟩ e L h (vP b (k + fl.offset)) := by
  intro a w Ev S
  simp [execOp, Ev.eval hx, Instr.fieldAt, run_underlying ht, hf, Instr.sureAddr, fieldPlace, hsz, addr_add]

theorem var_range {b : Nat} {E : TypeId} {cs : List Value} {w : World} (hw : w.heap[b]? = some (.cells cs.toArray E)) (k : Nat) (vs : List Value) (hv : (cs.drop k).take vs.length = vs) : w.rangeAt b k vs := by
  intro j v hj
  have hjl : j < vs.length := (List.getElem?_eq_some_iff.1 hj).1
  have h1 : cs[k + j]? = some v := by
    rw [← hv, List.getElem?_take, if_pos hjl, List.getElem?_drop] at hj
    exact hj
  unfold World.cell?
  simp [hw, h1]

/-- A variable of one cell, or a part of one cell, is read. -/
theorem ov_load_var {t : TypeId} {x : Operand} {b k : Nat} {E : TypeId} {cs : List Value} {v : Value} (hm : .var b E cs ∈ L) (ha : ∀ w, (isAgg t).run P w = .ok false w) (hx : evalO e x = some (vP b k)) (hv : cs[k]? = some v) :
    OpV P n w0 h0 ⟨ds, .load t x, ty, ps, af, gd⟩ e L h v := by
  intro a w Ev S
  have hw : w.heap[b]? = some (.cells cs.toArray E) := S.ok _ hm
  have hc : w.cell? ⟨b, k, none⟩ = some v := by unfold World.cell?; simp [hw, hv]
  simp [execOp, Ev.eval hx, Instr.loadAt, Instr.sureAddr, loadVar, ha, Go.load, Sem.run, hc]

/-- A struct is read. -/
theorem ov_load_agg {t : TypeId} {x : Operand} {b k : Nat} {E : TypeId} {cs vs : List Value} {d : TypeDesc} (hm : .var b E cs ∈ L) (hu : P.underlying t = some d) (hd : d.isRow = true) (hi : (P.info? t).map (·.size) = some vs.length) (hx : evalO e x = some (vP b k)) (hv : (cs.drop k).take vs.length = vs) :
    OpV P n w0 h0 ⟨ds, .load t x, ty, ps, af, gd⟩ e L h (.agg vs.toArray) := by
  intro a w Ev S
  have hw : w.heap[b]? = some (.cells cs.toArray E) := S.ok _ hm
  simp only [execOp, Ev.eval hx]
  rw [Sem.run_bind, run_loadAt_mid w b k t vs d (var_range hw k vs hv) hu hd hi]
  rfl

theorem setCells_var {b : Nat} {E : TypeId} : ∀ (vs : List Value) (k : Nat) (cs : List Value) (w : World), w.heap[b]? = some (.cells cs.toArray E) →
    (w.setCells b k vs).heap[b]? = some (.cells (vs.zipIdx.foldl (fun c p => c.set (k + p.2) p.1) cs).toArray E) ∧ w.grownBy (w.setCells b k vs) (some b)
  | [], k, cs, w, hw => ⟨hw, ⟨rfl, rfl, rfl, Nat.le_refl _, fun _ _ _ => rfl⟩⟩
  | v :: r, k, cs, w, hw => by
    have h1 : (w.setCell ⟨b, k, none⟩ v).heap[b]? = some (.cells (cs.set k v).toArray E) := by
      simp [World.setCell, Array.getElem?_modify, hw]
    obtain ⟨h2, h3⟩ := setCells_var r (k + 1) (cs.set k v) _ h1
    have e1 : ((v :: r).zipIdx.foldl (fun c p => c.set (k + p.2) p.1) cs) = (r.zipIdx.foldl (fun c p => c.set (k + 1 + p.2) p.1) (cs.set k v)) := by
      rw [List.zipIdx_cons, List.foldl_cons, Nat.add_zero, List.zipIdx_succ, List.foldl_map]
      congr 1
      funext c p
      rw [show k + (p.2 + 1) = k + 1 + p.2 by omega]
    refine ⟨?_, ?_⟩
    · rw [World.setCells, e1]; exact h2
    · have hlt : b < w.heap.size := (Array.getElem?_eq_some_iff.1 hw).1
      refine ⟨?_, ?_, ?_, ?_, ?_⟩
      · exact h3.os
      · exact h3.tape
      · exact h3.output
      · have := h3.size
        simpa [World.setCells, World.setCell] using this
      · intro b' hb' hne
        have h4 := h3.block b' (by simpa [World.setCell] using hb') hne
        rw [World.setCells, h4]
        have : b ≠ b' := fun hh => hne (by rw [hh])
        simp [World.setCell, Array.getElem?_modify, this]

/-- What lies there behind a store. -/
def putAt (cs : List Value) (k : Nat) (vs : List Value) : List Value := vs.zipIdx.foldl (fun c p => c.set (k + p.2) p.1) cs

/-- A variable, or a part of it, is written. -/
theorem upd_store_var {A B : List Res} {E t : TypeId} {b k : Nat} {cs vs : List Value} {v : Value} {x y : Operand} (hx : evalO e x = some (vP b k)) (hy : evalO e y = some v) (hv : v.cells = vs.toArray) (h1 : vs.all (·.oneCell') = true)
    (hi : (P.info? t).map (·.size) = some vs.length) (hk : k + vs.length ≤ cs.length) : Upd P n w0 h0 ⟨ds, .store t x y, ty, ps, af, gd⟩ e A (.var b E cs) B h (.var b E (putAt cs k vs)) := by
  intro a w Ev S
  have hw : w.heap[b]? = some (.cells cs.toArray E) := S.ok (.var b E cs) (by simp)
  obtain ⟨h2, h3⟩ := setCells_var vs k cs w hw
  refine ⟨w.setCells b k vs, ?_, h3, h2⟩
  have hthere : w.there b k vs.length := by
    intro j hj
    have : k + j < cs.length := by omega
    refine ⟨?_, ?_⟩
    · unfold World.cell?
      simp [hw, this]
    · simp [World.frozen?, hw]
  have hrun := run_storeCells_cells (P := P) b k vs 0 w (fun j hj => by simpa using (hthere j hj).1) (fun j hj => by simpa using (hthere j hj).2) (fun u hu => List.all_eq_true.1 h1 u hu)
  have hsz : (Go.sizeOf t).run P w = .ok vs.length w := by
    cases hq : P.info? t with
    | none => simp [hq] at hi
    | some i =>
      have : i.size = vs.length := by simpa [hq] using hi
      simp [Go.sizeOf, typeInfo, hq, this]
  simp only [Nat.add_zero] at hrun
  simp [execOp, Ev.eval hx, Ev.eval hy, Instr.storeAt, Instr.sureAddr, storeVar, hsz, hv, hrun]

def PartsV (e : List (Nat × Value)) : List (Nat × Operand) → List (Nat × Value) → Prop
  | [], [] => True
  | (i, x) :: r, (j, v) :: s => i = j ∧ evalO e x = some v ∧ PartsV e r s
  | _, _ => False

theorem PartsV.eval {a : Act} (Ev : Env n e a) : ∀ {ps : List (Nat × Operand)} {vs : List (Nat × Value)}, PartsV e ps vs → (ps.map fun p => (p.1, a.eval p.2)) = vs
  | [], [], _ => rfl
  | (i, x) :: r, (j, v) :: s, h => by
    obtain ⟨rfl, h2, h3⟩ := h
    rw [List.map_cons, PartsV.eval Ev h3, Ev.eval h2]
  | [], _ :: _, h => h.elim
  | _ :: _, [], h => h.elim

theorem Us.oneCell {k : IntKind} {v : Value} {xs : List Nat} (s : Us k h v xs) : v.oneCell' = true := by
  obtain ⟨_, _, rfl⟩ := s.one
  rfl
theorem Us.cells {k : IntKind} {v : Value} {xs : List Nat} (s : Us k h v xs) : v.cells = [v].toArray := by
  obtain ⟨_, _, rfl⟩ := s.one
  rfl

theorem oc0 : ([] : List Value).all (·.oneCell') = true := rfl
theorem ocu {k : IntKind} {h : Mem} {v : Value} {xs : List Nat} {cs : List Value} (s : Us k h v xs) (r : cs.all (·.oneCell') = true) : (v :: cs).all (·.oneCell') = true := by
  rw [List.all_cons, s.oneCell, r]; rfl
theorem ocr {v : Value} {cs : List Value} (s : v.oneCell' = true) (r : cs.all (·.oneCell') = true) : (v :: cs).all (·.oneCell') = true := by
  rw [List.all_cons, s, r]; rfl
/-- A struct is built. -/
theorem ov_build_parts {t : TypeId} {i : TypeInfo} {z : Value} {fs : Array Field} {places : Array (Nat × Nat)} {parts : List (Nat × Operand)} {ps' : List (Nat × Value)} {vs : List Value} (ht : P.underlying t = some (.struct fs)) (hi : P.info? t = some i) (hz : i.zero = some z)
    (hpl : ∀ w, (fs.mapM fun (f : Field) => do pure (f.offset, ← Go.sizeOf f.type)).run P w = .ok places w) (hp : PartsV e parts ps') (hf : Instr.fill (places[·]?) z.cells ps' = some vs.toArray) :
    OpV P n w0 h0 ⟨ds, .build t parts.toArray, ty, ps, af, gd⟩ e L h (.agg vs.toArray) := by
  intro a w Ev S
  have hpa : (parts.toArray.map fun (p : Nat × Operand) => (p.1, a.eval p.2)).toList = ps' := by
    rw [List.map_toArray]
    exact hp.eval Ev
  have hz' : (zeroValue t).run P w = .ok z w := by simp [zeroValue, typeInfo, hi, hz]
  simp only [execOp, Instr.build]
  rw [show (parts.toArray.map fun (i, x) => (i, a.eval x)).toList = ps' from hpa]
  simp only [Sem.run_bind, hz', Result.andThen_ok, run_underlying ht, hpl, hf]
  rfl

/-- The same, by values. -/
theorem ov_build {t : TypeId} {i : TypeInfo} {z : Value} {fs : Array Field} {places : Array (Nat × Nat)} {parts : Array (Nat × Operand)} {ps' : List (Nat × Value)} {vs : List Value} (ht : P.underlying t = some (.struct fs)) (hi : P.info? t = some i) (hz : i.zero = some z)
    (hpl : ∀ w, (fs.mapM fun (f : Field) => do pure (f.offset, ← Go.sizeOf f.type)).run P w = .ok places w) (hp : ∀ a, Env n e a → (parts.map fun (i, x) => (i, a.eval x)).toList = ps') (hf : Instr.fill (places[·]?) z.cells ps' = some vs.toArray) :
    OpV P n w0 h0 ⟨ds, .build t parts, ty, ps, af, gd⟩ e L h (.agg vs.toArray) := by
  intro a w Ev S
  have hpa := hp a Ev
  have hz' : (zeroValue t).run P w = .ok z w := by simp [zeroValue, typeInfo, hi, hz]
  simp only [execOp, Instr.build]
  rw [show (parts.map fun (i, x) => (i, a.eval x)).toList = ps' from hpa]
  simp only [Sem.run_bind, hz', Result.andThen_ok, run_underlying ht, hpl, hf]
  rfl

/-- A field of a struct's value. -/
theorem ov_field {t : TypeId} {x : Operand} {cs : List Value} {f : Nat} {v : Value} (hr : ∀ w, (Instr.field t (.agg cs.toArray) f).run P w = .ok v w) (hx : evalO e x = some (.agg cs.toArray)) : OpV P n w0 h0 ⟨ds, .field t x f, ty, ps, af, gd⟩ e L h v := by
  intro a w Ev S
  simp [execOp, Ev.eval hx, hr]

/-! ### Results -/

/-- One result is read. -/
def resRun (tmps : Array Value) : ResultVar → Sem Value
  | .tmp t => pure (tmps.getD t undef)
  | .cell a t => do loadVar t (← asAddr (tmps.getD a undef))

def RV (P : Program) (n : Nat) (w0 : World) (h0 : Mem) (r : ResultVar) (e : List (Nat × Value)) (L : List Res) (h : Mem) (v : Value) : Prop := ∀ a w, Env n e a → St w0 h0 L h w → (resRun a.tmps r).run P w = .ok v w

theorem rv_tmp {t : Nat} {v : Value} (hv : evalO e (.tmp t) = some v) : RV P n w0 h0 (.tmp t) e L h v := by
  intro a w E S
  have := E.eval hv
  simp only [Act.eval] at this
  simp [resRun, this]
theorem rv_var {t : Nat} {T E : TypeId} {b : Nat} {cs : List Value} {v : Value} (hm : .var b E cs ∈ L) (ha : ∀ w, (isAgg T).run P w = .ok false w) (hx : evalO e (.tmp t) = some (vP b 0)) (hv : cs[0]? = some v) : RV P n w0 h0 (.cell t T) e L h v := by
  intro a w Ev S
  have hw : w.heap[b]? = some (.cells cs.toArray E) := S.ok _ hm
  have hc : w.cell? ⟨b, 0, none⟩ = some v := by unfold World.cell?; simp [hw, hv]
  have := Ev.eval hx
  simp only [Act.eval] at this
  simp [resRun, this, asAddr, loadVar, ha, Go.load, Sem.run, hc]
theorem rv_agg {t : Nat} {T E : TypeId} {b : Nat} {cs : List Value} {d : TypeDesc} (hm : .var b E cs ∈ L) (hu : P.underlying T = some d) (hd : d.isRow = true) (hi : (P.info? T).map (·.size) = some cs.length) (hx : evalO e (.tmp t) = some (vP b 0)) : RV P n w0 h0 (.cell t T) e L h (.agg cs.toArray) := by
  intro a w Ev S
  have hw : w.heap[b]? = some (.cells cs.toArray E) := S.ok _ hm
  have := Ev.eval hx
  simp only [Act.eval] at this
  have h2 := run_loadVar_mid (P := P) w b 0 T cs d (var_range hw 0 cs (by simp)) hu hd hi
  simp [resRun, this, asAddr, h2]

theorem results_run (fn : Func) (tmps : Array Value) : results fn tmps = (do let vs ← fn.results.mapM (resRun tmps); pure (if h : vs.size = 1 then vs[0] else .tuple vs)) := by
  unfold results
  congr 1

section
variable {fn : Func} {r1 r2 r3 r4 : ResultVar} {v1 v2 v3 v4 : Value} {R : Mem → Value → Prop} {RO : Mem → Value → List Res → Prop}

theorem run_res1 (hr : fn.results = #[r1]) (h1 : RV P n w0 h0 r1 e L h v1) {a : Act} {w : World} (Ev : Env n e a) (S : St w0 h0 L h w) : (results fn a.tmps).run P w = .ok v1 w := by
  simp [results_run, hr, h1 a w Ev S]
theorem run_res2 (hr : fn.results = #[r1, r2]) (h1 : RV P n w0 h0 r1 e L h v1) (h2 : RV P n w0 h0 r2 e L h v2) {a : Act} {w : World} (Ev : Env n e a) (S : St w0 h0 L h w) : (results fn a.tmps).run P w = .ok (.tuple #[v1, v2]) w := by
  simp [results_run, hr, h1 a w Ev S, h2 a w Ev S]
theorem run_res3 (hr : fn.results = #[r1, r2, r3]) (h1 : RV P n w0 h0 r1 e L h v1) (h2 : RV P n w0 h0 r2 e L h v2) (h3 : RV P n w0 h0 r3 e L h v3) {a : Act} {w : World} (Ev : Env n e a) (S : St w0 h0 L h w) : (results fn a.tmps).run P w = .ok (.tuple #[v1, v2, v3]) w := by
  simp [results_run, hr, h1 a w Ev S, h2 a w Ev S, h3 a w Ev S]
theorem run_res4 (hr : fn.results = #[r1, r2, r3, r4]) (h1 : RV P n w0 h0 r1 e L h v1) (h2 : RV P n w0 h0 r2 e L h v2) (h3 : RV P n w0 h0 r3 e L h v3) (h4 : RV P n w0 h0 r4 e L h v4) {a : Act} {w : World} (Ev : Env n e a) (S : St w0 h0 L h w) : (results fn a.tmps).run P w = .ok (.tuple #[v1, v2, v3, v4]) w := by
  simp [results_run, hr, h1 a w Ev S, h2 a w Ev S, h3 a w Ev S, h4 a w Ev S]

theorem gq_res {v : Value} (hres : ∀ {a : Act} {w : World}, Env n e a → St w0 h0 L h w → (results fn a.tmps).run P w = .ok v w) (hR : R h v) : GQ n w0 h0 (bodyPost P fn (Ret w0 h0 R)) .ret e L h := by
  intro a w E S
  exact bodyPost_ret (hres E S) E.defers ⟨_, h, rfl, hR, S.sublist (List.nil_sublist _)⟩
theorem gq_res_own {v : Value} (hres : ∀ {a : Act} {w : World}, Env n e a → St w0 h0 L h w → (results fn a.tmps).run P w = .ok v w) (hR : RO h v L) : GQ n w0 h0 (bodyPost P fn (RetOwn w0 h0 RO)) .ret e L h := by
  intro a w E S
  exact bodyPost_ret (hres E S) E.defers ⟨_, h, L, rfl, hR, S⟩
end
end
end Bk
