/- More operations of the walking logic: appending, slices that are written out, bytes as a string. They hold for any program P. -/
import Derived.Test.YtimoeckkdodogaaDrawOps
namespace Bk
set_option linter.unusedVariables false
set_option linter.unusedSimpArgs false
open Go Go.RowKit

section
variable {P : Program} {n : Nat} {w0 : World} {h0 : Mem} {e : List (Nat × Value)} {L : List Res} {h : Mem} {Q : Exit → Act → World → Prop}
variable {ds : Option Tmp} {ty : TypeId} {ps : String} {af : Array Edge} {gd : Option (Nat × Bool)}

/-- An operation that yields a value and changes something that is owned. -/
def RepOp (P : Program) (n : Nat) (w0 : World) (h0 : Mem) (o : Oper) (e : List (Nat × Value)) (A : List Res) (r : Res) (B : List Res) (h : Mem) (G : Value → Res → Prop) : Prop :=
  ∀ a w, Env n e a → St w0 h0 (A ++ r :: B) h w → ∃ v w' r', (execOp a.eval o).run P w = .ok (.value v) w' ∧ w.grownBy w' r.fp ∧ r'.ok w0.heap.size w' ∧ (∀ b, r'.fp = some b → r.fp = some b ∨ w.heap.size ≤ b) ∧ G v r'

theorem gl_repop {ops : Array Oper} {rest : List Oper} {o : Oper} {d : Nat} {A B : List Res} {r : Res} {G : Value → Res → Prop} (hv : RepOp P n w0 h0 o e A r B h G) (hg : o.guard = none) (hd : o.dst = some d) (hn : Nat.ble (d + 1) n = true)
    (k : ∀ v r', G v r' → GL P n w0 h0 ops Q rest ((d, v) :: e) (A ++ r' :: B) h) : GL P n w0 h0 ops Q (o :: rest) e (A ++ r :: B) h := by
  intro a w Ev S
  refine wpList_plain hg fun K hK => ?_
  obtain ⟨v, w', r', hr, hgr, hok, hfp, hG⟩ := hv a w Ev S
  unfold Oper.wp
  rw [hr, Oper.upon_value, hd]
  exact hK _ _ (k v r' hG _ _ (Ev.put (Nat.le_of_ble_eq_true hn)) (S.grown hgr hok hfp))

/-- An operation that yields a value; a move; an assignment. -/
theorem gv {ops : Array Oper} {rest : List Oper} {d : Nat} {op : Op} {v : Value} (hv : OpV P n w0 h0 ⟨some d, op, ty, ps, af, none⟩ e L h v) (hn : Nat.ble (d + 1) n = true) (k : GL P n w0 h0 ops Q rest ((d, v) :: e) L h) : GL P n w0 h0 ops Q (⟨some d, op, ty, ps, af, none⟩ :: rest) e L h :=
  gl_val hv rfl rfl hn k
theorem mv {ops : Array Oper} {rest : List Oper} {d : Nat} {x : Operand} {v : Value} (hx : evalO e x = some v) (hn : Nat.ble (d + 1) n = true) (k : GL P n w0 h0 ops Q rest ((d, v) :: e) L h) : GL P n w0 h0 ops Q (⟨some d, .move x, ty, ps, af, none⟩ :: rest) e L h :=
  gl_val (ov_move hx) rfl rfl hn k
theorem asg {ops : Array Oper} {rest : List Oper} {d : Nat} {x : Operand} {v : Value} (hx : evalO e x = some v) (hn : Nat.ble (d + 1) n = true) (k : GL P n w0 h0 ops Q rest ((d, v) :: e) L h) : GL P n w0 h0 ops Q (⟨some d, .assign x, ty, ps, af, none⟩ :: rest) e L h :=
  gl_val (ov_assign hx) rfl rfl hn k

/-- append of a slice that is only read to one of the call's own. -/
theorem rep_append {A B : List Res} {t E : TypeId} {i : TypeInfo} {z : Value} {k bytes m m' : Nat} {v v' : Value} {cs cs' : List Value} {x y : Operand} (ht : P.underlying t = some (.slice E)) (hi : P.info? E = some i) (hz : i.zero = some z) (hsize : i.size = k) (hby : i.bytes = bytes)
    (hzs : z.cells.size = k) (hk : 0 < k) (hx : evalO e x = some v) (hy : evalO e y = some v') (hv' : Sl h k v' m' cs') (hone : ∀ u ∈ cs', u.oneCell' = true) (hlen : m + m' < 9223372036854775808) (hb' : (m + m') * bytes ≤ 140737488355328) :
    RepOp P n w0 h0 ⟨ds, .call { callee := .builtin .append, args := #[x, y], argTypes := #[t, t] }, ty, ps, af, gd⟩ e A (.gs E k v m cs) B h (fun u r' => r' = .gs E k u (m + m') (cs ++ cs')) := by
  intro a w Ev S
  have hown : w.ownsRow w0.heap.size E k v m cs := S.ok (.gs E k v m cs) (by simp)
  obtain ⟨ad, cap, rfl, h1, h2, h3, h4⟩ := hv'
  have hex : ∀ u w', (Builtin.append_ #[t, t] ty #[v, .slice ad m' cap]).run P w = .ok u w' → (execOp a.eval ⟨ds, .call { callee := .builtin .append, args := #[x, y], argTypes := #[t, t] }, ty, ps, af, gd⟩).run P w = .ok (.value u) w' := by
    intro u w' hr
    simp [execOp, resolve, invoke, builtin, Ev.eval hx, Ev.eval hy, hr]
  by_cases hnil : ad = none
  · subst hnil
    have hc : cs' = [] := by
      cases cs' with
      | nil => rfl
      | cons c cs' => obtain ⟨b, o, hb, _⟩ := h4 0 (by simp); cases hb
    subst hc
    have hm : m' = 0 := by
      rcases Nat.eq_zero_or_pos m' with h5 | h5
      · exact h5
      · have := Nat.mul_pos h5 hk
        simp only [List.length_nil] at h3
        omega
    subst hm
    refine ⟨v, w, .gs E k v (m + 0) (cs ++ []), hex _ _ ?_, ⟨rfl, rfl, rfl, Nat.le_refl _, fun _ _ _ => rfl⟩, by simp only [Nat.add_zero, List.append_nil]; exact hown, fun b hb => .inl hb, rfl⟩
    have hfl : (Builtin.firstCells k 0 (.slice none 0 cap)).run P w = .ok #[] w := by simp [Builtin.firstCells]
    rcases hown.2 with ⟨rfl, rfl⟩ | ⟨g, cp, cur, rfl, _, _, hnc, _⟩
    · simp [Builtin.append_, run_underlying ht, Go.sizeOf, typeInfo, hi, Builtin.lenOf, Builtin.firstCells]
    · simp [Builtin.append_, run_underlying ht, Go.sizeOf, typeInfo, hi, Builtin.lenOf, Builtin.firstCells, hnc, storeCells]
  · obtain ⟨p, rfl⟩ := Option.ne_none_iff_exists'.1 hnil
    have hcell : ∀ j u, cs'[j]? = some u → w.cell? (p.add j) = some u := by
      intro j u hu
      obtain ⟨hj, _⟩ := List.getElem?_eq_some_iff.1 hu
      obtain ⟨b, o, hp, hc⟩ := h4 j hj
      cases hp
      rw [hu] at hc
      rw [addr_add]
      exact cell_world S.sub hc
    obtain ⟨u, w', hr, ho, hgr, hiff⟩ := run_append_own (P := P) w w0.heap.size t ty E i z k bytes ht hi hz hsize hby hzs hk v m cs hown p m' cap cs' h3 hcell hone (by unfold maxLen; omega) hb' S.below.size
    refine ⟨u, w', .gs E k u (m + m') (cs ++ cs'), hex _ _ hr, hgr, ho, fun b hb => ?_, rfl⟩
    simp only [Res.fp] at hb ⊢
    by_cases hv : v.ownBlock = some b
    · exact .inl hv
    · right
      rcases Nat.lt_or_ge b w.heap.size with hlt | hge
      · exfalso
        have key : v.ownBlock = some b ∨ b = w.heap.size := by
          have hown' := hown
          rcases hown'.2 with ⟨rfl, rfl⟩ | ⟨g, cp, cur, rfl, hbg, hg, hnc, hcm, hcs, htake⟩
          · by_cases hm0 : m' = 0
            · subst hm0
              have : (Builtin.append_ #[t, t] ty #[.slice none 0 0, .slice (some p) 0 cap]).run P w = .ok (.slice none 0 0) w := by
                simp [Builtin.append_, run_underlying ht, Go.sizeOf, typeInfo, hi, Builtin.lenOf, Builtin.firstCells, loadCells, loadCellsFrom]
              rw [this] at hr
              cases hr
              simp [Value.ownBlock] at hb
            · have h6 := run_append_nil (P := P) w t ty E i z ht hi hz p m' cap cs' (by rw [hsize]; exact h3) hcell (by omega) (by omega) (by rw [hby]; simp only [Nat.zero_add] at hb'; omega)
              rw [h6] at hr
              cases hr
              simp only [Value.ownBlock, Option.some.injEq] at hb
              exact .inr hb.symm
          · by_cases hroom : m + m' ≤ cp
            · have h6 := run_append_room (P := P) w t ty E i ht hi g m cp cur hg p m' cap cs' (by rw [hsize]; exact h3) hcell hone hroom (by rw [hsize, h3, hcs, ← Nat.add_mul]; exact Nat.mul_le_mul_right _ hroom)
              rw [h6] at hr
              cases hr
              exact .inl hb
            · have hcells : ∀ j u, cs[j]? = some u → w.cell? ((⟨g, 0, none⟩ : Addr).add j) = some u := hown.cells (g := g) rfl
              have h6 := run_append_grow (P := P) w t ty E i z ht hi hz ⟨g, 0, none⟩ m cp cs (by rw [hsize]; exact hown.1) hcells p m' cap cs' (by rw [hsize]; exact h3) hcell (by omega) (by omega) (growslice_fits (by omega) (by rw [hby]; exact hb'))
              rw [h6] at hr
              cases hr
              simp only [Value.ownBlock, Option.some.injEq] at hb
              exact .inr hb.symm
        rcases key with h5 | h5
        · exact hv h5
        · omega
      · exact hge

theorem us_one {k : IntKind} {xs : List Nat} : ∀ u ∈ Bk.us k xs, u.oneCell' = true := by
  intro u hu
  obtain ⟨x, _, rfl⟩ := List.mem_map.1 hu
  rfl

theorem rep_append_us {A B : List Res} {t E : TypeId} {i : TypeInfo} {bytes : Nat} {kd : IntKind} {v v' : Value} {xs ys : List Nat} {x y : Operand} (ht : P.underlying t = some (.slice E)) (hi : P.info? E = some i) (hz : i.zero = some (.int kd 0)) (hsize : i.size = 1) (hby : i.bytes = bytes)
    (hx : evalO e x = some v) (hy : evalO e y = some v') (hv' : Us kd h v' ys) (hlen : xs.length + ys.length < 9223372036854775808) (hb' : (xs.length + ys.length) * bytes ≤ 140737488355328) :
    RepOp P n w0 h0 ⟨ds, .call { callee := .builtin .append, args := #[x, y], argTypes := #[t, t] }, ty, ps, af, gd⟩ e A (.us E kd v xs) B h (fun u r' => r' = .us E kd u (xs ++ ys)) := by
  intro a w Ev S
  obtain ⟨u, w', r', h1, h2, h3, h4, h5⟩ := rep_append (A := A) (B := B) (v := v) (cs := Bk.us kd xs) (m := xs.length) (ds := ds) (ty := ty) (ps := ps) (af := af) (gd := gd) ht hi hz hsize hby rfl (by omega) hx hy hv'.sl us_one hlen hb' a w Ev S
  refine ⟨u, w', r', h1, h2, h3, h4, ?_⟩
  rw [h5]
  simp [Res.us, Bk.us]

/-- An own slice is made of values that are written out. -/
theorem new_build {t E : TypeId} {i : TypeInfo} {z : Value} {parts : Array (Nat × Operand)} {ps' : List (Nat × Value)} {m : Nat} {vs : List Value} (ht : P.underlying t = some (.slice E)) (hi : P.info? E = some i) (hz : i.zero = some z) (hsize : i.size = 1) (hzs : z.cells = #[z])
    (hp : ∀ a, Env n e a → (parts.map fun (i, x) => (i, a.eval x)).toList = ps') (hf : Instr.fill (fun i => some (i * 1, 1)) (Array.replicate m z) ps' = some vs.toArray) (hl : vs.length = m) (hm : m ≤ 16777216) :
    NewOp P n w0 h0 ⟨ds, .buildSlice t m parts, ty, ps, af, gd⟩ e L h (fun v r => r = .gs E 1 v m vs) := by
  intro a w Ev S
  have hpa := hp a Ev
  have hzero : ((Array.range (m * 1)).map fun j => z.cells[j % z.cells.size]!) = Array.replicate m z := by
    rw [hzs, Nat.mul_one]
    apply Array.ext_getElem?
    intro j
    by_cases hj : j < m
    · simp [hj, Nat.mod_one]
    · simp [hj]
  refine ⟨.slice (some ⟨w.heap.size, 0, none⟩) m m, w.alloc (.cells vs.toArray E), .gs E 1 (.slice (some ⟨w.heap.size, 0, none⟩) m m) m vs, ?_, World.grownBy_alloc w _ none, ?_, fun b hb => ?_, rfl⟩
  · have h24 : ¬ (m > 16777216) := by omega
    simp only [execOp, Instr.buildSlice]
    rw [show (parts.map fun (i, x) => (i, a.eval x)).toList = ps' from hpa]
    by_cases h0 : m = 0
    · subst h0
      have hvs : vs = [] := List.eq_nil_of_length_eq_zero hl
      subst hvs
      simp at hf
      simp [run_underlying ht, Go.sizeOf, typeInfo, hi, hsize, newRow, newObj, Sem.run, Array.range_zero', hf]
    · have hz' : (zeroValue E).run P w = .ok z w := by simp [zeroValue, typeInfo, hi, hz]
      have hzero' := hzero
      simp only [Nat.mul_one] at hzero' hf
      simp [run_underlying ht, Go.sizeOf, typeInfo, hi, hsize, newRow, h0, h24, hz', hzero', hf]
  · have := World.ownsRow_lit (w := w) (base := w0.heap.size) (e := E) (size := 1) vs.toArray m S.below.size (by unfold maxLen; omega) (by simp [hl])
    exact this
  · simp only [Res.fp, Value.ownBlock, Option.some.injEq] at hb
    omega

theorem new_build0 {t E : TypeId} {i : TypeInfo} {kd : IntKind} (ht : P.underlying t = some (.slice E)) (hi : P.info? E = some i) (hz : i.zero = some (.int kd 0)) (hsize : i.size = 1) :
    NewOp P n w0 h0 ⟨ds, .buildSlice t 0 #[], ty, ps, af, gd⟩ e L h (fun v r => r = .us E kd v []) :=
  new_build (ps' := []) (vs := []) ht hi hz hsize rfl (fun _ _ => by simp) rfl rfl (by omega)
theorem new_build1 {t E : TypeId} {i : TypeInfo} {kd : IntKind} {x : Operand} {p : Nat} (ht : P.underlying t = some (.slice E)) (hi : P.info? E = some i) (hz : i.zero = some (.int kd 0)) (hsize : i.size = 1) (hx : evalO e x = some (vU kd p)) :
    NewOp P n w0 h0 ⟨ds, .buildSlice t 1 #[(0, x)], ty, ps, af, gd⟩ e L h (fun v r => r = .us E kd v [p]) :=
  new_build (ps' := [(0, vU kd p)]) (vs := [vU kd p]) ht hi hz hsize rfl (fun a Ev => by simp [Ev.eval hx]) rfl rfl (by omega)
theorem new_build2 {t E : TypeId} {i : TypeInfo} {kd : IntKind} {x y : Operand} {p q : Nat} (ht : P.underlying t = some (.slice E)) (hi : P.info? E = some i) (hz : i.zero = some (.int kd 0)) (hsize : i.size = 1) (hx : evalO e x = some (vU kd p)) (hy : evalO e y = some (vU kd q)) :
    NewOp P n w0 h0 ⟨ds, .buildSlice t 2 #[(0, x), (1, y)], ty, ps, af, gd⟩ e L h (fun v r => r = .us E kd v [p, q]) :=
  new_build (ps' := [(0, vU kd p), (1, vU kd q)]) (vs := [vU kd p, vU kd q]) ht hi hz hsize rfl (fun a Ev => by simp [Ev.eval hx, Ev.eval hy]) rfl rfl (by omega)
theorem new_build3 {t E : TypeId} {i : TypeInfo} {kd : IntKind} {x y z : Operand} {p q s : Nat} (ht : P.underlying t = some (.slice E)) (hi : P.info? E = some i) (hz : i.zero = some (.int kd 0)) (hsize : i.size = 1) (hx : evalO e x = some (vU kd p)) (hy : evalO e y = some (vU kd q)) (hs : evalO e z = some (vU kd s)) :
    NewOp P n w0 h0 ⟨ds, .buildSlice t 3 #[(0, x), (1, y), (2, z)], ty, ps, af, gd⟩ e L h (fun v r => r = .us E kd v [p, q, s]) :=
  new_build (ps' := [(0, vU kd p), (1, vU kd q), (2, vU kd s)]) (vs := [vU kd p, vU kd q, vU kd s]) ht hi hz hsize rfl (fun a Ev => by simp [Ev.eval hx, Ev.eval hy, Ev.eval hs]) rfl rfl (by omega)

/-- Bytes as a string. -/
def strOf (xs : List Nat) : ByteArray := ⟨(xs.map UInt8.ofNat).toArray⟩

theorem ov_bytes_str {v : Value} {xs : List Nat} {s t E : TypeId} {x : Operand} (hs : P.underlying s = some (.slice E)) (he : P.underlying E = some (.int .u8)) (ht : P.underlying t = some .string) (hx : evalO e x = some v) (hv : Us .u8 h v xs) :
    OpV P n w0 h0 ⟨ds, .convert s t x, ty, ps, af, gd⟩ e L h (.string (strOf xs)) := by
  intro a w Ev S
  obtain ⟨ad, cap, rfl, h1, h2, h3, h4⟩ := hv.sl
  have key : (convert s t (.slice ad xs.length cap)).run P w = .ok (.string (strOf xs)) w := by
    by_cases hnil : ad = none
    · subst hnil
      have hx0 : xs = [] := by
        cases xs with
        | nil => rfl
        | cons c cs => obtain ⟨b, o, hb, _⟩ := h4 0 (by simp [Bk.us]); cases hb
      subst hx0
      exact run_convert_bytes_nil (P := P) (w := w) s E hs he 0 cap t ht
    · obtain ⟨p, rfl⟩ := Option.ne_none_iff_exists'.1 hnil
      by_cases hx0 : xs = []
      · subst hx0
        show (convert s t (.slice (some p) 0 cap)).run P w = _
        rw [run_convert_bytes_string w s t E _ 0 cap hs he ht]
        simp [Conv.bytesToString, loadCells, loadCellsFrom, strOf]
        rfl
      · have hpos : 0 < xs.length := List.length_pos_iff.2 hx0
        obtain ⟨b, o, hp, _⟩ := h4 0 (by simpa [Bk.us] using hpos)
        cases hp
        have h6 := run_convert_bytes_arg (P := P) w s E hs he b o xs.length cap (xs.map fun (x : Nat) => (x : Int)) (by simp) (fun i hi => by
          obtain ⟨b', o', hp, hc⟩ := h4 i (by simpa [Bk.us] using hi)
          cases hp
          rw [us_get hi] at hc
          have h7 := cell_world S.sub hc
          rw [h7]
          simp [vU, hi]) t ht
        rw [h6]
        have h8 : strOfNums (xs.map fun (x : Nat) => (x : Int)) = strOf xs := by
          simp only [strOfNums, strOf, List.map_map]
          congr 2
        rw [h8]
  simp [execOp, Ev.eval hx, key]

theorem Us.str_size {xs : List Nat} : (strOf xs).size = xs.length := by simp [strOf, ByteArray.size]

/-- nil is owned by whoever asks. -/
theorem gl_addnil {ops : Array Oper} {l : List Oper} {E : Nat} {k : IntKind} (k' : GL P n w0 h0 ops Q l e (.us E k (.slice none 0 0) [] :: L) h) : GL P n w0 h0 ops Q l e L h := by
  intro a w Ev S
  refine k' a w Ev (S.new (r := .us E k (.slice none 0 0) []) ⟨rfl, rfl, rfl, Nat.le_refl _, fun _ _ _ => rfl⟩ (World.ownsRow_nil w _ _ _) (fun b hb => ?_))
  simp [Res.us, Res.fp, Value.ownBlock] at hb

theorem Us.nil_of {k : IntKind} {h : Mem} {m cap : Nat} {xs : List Nat} (hv : Us k h (.slice none m cap) xs) : xs = [] := by
  obtain ⟨a, c, he, _, _, _, h4⟩ := hv.sl
  cases he
  cases xs with
  | nil => rfl
  | cons x xs => obtain ⟨b, o, hb, _⟩ := h4 0 (by simp [Bk.us]); cases hb

/-- An index into a string that is a table. -/
theorem ov_index_tab {s : ByteArray} {t : TypeId} {x y : Operand} {q : Int} (f : Nat → Nat) (i : Nat) (ht : P.underlying t = some .string) (hx : evalO e x = some (.string s)) (hy : evalO e y = some (.int .u8 q)) (hq : q = (i : Int)) (hf : ∀ j, (hj : j < s.size) → (s.get j hj).toNat = f j) (hi : i < s.size) :
    OpV P n w0 h0 ⟨ds, .index t x y, ty, ps, af, gd⟩ e L h (vU .u8 (f i)) := by
  subst hq
  intro a w Ev S
  have h1 : s[i]? = some (s.get i hi) := by rw [getElem?_pos s i hi]; rfl
  have h2 := hf i hi
  simp [execOp, Ev.eval hx, Ev.eval hy, Instr.index, asIntOf, vU, run_underlying ht, h1, h2]

theorem ov_max_i {ts : Array TypeId} {x y : Operand} {p q : Int} (hx : evalO e x = some (vI p)) (hy : evalO e y = some (vI q)) : OpV P n w0 h0 ⟨ds, .call { callee := .builtin .max, args := #[x, y], argTypes := ts }, ty, ps, af, gd⟩ e L h (vI (max p q)) := by
  intro a w Ev S
  have : (if q > p then q else p) = max p q := by omega
  simp [execOp, resolve, invoke, builtin, Ev.eval hx, Ev.eval hy, Builtin.max_, Builtin.max2, vI, List.foldlM, this]
theorem ov_min_i {ts : Array TypeId} {x y : Operand} {p q : Int} (hx : evalO e x = some (vI p)) (hy : evalO e y = some (vI q)) : OpV P n w0 h0 ⟨ds, .call { callee := .builtin .min, args := #[x, y], argTypes := ts }, ty, ps, af, gd⟩ e L h (vI (min p q)) := by
  intro a w Ev S
  have : (if q < p then q else p) = min p q := by omega
  simp [execOp, resolve, invoke, builtin, Ev.eval hx, Ev.eval hy, Builtin.min_, Builtin.min2, vI, List.foldlM, this]
theorem ov_min_u {k : IntKind} {ts : Array TypeId} {x y : Operand} {p q : Nat} (hx : evalO e x = some (vU k p)) (hy : evalO e y = some (vU k q)) : OpV P n w0 h0 ⟨ds, .call { callee := .builtin .min, args := #[x, y], argTypes := ts }, ty, ps, af, gd⟩ e L h (vU k (min p q)) := by
  intro a w Ev S
  have : (if q < p then (q : Int) else (p : Int)) = ((min p q : Nat) : Int) := by split <;> omega
  simp only [execOp, resolve, invoke, builtin]
  simp [Ev.eval hx, Ev.eval hy, Builtin.min_, Builtin.min2, vU, List.foldlM, this]

/-- An own slice is seen as a beginning of itself. -/
theorem gl_shrink {ops : Array Oper} {l : List Oper} {A B : List Res} {E : Nat} {k : IntKind} {v : Value} {xs : List Nat} (m : Nat) (hm : m ≤ xs.length) (k' : GL P n w0 h0 ops Q l e (A ++ .us E k (subSl 1 v 0 m) (xs.take m) :: B) h) : GL P n w0 h0 ops Q l e (A ++ .us E k v xs :: B) h := by
  intro a w Ev S
  have hok := S.ok (.us E k v xs) (by simp)
  refine k' a w Ev (S.grown (r' := .us E k (subSl 1 v 0 m) (xs.take m)) ⟨rfl, rfl, rfl, Nat.le_refl _, fun _ _ _ => rfl⟩ ?_ ?_)
  · obtain ⟨hl, hr⟩ := hok
    have hl2 : (xs.take m).length = m := by rw [List.length_take]; omega
    refine ⟨by simp [Bk.us], ?_⟩
    rcases hr with ⟨rfl, h0'⟩ | ⟨g, cap, cur, rfl, hb, hg, hn, hcm, hcs, ht⟩
    · have : m = 0 := by omega
      subst this
      exact .inl ⟨rfl, by simp⟩
    · right
      refine ⟨g, cap, cur, ?_, hb, hg, by omega, hcm, hcs, ?_⟩
      · rw [hl2]
        simp only [subSl, Nat.zero_mul, Nat.sub_zero, Option.map_some, addr_add, Nat.add_zero, ite_self]
      · have h5 : Bk.us k (xs.take m) = (Bk.us k xs).take m := by rw [Bk.us, Bk.us, List.map_take]
        rw [hl2, h5, ← ht, List.take_take]
        congr 1
        omega
  · intro b hb
    left
    obtain ⟨hl, hr⟩ := hok
    rcases hr with ⟨rfl, h0'⟩ | ⟨g, cap, cur, rfl, _⟩
    · simp [Res.us, Res.fp, subSl, Value.ownBlock] at hb
    · simpa only [Res.us, Res.fp, subSl, Value.ownBlock, Nat.zero_mul, Nat.sub_zero, Option.map_some, addr_add, Nat.add_zero, ite_self] using hb

theorem gl_shrink0 {ops : Array Oper} {l : List Oper} {B : List Res} {E : Nat} {k : IntKind} {v : Value} {xs : List Nat} (m : Nat) (hm : m ≤ xs.length) (k' : GL P n w0 h0 ops Q l e (.us E k (subSl 1 v 0 m) (xs.take m) :: B) h) : GL P n w0 h0 ops Q l e (.us E k v xs :: B) h := gl_shrink (A := []) m hm k'
theorem gl_shrink1 {ops : Array Oper} {l : List Oper} {r0 : Res} {B : List Res} {E : Nat} {k : IntKind} {v : Value} {xs : List Nat} (m : Nat) (hm : m ≤ xs.length) (k' : GL P n w0 h0 ops Q l e (r0 :: .us E k (subSl 1 v 0 m) (xs.take m) :: B) h) : GL P n w0 h0 ops Q l e (r0 :: .us E k v xs :: B) h := gl_shrink (A := [r0]) m hm k'

/-- What is owned can be read in the world as it is. -/
theorem St.own_us {A B : List Res} {E : Nat} {k : IntKind} {v : Value} {xs : List Nat} {w : World} (S : St w0 h0 (A ++ .us E k v xs :: B) h w) (hlt : ∀ x ∈ xs, x < ub k) : Us k (mem w) v xs := by
  obtain ⟨hl, hr⟩ := S.ok (.us E k v xs) (by simp)
  rcases hr with ⟨rfl, h0'⟩ | ⟨g, cap, cur, rfl, hb, hg, hn, hm, hcs, ht⟩
  · have hnil : xs = [] := List.eq_nil_of_length_eq_zero h0'
    subst hnil
    exact Us.nil _ _
  · refine ⟨⟨_, cap, rfl, hn, hm, hl, fun i hi => ⟨g, 0, rfl, ?_⟩⟩, hlt⟩
    have : (mem w) g = some (.cells cur E) := hg
    unfold cell
    rw [this]
    simp only [Nat.zero_add]
    rw [← ht, List.getElem?_take, if_pos (by simpa [Bk.us] using hi)]
    simp

/-- The numbers of a string's bytes. -/
def byt (s : ByteArray) : List Nat := s.data.toList.map UInt8.toNat
theorem byt_length (s : ByteArray) : (byt s).length = s.size := by
  show (s.data.toList.map UInt8.toNat).length = s.data.size
  rw [List.length_map, Array.length_toList]
theorem byt_lt (s : ByteArray) (i : Nat) : (byt s).getD i 0 < 256 := by
  by_cases hi : i < (byt s).length
  · rw [List.getD_eq_getElem?_getD, List.getElem?_eq_getElem hi]
    simp only [byt, List.getElem_map, Option.getD_some]
    exact UInt8.toNat_lt _
  · rw [List.getD_eq_getElem?_getD, List.getElem?_eq_none (by omega)]; decide

theorem ov_index_byt {s : ByteArray} {t : TypeId} {x y : Operand} {q : Int} (i : Nat) (ht : P.underlying t = some .string) (hx : evalO e x = some (.string s)) (hy : evalO e y = some (vI q)) (hq : q = (i : Int)) (hi : i < s.size) :
    OpV P n w0 h0 ⟨ds, .index t x y, ty, ps, af, gd⟩ e L h (vU .u8 ((byt s).getD i 0)) := by
  have h1 := ov_index_str (P := P) (n := n) (w0 := w0) (h0 := h0) (L := L) (h := h) (ds := ds) (ty := ty) (ps := ps) (af := af) (gd := gd) i ht hx hy hq hi
  have h2 : (s.get i hi).toNat = (byt s).getD i 0 := by
    have h3 : i < (byt s).length := by rw [byt_length]; exact hi
    rw [List.getD_eq_getElem?_getD, List.getElem?_eq_getElem h3]
    simp only [byt, List.getElem_map, Option.getD_some]
    rfl
  rw [h2] at h1
  exact h1

section steps
variable {ops : Array Oper} {R : List Res} {d : Nat} {op : Op}

/-- An own slice becomes one that is only read, ahead of an operation that must come up now. -/
theorem s_freeze {o : Oper} {A B : List Res} {E : Nat} {k : IntKind} {v : Value} {xs : List Nat} {W' : List (Nat × Value) → List Res → Mem → Prop} (hlt : ∀ x ∈ xs, x < ub k) (hR : ∀ r ∈ R, r ∈ A ++ .us E k v xs :: B → r ∈ A ++ B)
    (k' : ∀ h', MLe h h' → Us k h' v xs → Step P n w0 h0 ops R o e (A ++ B) h' W') : Step P n w0 h0 ops R o e (A ++ .us E k v xs :: B) h W' := by
  intro X a w Ev S
  have S1 : St w0 h0 (A ++ .us E k v xs :: (B ++ X)) h w := by simpa using S
  have hok := S1.ok (.us E k v xs) (by simp)
  obtain ⟨hl, hr⟩ := hok
  have fin : ∀ h', MLe h h' → Us k h' v xs → St w0 h0 (A ++ (B ++ X)) h' w → RunsTo P ops o a w (Next n w0 h0 R e (A ++ .us E k v xs :: B) X h o W') := by
    intro h' hh hu S2
    refine (k' h' hh hu X a w Ev (by simpa using S2)).mono fun u w' ⟨c1, L', h2, c2, c3, c4, c5⟩ => ⟨c1, L', h2, hh.trans c2, fun hsub => c3 fun r hr => hR r hr (hsub r hr), c4, c5⟩
  rcases hr with ⟨rfl, h0'⟩ | ⟨g, cap, cur, rfl, hb, hg, hn, hm, hcs, ht⟩
  · have hnil : xs = [] := List.eq_nil_of_length_eq_zero h0'
    subst hnil
    exact fin h (MLe.refl h) (Us.nil _ _) S1.drop
  · obtain ⟨S', hle⟩ := S1.freeze (b := g) (o := .cells cur E (0, 0)) rfl hg
    refine fin _ hle ⟨⟨_, cap, rfl, hn, hm, hl, fun i hi => ⟨g, 0, rfl, ?_⟩⟩, hlt⟩ S'
    unfold cell
    simp only [if_true, Nat.zero_add]
    rw [← ht, List.getElem?_take, if_pos (by simpa [Bk.us] using hi)]
    simp

theorem s_rep {A B : List Res} {q : Res} {G : Value → Res → Prop} {W' : List (Nat × Value) → List Res → Mem → Prop} (hv : ∀ X, RepOp P n w0 h0 ⟨some d, op, ty, ps, af, none⟩ e A q (B ++ X) h G) (hn : Nat.ble (d + 1) n = true)
    (hR : ∀ r ∈ R, ∀ q', r ∈ A ++ q :: B → r ∈ A ++ q' :: B) (k : ∀ v q', G v q' → W' ((d, v) :: e) (A ++ q' :: B) h) : Step P n w0 h0 ops R ⟨some d, op, ty, ps, af, none⟩ e (A ++ q :: B) h W' := by
  intro X a w Ev S
  have S1 : St w0 h0 (A ++ q :: (B ++ X)) h w := by simpa using S
  unfold RunsTo
  rw [if_pos (wn rfl)]
  obtain ⟨v, w', q', hr, hgr, hok, hfp, hG⟩ := hv X a w Ev S1
  rw [hr]
  have S2 := S1.grown hgr hok hfp
  exact ⟨fun d' hd => (by cases hd; exact Nat.le_of_ble_eq_true hn), A ++ q' :: B, h, MLe.refl h, fun hh r hr => hR r hr q' (hh r hr), by simpa using S2, k v q' hG⟩
end steps
end
end Bk
