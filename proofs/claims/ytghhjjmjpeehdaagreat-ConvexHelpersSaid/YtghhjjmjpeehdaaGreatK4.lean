/- Texts that the proof needs, part 4. -/
import Derived.Test.YtghhjjmjpeehdaaGreatK3
namespace Bk
set_option linter.unusedVariables false
set_option linter.unusedSimpArgs false
open Go Go.RowKit
open Classical
section
variable {α β γ : Type}
variable {P : Program} {n : Nat} {w0 : World} {h0 : Mem} {e : List (Nat × Value)} {L : List Res} {h : Mem} {Q : Exit → Act → World → Prop}
variable {ds : Option Tmp} {ty : TypeId} {ps : String} {af : Array Edge} {gd : Option (Nat × Bool)}
theorem St.nilown {w : World} (s : St w0 h0 L h w) (E k : Nat) : St w0 h0 (.gs E k (.slice none 0 0) 0 [] :: L) h w := by
  refine ⟨s.below, s.le, s.sub, s.fresh, ?_, ?_, ?_⟩
  · intro r hr
    rcases List.mem_cons.1 hr with rfl | hr
    · exact World.ownsRow_nil w _ E k
    · exact s.ok r hr
  · intro r hr b hb
    rcases List.mem_cons.1 hr with rfl | hr
    · simp [Res.fp, Value.ownBlock] at hb
    · exact s.own r hr b hb
  · refine List.pairwise_cons.2 ⟨fun r hr b hb => ?_, s.apart⟩
    simp [Res.fp, Value.ownBlock] at hb
theorem gc_nilown {c : Code} (E k : Nat) (g : GC P n w0 h0 c Q e (.gs E k (.slice none 0 0) 0 [] :: L) h) : GC P n w0 h0 c Q e L h := fun a w Ev S => g a w Ev (S.nilown E k)
theorem gl_nilown {ops : Array Oper} {l : List Oper} (E k : Nat) (g : GL P n w0 h0 ops Q l e (.gs E k (.slice none 0 0) 0 [] :: L) h) : GL P n w0 h0 ops Q l e L h := fun a w Ev S => g a w Ev (S.nilown E k)
theorem made_list (a : List Value) (m : Nat) : (madeCells a.toArray (m * a.length)).toList = (List.replicate m a).flatten := by
  unfold madeCells
  rw [Array.toList_map, Array.toList_range]
  induction m with
  | zero => simp
  | succ m ih =>
    rw [Nat.succ_mul, Nat.add_comm, List.range_add, List.map_append, List.map_map, List.replicate_succ, List.flatten_cons, ← ih]
    congr 1
    · apply List.ext_getElem?
      intro j
      by_cases hj : j < a.length
      · simp [hj, Nat.mod_eq_of_lt hj]
      · simp [hj]
    · apply List.map_congr_left
      intro j _
      simp
theorem rl_zero {ρ : Rp α} {a : List Value} {x : α} (m : Nat) (r : ρ.R h a x) : RL ρ h (madeCells a.toArray (m * ρ.n)).toList (List.replicate m x) := by
  rw [← ρ.len r, made_list]
  exact (zr_a (h := h) m r).2
theorem new_makex {t E : TypeId} {i : TypeInfo} {z : Value} {zs : List Value} {x y : Operand} {q q' : Int} {by' : Nat} {ρ : Rp α} {X : α} (m : Nat) (ht : P.underlying t = some (.slice E)) (hi : P.info? E = some i) (hz : i.zero = some z) (hzc : z.cells = zs.toArray) (hsize : i.size = ρ.n) (hby : i.bytes = by') (rz : ρ.R h zs X)
    (hx : yH e x = some (vI q)) (hy : yH e y = some (vI q')) (hq : q = (m : Int)) (hq' : q' = (m : Int)) (hb : by' * m ≤ 281474976710656) (hm : m < 9223372036854775808) :
    NewOp P n w0 h0 ⟨ds, .makeSlice t x y, ty, ps, af, gd⟩ e L h (fun v r => ∃ cs, r = .gs E ρ.n v (List.replicate m X).length cs ∧ RL ρ h cs (List.replicate m X)) := by
  subst hq; subst hq'; subst hby
  intro a w Ev S
  obtain ⟨w', hr, hown, hgr⟩ := run_make_full (P := P) w w0.heap.size t E i z ρ.n ht hi hz hsize .i64 .i64 m hb (by unfold maxLen; omega) S.below.size
  rw [hzc] at hown
  refine ⟨_, w', .gs E ρ.n (.slice (some ⟨w.heap.size, 0, none⟩) m m) m (madeCells zs.toArray (m * ρ.n)).toList, ?_, hgr, hown, fun b hb => ?_, _, by rw [lR], rl_zero m rz⟩
  · simp only [execOp, Ev.eval hx, Ev.eval hy, vI]
    simp [hr]
  · simp only [Res.fp, Value.ownBlock, Option.some.injEq] at hb
    omega
theorem new_buildx {t E : TypeId} {i : TypeInfo} {z : Value} {zs : List Value} {parts : List (Nat × Operand)} {ps' : List (Nat × Value)} {m : Nat} {ρ : Rp α} {X : α} {xs : List α} (ht : P.underlying t = some (.slice E)) (hi : P.info? E = some i) (hz : i.zero = some z) (hzc : z.cells = zs.toArray) (hsize : i.size = ρ.n) (rz : ρ.R h zs X)
    (hp : PartsV e parts ps') (hf : FillX (rpA m ρ) h (fun i => some (i * ρ.n, ρ.n)) (List.replicate m X) ps' xs) (hm : m * ρ.n ≤ 16777216) (hn : 0 < ρ.n) :
    NewOp P n w0 h0 ⟨ds, .buildSlice t m parts.toArray, ty, ps, af, gd⟩ e L h (fun v r => ∃ cs, r = .gs E ρ.n v xs.length cs ∧ RL ρ h cs xs) := by
  obtain ⟨cs, ⟨hlen, hrl⟩, hfill⟩ := hf (madeCells zs.toArray (m * ρ.n)).toList ⟨List.length_replicate, rl_zero m rz⟩
  have hcl := hrl.len
  rw [hlen] at hcl
  intro a w Ev S
  have hpa : (parts.toArray.map fun (p : Nat × Operand) => (p.1, a.eval p.2)).toList = ps' := by
    rw [List.map_toArray]
    exact hp.eval Ev
  refine ⟨.slice (some ⟨w.heap.size, 0, none⟩) m m, w.alloc (.cells cs.toArray E), .gs E ρ.n (.slice (some ⟨w.heap.size, 0, none⟩) m m) m cs, ?_, World.grownBy_alloc w _ none, ?_, fun b hb => ?_, cs, by rw [hlen], hrl⟩
  · have h24 : ¬ (m * ρ.n > 16777216) := by omega
    simp only [execOp, Instr.buildSlice]
    rw [show (parts.toArray.map fun (i, x) => (i, a.eval x)).toList = ps' from hpa]
    have hz' : (zeroValue E).run P w = .ok z w := by simp [zeroValue, typeInfo, hi, hz]
    have hfill' : Instr.fill (fun i => some (i * ρ.n, ρ.n)) (madeCells zs.toArray (m * ρ.n)) ps' = some cs.toArray := by
      simpa using hfill
    have hszE : ∀ w, (Go.sizeOf E).run P w = .ok ρ.n w := fun w => by simp [Go.sizeOf, typeInfo, hi, hsize]
    by_cases h0 : m * ρ.n = 0
    · rw [h0] at hfill'
      simp only [madeCells, Array.range_zero', Array.map_empty] at hfill'
      simp [run_underlying ht, hszE, newRow, newObj, Sem.run, h0, Array.range_zero', hfill']
    · unfold madeCells at hfill'
      simp only [List.size_toArray, List.getElem!_toArray, List.getElem!_eq_getElem?_getD] at hfill'
      simp [run_underlying ht, hszE, h0, h24, hz', hzc, hfill', newRow, newObj, Sem.run]
  · have := World.ownsRow_lit (w := w) (base := w0.heap.size) (e := E) (size := ρ.n) cs.toArray m S.below.size (by unfold maxLen; have := Nat.le_mul_of_pos_right m hn; omega) (by simpa using hcl)
    exact this
  · simp only [Res.fp, Value.ownBlock, Option.some.injEq] at hb
    omega
theorem rep_appendx {A B : List Res} {t E : TypeId} {i : TypeInfo} {z : Value} {bytes : Nat} {v v' : Value} {cs : List Value} {x y : Operand} {ρ : Rp α} {xs ys : List α} (ht : P.underlying t = some (.slice E)) (hi : P.info? E = some i) (hz : i.zero = some z) (hsize : i.size = ρ.n) (hby : i.bytes = bytes)
    (hzs : z.cells.size = ρ.n) (hk : 0 < ρ.n) (hx : yH e x = some v) (hy : yH e y = some v') (r : RL ρ h cs xs) (hv' : (rpS ρ).Is h v' ys) (hlen : xs.length + ys.length < 9223372036854775808) (hb' : (xs.length + ys.length) * bytes ≤ 140737488355328) :
    RepOp P n w0 h0 ⟨ds, .call { callee := .builtin .append, args := #[x, y], argTypes := #[t, t] }, ty, ps, af, gd⟩ e A (.gs E ρ.n v xs.length cs) B h (fun u r' => ∃ cs', r' = .gs E ρ.n u (xs ++ ys).length cs' ∧ RL ρ h cs' (xs ++ ys)) := by
  obtain ⟨cs2, hs, r2⟩ := of_s hv'
  intro a w Ev S
  obtain ⟨u, w', r', h1, h2, h3, h4, h5⟩ := rep_append (A := A) (B := B) (v := v) (cs := cs) (m := xs.length) (ds := ds) (ty := ty) (ps := ps) (af := af) (gd := gd) ht hi hz hsize hby hzs hk hx hy hs (fun u hu => List.all_eq_true.1 r2.one u hu) hlen hb' a w Ev S
  exact ⟨u, w', r', h1, h2, h3, h4, cs ++ cs2, by rw [h5, lAz], r.append r2⟩
theorem own_sl {E k m : Nat} {v : Value} {cs : List Value} {w : World} (hm : .gs E k v m cs ∈ L) (S : St w0 h0 L h w) : Sl (mem w) k v m cs := by
  obtain ⟨A, B, rfl⟩ := List.append_of_mem hm
  exact own_cell S
theorem osP_eq (k : Nat) (v : Value) (i : Nat) : xL k v i = xL 1 v (i * k) := by
  unfold xL
  rw [Nat.mul_one]
theorem ov_len_os {E k m : Nat} {v : Value} {cs : List Value} {t E' : TypeId} {x : Operand} (hm : .gs E k v m cs ∈ L) (ht : P.underlying t = some (.slice E')) (hx : yH e x = some v) :
    OpV P n w0 h0 ⟨ds, .call { callee := .builtin .len, args := #[x], argTypes := #[t] }, ty, ps, af, gd⟩ e L h (vI (m : Int)) :=
  fun a w Ev S => ov_len_sl (L := L) (h := h) ht hx (own_sl hm S).one a w Ev S
theorem ov_index_os {E m k : Nat} {cs : List Value} {v : Value} {t E' : TypeId} {x y : Operand} {q : Int} (i : Nat) (hm : .gs E k v m cs ∈ L) (ht : P.underlying t = some (.slice E')) (hsz : ∀ w, (Go.sizeOf E').run P w = .ok k w) (hx : yH e x = some v) (hy : yH e y = some (vI q))
    (hq : q = (i : Int)) (hi : i < m) (hk : 0 < k) : OpV P n w0 h0 ⟨ds, .indexAddr t x y, ty, ps, af, gd⟩ e L h (xL 1 v (i * k)) := by
  intro a w Ev S
  have S' : St w (mem w) [] (mem w) w := St.begin (MLe.refl _)
  rw [← osP_eq]
  exact ov_index (n := n) (w0 := w) (h0 := mem w) (L := []) (h := mem w) i ht hsz hx hy (own_sl hm S) hq hi hk a w Ev S'
theorem sl_range {k m o l : Nat} {v : Value} {cs : List Value} {w : World} (s : Sl (mem w) k v m cs) (hl : 0 < l) (ho : o + l ≤ cs.length) : ∃ b o', xL 1 v o = vP b (o' + o) ∧ v = .slice (some ⟨b, o', none⟩) m (match v with | .slice _ _ c => c | _ => 0) ∧ w.rangeAt b (o' + o) ((cs.drop o).take l) := by
  obtain ⟨a, cap, rfl, h1, h2, h3, h4⟩ := s
  obtain ⟨b, o', rfl, _⟩ := h4 o (by omega)
  refine ⟨b, o', by simp [xL, addr_add], rfl, ?_⟩
  intro j u hj
  rw [List.getElem?_take] at hj
  split at hj
  · rw [List.getElem?_drop] at hj
    obtain ⟨hlt, _⟩ := List.getElem?_eq_some_iff.1 hj
    obtain ⟨b2, o2, e2, hc⟩ := h4 _ hlt
    simp only [Option.some.injEq, Addr.mk.injEq, and_true] at e2
    obtain ⟨rfl, rfl⟩ := e2
    rw [hj] at hc
    have := cell_world (MLe.refl _) hc
    rwa [← Nat.add_assoc] at this
  · cases hj
theorem ox_load_os {t E : TypeId} {x : Operand} {k off : Nat} {cs : List Value} {v : Value} {ρ : Rp α} {σ : Rp β} {g : List α → β} {s : List α → β → List α} {xs : List α} {Z : β} (T : TyOk P t σ.n σ.agg) (pc : Pc (rpA xs.length ρ) off σ g s) (ho : k = off) (hp : 0 < σ.n) (hx : yH e x = some (xL 1 v k)) (r : RL ρ h cs xs) (hZ : g xs = Z) :
    OpX P n w0 h0 ⟨ds, .load t x, ty, ps, af, gd⟩ e [.gs E ρ.n v xs.length cs] h (fun u => σ.Is h u Z) := by
  subst hZ; subst ho
  have h1 := pc.get (h := h) ⟨rfl, r⟩
  have hf : k + σ.n ≤ xs.length * ρ.n := pc.fits
  have hl := r.len
  refine ⟨_, fun L' h' _ hm a w Ev S => ?_, _, h1, rfl⟩
  obtain ⟨b, o', e1, _, hr⟩ := sl_range (own_sl (hm (.gs E ρ.n v xs.length cs) (.head _)) S) hp (show k + σ.n ≤ cs.length by omega)
  rw [e1] at hx
  have := load_run (P := P) (w := w) T h1 hr
  simp [execOp, Ev.eval hx, this]
theorem owns_setCells {base E k g cap m : Nat} : ∀ (vs : List Value) (off : Nat) (cs : List Value) (w : World), w.ownsRow base E k (.slice (some ⟨g, 0, none⟩) m cap) m cs →
    (w.setCells g off vs).ownsRow base E k (.slice (some ⟨g, 0, none⟩) m cap) m (putAt cs off vs) ∧ w.grownBy (w.setCells g off vs) (some g)
  | [], off, cs, w, hw => ⟨hw, ⟨rfl, rfl, rfl, Nat.le_refl _, fun _ _ _ => rfl⟩⟩
  | v :: r, off, cs, w, hw => by
    obtain ⟨h1, h2⟩ := hw.stored off v
    obtain ⟨h3, h4⟩ := owns_setCells r (off + 1) (cs.set off v) _ h1
    have e1 : putAt cs off (v :: r) = putAt (cs.set off v) (off + 1) r := by
      unfold putAt
      rw [List.zipIdx_cons, List.foldl_cons, Nat.add_zero, List.zipIdx_succ, List.foldl_map]
      congr 1
      funext c p
      rw [show off + (p.2 + 1) = off + 1 + p.2 by omega]
    refine ⟨by rw [World.setCells, e1]; exact h3, ?_⟩
    refine ⟨h4.os.trans h2.os, h4.tape.trans h2.tape, h4.output.trans h2.output, Nat.le_trans h2.size h4.size, ?_⟩
    intro b' hb' hne
    have h5 := h2.block b' hb' hne
    have h6 := h4.block b' (Nat.lt_of_lt_of_le hb' h2.size) hne
    rw [World.setCells, h6, h5]
theorem upd_os {E t : TypeId} {k off : Nat} {cs : List Value} {u v : Value} {x y : Operand} {ρ : Rp α} {σ : Rp β} {g : List α → β} {s : List α → β → List α} {xs Z : List α} {Y : β} (hsz : ∀ w, (Go.sizeOf t).run P w = .ok σ.n w) (pc : Pc (rpA xs.length ρ) off σ g s) (ho : k = off) (hp : 0 < σ.n) (hx : yH e x = some (xL 1 v k)) (hy : yH e y = some u) (r : RL ρ h cs xs) (ry : σ.Is h u Y) (hZ : s xs Y = Z) :
    ∃ cs', RL ρ h cs' Z ∧ ∀ A B, Upd P n w0 h0 ⟨ds, .store t x y, ty, ps, af, gd⟩ e A (.gs E ρ.n v xs.length cs) B h (.gs E ρ.n v Z.length cs') := by
  subst hZ; subst ho
  obtain ⟨vs, rv, hv⟩ := ry.cells
  have hl := σ.len rv
  have hlc := r.len
  have hf : k + σ.n ≤ xs.length * ρ.n := pc.fits
  obtain ⟨hZl, hZr⟩ := pc.set (h := h) ⟨rfl, r⟩ rv
  refine ⟨putAt cs k vs, ?_, ?_⟩
  · rw [putAt_eq _ _ _ (by omega), hl]
    exact hZr
  · intro A B a w Ev S
    rw [hZl]
    have hok : w.ownsRow w0.heap.size E ρ.n v xs.length cs := S.ok (.gs E ρ.n v xs.length cs) (by simp)
    have hok' := hok
    obtain ⟨_, hr⟩ := hok
    rcases hr with ⟨rfl, hm0⟩ | ⟨b, cap, cur, rfl, hbg, hg, hnc, hcm, hcs, htake⟩
    · rw [hm0] at hf; omega
    · have hpx : xL 1 (.slice (some ⟨b, 0, none⟩) xs.length cap) k = vP b k := by simp [xL, addr_add]
      rw [hpx] at hx
      obtain ⟨h1, h2⟩ := owns_setCells vs k cs w hok'
      refine ⟨w.setCells b k vs, ?_, h2, h1⟩
      have hrun := run_storeCells_cells (P := P) b k vs 0 w (fun j hj => by
          have h4 := hok'.cellAt (k + j) (by omega)
          rw [List.getElem?_eq_getElem (by omega)] at h4
          simp [h4]) (fun j hj => by simpa using hok'.frozenAt (k + j)) (fun u hu => List.all_eq_true.1 (σ.one rv) u hu)
      simp only [Nat.add_zero] at hrun
      simp [execOp, Ev.eval hx, Ev.eval hy, Instr.storeAt, Instr.sureAddr, storeVar, hsz, hv, hl, hrun]
section
variable {A B : List Res} {op : Op} {E k m : Nat} {v : Value} {cs : List Value} {F : Nat → List Value → Prop}
theorem gl_updos {ops : Array Oper} {rest : List Oper} {m' : Nat} {F : List Value → Prop} (hv : ∃ cs', F cs' ∧ ∀ A B, Upd P n w0 h0 ⟨none, op, ty, ps, af, none⟩ e A (.gs E k v m cs) B h (.gs E k v m' cs'))
    (kk : ∀ cs', F cs' → GL P n w0 h0 ops Q rest e (A ++ .gs E k v m' cs' :: B) h) : GL P n w0 h0 ops Q (⟨none, op, ty, ps, af, none⟩ :: rest) e (A ++ .gs E k v m cs :: B) h := by
  obtain ⟨cs', hF, hu⟩ := hv
  exact gl_upd (hu A B) rfl rfl rfl (kk cs' hF)
end
theorem St.freezex {A B : List Res} {E : Nat} {v : Value} {cs : List Value} {ρ : Rp α} {xs : List α} {w : World} (r : RL ρ h cs xs) (S : St w0 h0 (A ++ .gs E ρ.n v xs.length cs :: B) h w) : ∃ h', MLe h h' ∧ (rpS ρ).Is h' v xs ∧ St w0 h0 (A ++ B) h' w := by
  have hok := S.ok (.gs E ρ.n v xs.length cs) (by simp)
  have hok' := hok
  obtain ⟨hl, hr⟩ := hok
  rcases hr with ⟨rfl, hm0⟩ | ⟨g, cap, cur, rfl, hb, hg, hn, hm, hcs, ht⟩
  · have hx0 : xs = [] := List.eq_nil_of_length_eq_zero hm0
    subst hx0
    exact ⟨h, MLe.refl h, is_nil h, S.drop⟩
  · obtain ⟨S', hle⟩ := S.freeze (b := g) (o := .cells cur E (0, 0)) rfl hg
    refine ⟨_, hle, is_s ⟨_, cap, rfl, hn, hm, hl, fun i hi => ⟨g, 0, rfl, ?_⟩⟩ (r.mono hle), S'⟩
    unfold cell
    simp only [if_true, Nat.zero_add]
    rw [← ht, List.getElem?_take, if_pos (by omega)]
    simp
section
variable {A B : List Res} {E : Nat} {v : Value} {cs : List Value} {ρ : Rp α} {xs : List α}
theorem gl_freezex {ops : Array Oper} {l : List Oper} (r : RL ρ h cs xs) (k : ∀ h', MLe h h' → (rpS ρ).Is h' v xs → GL P n w0 h0 ops Q l e (A ++ B) h') : GL P n w0 h0 ops Q l e (A ++ .gs E ρ.n v xs.length cs :: B) h := by
  intro a w Ev S
  obtain ⟨h', hle, hs, S'⟩ := S.freezex r
  exact k h' hle hs a w Ev S'
theorem gq_freezex {x : Exit} (r : RL ρ h cs xs) (k : ∀ h', MLe h h' → (rpS ρ).Is h' v xs → GQ n w0 h0 Q x e (A ++ B) h') : GQ n w0 h0 Q x e (A ++ .gs E ρ.n v xs.length cs :: B) h := by
  intro a w Ev S
  obtain ⟨h', hle, hs, S'⟩ := S.freezex r
  exact k h' hle hs a w Ev S'
theorem s_freezex {o : Oper} {ops : Array Oper} {R : List Res} {W' : List (Nat × Value) → List Res → Mem → Prop} (r : RL ρ h cs xs) (hR : ∀ q ∈ R, q ∈ A ++ .gs E ρ.n v xs.length cs :: B → q ∈ A ++ B)
    (k : ∀ h', MLe h h' → (rpS ρ).Is h' v xs → Step P n w0 h0 ops R o e (A ++ B) h' W') : Step P n w0 h0 ops R o e (A ++ .gs E ρ.n v xs.length cs :: B) h W' := by
  intro X a w Ev S
  have S1 : St w0 h0 (A ++ .gs E ρ.n v xs.length cs :: (B ++ X)) h w := by simpa using S
  obtain ⟨h', hle, hs, S'⟩ := S1.freezex r
  have S2 : St w0 h0 ((A ++ B) ++ X) h' w := by simpa using S'
  refine (k h' hle hs X a w Ev S2).mono ?_
  rintro v' w' ⟨hd, L', g, hg, hk, S3, hW⟩
  exact ⟨hd, L', g, hle.trans hg, fun hh q hq => hk (fun y hy => hR y hy (hh y hy)) q hq, S3, hW⟩
end
end
end Bk
namespace Bk
set_option linter.unusedVariables false
set_option linter.unusedSimpArgs false
open Go Go.RowKit
def amask (o : Oper) : Nat := o.after.toList.foldl (fun a e => if Region.binds .any e then a ||| (1 <<< e.on) else a) 0
theorem testBit_bit (k j : Nat) : (1 <<< k).testBit j = decide (j = k) := by
  rw [Nat.one_shiftLeft, Nat.testBit_two_pow]
  exact Bool.eq_iff_iff.2 (by simp [eq_comm])
theorem amask_spec (o : Oper) (k : Nat) : (amask o).testBit k = true ↔ ∃ e ∈ o.after, Region.binds .any e = true ∧ e.on = k := by
  have key : ∀ (l : List Edge) (a : Nat), (l.foldl (fun a e => if Region.binds .any e then a ||| (1 <<< e.on) else a) a).testBit k = true ↔ a.testBit k = true ∨ ∃ e ∈ l, Region.binds .any e = true ∧ e.on = k := by
    intro l
    induction l with
    | nil => intro a; simp
    | cons e l ih =>
      intro a
      rw [List.foldl_cons, ih]
      by_cases hb : Region.binds .any e = true
      · rw [if_pos hb, Nat.testBit_or, testBit_bit]
        simp only [Bool.or_eq_true, decide_eq_true_eq, List.mem_cons, exists_eq_or_imp, hb, true_and, or_assoc]
        constructor
        · rintro (h | h | h)
          · exact .inl h
          · exact .inr (.inl h.symm)
          · exact .inr (.inr h)
        · rintro (h | h | h)
          · exact .inl h
          · exact .inr (.inl h.symm)
          · exact .inr (.inr h)
      · rw [if_neg hb]
        simp only [List.mem_cons, exists_eq_or_imp, hb, false_and, false_or]
        simp
  unfold amask
  rw [key]
  simp
def fmask (ops : Array Oper) (ams : List Nat) (i : Nat) : Nat := (List.range ops.size).foldl (fun a j => if j == i || (ams.getD j 0).testBit i || (ops.getD i default).apart ops (ops.getD j default) then a ||| (1 <<< j) else a) 0
theorem fmask_spec (ops : Array Oper) (ams : List Nat) (i k : Nat) : (fmask ops ams i).testBit k = true → k < ops.size ∧ (k = i ∨ (ams.getD k 0).testBit i = true ∨ (ops.getD i default).apart ops (ops.getD k default) = true) := by
  have key : ∀ (l : List Nat) (a : Nat), (l.foldl (fun a j => if j == i || (ams.getD j 0).testBit i || (ops.getD i default).apart ops (ops.getD j default) then a ||| (1 <<< j) else a) a).testBit k = true → a.testBit k = true ∨ (k ∈ l ∧ (k = i ∨ (ams.getD k 0).testBit i = true ∨ (ops.getD i default).apart ops (ops.getD k default) = true)) := by
    intro l
    induction l with
    | nil => intro a h; exact .inl h
    | cons j l ih =>
      intro a h
      rw [List.foldl_cons] at h
      rcases ih _ h with h1 | ⟨h1, h2⟩
      · split at h1
        · rename_i hc
          rw [Nat.testBit_or, testBit_bit] at h1
          simp only [Bool.or_eq_true, decide_eq_true_eq] at h1
          rcases h1 with h1 | h1
          · exact .inl h1
          · subst h1
            simp only [Bool.or_eq_true, beq_iff_eq, or_assoc] at hc
            exact .inr ⟨.head _, hc⟩
        · exact .inl h1
      · exact .inr ⟨.tail _ h1, h2⟩
  intro h
  rcases key _ _ h with h1 | ⟨h1, h2⟩
  · simp at h1
  · exact ⟨List.mem_range.1 h1, h2⟩
def readyAt (ams : List Nat) (x i : Nat) : Bool := !x.testBit i && (ams.getD i 0 &&& x == ams.getD i 0)
def readyF (ams : List Nat) (n x : Nat) : List Nat := (List.range n).filter (readyAt ams x)
def bitsOf (x : Nat) (l : List Nat) : Nat := l.foldl (fun x i => x ||| (1 <<< i)) x
def chkF (ops : Array Oper) (n m : Nat) (ams frs : List Nat) : List (Nat × Kd) → Nat → List Nat → Bool
  | [], x, pend => pend.isEmpty && (readyF ams n x).isEmpty
  | (i, .q) :: r, x, pend => decide (i < m) && decide (i < n) && readyAt ams x i && ((frs.getD i 0 ||| x) &&& (1 <<< n - 1) == 1 <<< n - 1) && !pend.contains i &&
      ((List.range n).all fun k => decide (k < m) || (ams.getD k 0).testBit i || waits ops k i) && chkF ops n m ams frs r (x ||| (1 <<< i)) pend
  | (i, .a) :: r, x, pend => pend.contains i && (readyF ams n (bitsOf x (pend.filter (· != i))) == [i]) && chkF ops n m ams frs r (x ||| (1 <<< i)) (pend.filter (· != i))
  | (i, .c) :: r, x, pend => decide (i < m) && !pend.contains i && (readyF ams n (bitsOf x pend) == [i]) && chkF ops n m ams frs r (x ||| (1 <<< i)) pend
  | (i, .b j) :: r, x, pend => decide (i < m) && decide (j < m) && !pend.contains i && !pend.contains j && decide (i ≠ j) && (readyF ams n (bitsOf x pend) == [i, j]) &&
      (readyF ams n (bitsOf (x ||| (1 <<< i)) pend) == [j]) && (readyF ams n (bitsOf (x ||| (1 <<< j)) pend) == [i]) && chkF ops n m ams frs r ((x ||| (1 <<< i)) ||| (1 <<< j)) pend
  | (i, .t) :: r, x, pend => pend.isEmpty && (r.all fun y => match y.2 with | .t => true | _ => false) && decide (m ≤ i) && (readyF ams n x == [i]) && chkF ops n m ams frs r (x ||| (1 <<< i)) []
  | (i, .p) :: r, x, pend => decide (i < m) && decide (i < n) && readyAt ams x i && ((frs.getD i 0 ||| x) &&& (1 <<< n - 1) == 1 <<< n - 1) && !pend.contains i && chkF ops n m ams frs r (x ||| (1 <<< i)) pend
  | (i, .d i2 j) :: r, x, pend => (decide (i < m) && decide (i2 < m) && decide (j < m) && !pend.contains i && !pend.contains i2 && !pend.contains j) && (decide (i ≠ i2) && decide (i ≠ j) && decide (i2 ≠ j)) &&
      (readyF ams n (bitsOf x pend) == [i, j]) && (readyF ams n (bitsOf (x ||| (1 <<< i)) pend) == [i2, j]) && (readyF ams n (bitsOf (x ||| (1 <<< j)) pend) == [i]) &&
      (readyF ams n (bitsOf ((x ||| (1 <<< i)) ||| (1 <<< i2)) pend) == [j]) && (readyF ams n (bitsOf ((x ||| (1 <<< i)) ||| (1 <<< j)) pend) == [i2]) &&
      chkF ops n m ams frs r (((x ||| (1 <<< i)) ||| (1 <<< i2)) ||| (1 <<< j)) pend
  | (_, .m _ _) :: _, _, _ => false
section
variable {ops : Array Oper} {ams frs : List Nat}
def SetR (ops : Array Oper) (b : Array Bool) (x : Nat) : Prop := b.size = ops.size ∧ ∀ i, i < ops.size → b[i]? = some (x.testBit i)
theorem SetR.getF {b : Array Bool} {x : Nat} (h : SetR ops b x) {i : Nat} (hi : i < ops.size) (d : Bool) : b.getD i d = x.testBit i := by
  rw [Array.getD_eq_getD_getElem?, h.2 i hi]; rfl
theorem SetR.set {b : Array Bool} {x : Nat} (h : SetR ops b x) (i : Nat) : SetR ops (b.setIfInBounds i true) (x ||| (1 <<< i)) := by
  refine ⟨by simpa using h.1, fun k hk => ?_⟩
  rw [Nat.testBit_or, testBit_bit, Array.getElem?_setIfInBounds]
  by_cases e : i = k
  · subst e
    have : i < b.size := by rw [h.1]; exact hk
    simp [this]
  · rw [if_neg e, h.2 k hk]
    simp [Ne.symm e]
theorem SetR.setAll {b : Array Bool} {x : Nat} (h : SetR ops b x) : ∀ (l : List Nat), SetR ops (setAll b l) (bitsOf x l) := by
  intro l
  induction l generalizing b x with
  | nil => exact h
  | cons i l ih => exact ih (h.set i)
theorem SetR.start : SetR ops (Array.replicate ops.size false) 0 := ⟨by simp, fun i hi => by simp [hi]⟩
def TabOk (ops : Array Oper) (ams frs : List Nat) : Bool := (ops.toList.map amask == ams) && ((List.range ops.size).map (fmask ops ams) == frs)
theorem tab_am (h : TabOk ops ams frs = true) {i : Nat} (hi : i < ops.size) : ams.getD i 0 = amask (ops.getD i default) := by
  simp only [TabOk, Bool.and_eq_true, beq_iff_eq] at h
  rw [← h.1, List.getD_eq_getElem?_getD, List.getElem?_map, Array.getElem?_toList, Array.getD_eq_getD_getElem?]
  simp [hi]
theorem tab_fr (h : TabOk ops ams frs = true) {i : Nat} (hi : i < ops.size) : frs.getD i 0 = fmask ops ams i := by
  simp only [TabOk, Bool.and_eq_true, beq_iff_eq] at h
  rw [← h.2, List.getD_eq_getElem?_getD, List.getElem?_map]
  simp [hi]
theorem on_lt (hl : ∀ o ∈ ops, ∀ e ∈ o.after, e.on < ops.size) {i : Nat} (hi : i < ops.size) {e : Edge} (he : e ∈ (ops.getD i default).after) : e.on < ops.size := by
  refine hl _ ?_ e he
  rw [Array.getD_eq_getD_getElem?, Array.getElem?_eq_getElem hi]
  exact Array.getElem_mem hi
theorem readyAt_eq (ht : TabOk ops ams frs = true) (hl : ∀ o ∈ ops, ∀ e ∈ o.after, e.on < ops.size) {b : Array Bool} {x i : Nat} (hs : SetR ops b x) (hi : i < ops.size) :
    readyAt ams x i = (!b.getD i true && ((ops[i]?).map (·.after.all fun e => !Region.binds .any e || b.getD e.on false)).getD false) := by
  unfold readyAt
  rw [hs.getF hi, tab_am ht hi]
  congr 1
  have ho : ops[i]? = some (ops.getD i default) := getOp hi
  rw [ho]
  simp only [Option.map_some, Option.getD_some]
  rw [Bool.eq_iff_iff, beq_iff_eq, Array.all_eq_true_iff_forall_mem]
  constructor
  · intro h e he
    by_cases hb : Region.binds .any e = true
    · have h1 := (amask_spec (ops.getD i default) e.on).2 ⟨e, he, hb, rfl⟩
      rw [← h, Nat.testBit_and, Bool.and_eq_true] at h1
      rw [hs.getF (on_lt hl hi he), h1.2]
      simp
    · simp [hb]
  · intro h
    apply Nat.eq_of_testBit_eq
    intro k
    rw [Nat.testBit_and]
    by_cases hk : (amask (ops.getD i default)).testBit k = true
    · obtain ⟨e, he, hb, rfl⟩ := (amask_spec _ _).1 hk
      have h1 := h e he
      rw [hb, hs.getF (on_lt hl hi he)] at h1
      simp at h1
      rw [hk, h1]; rfl
    · have : (amask (ops.getD i default)).testBit k = false := by simpa using hk
      rw [this]; rfl
theorem readyF_eq (ht : TabOk ops ams frs = true) (hl : ∀ o ∈ ops, ∀ e ∈ o.after, e.on < ops.size) {b : Array Bool} {x : Nat} (hs : SetR ops b x) : Region.ready .any ops b = readyF ams ops.size x := by
  unfold Region.ready readyF
  apply List.filter_congr
  intro i hi
  exact (readyAt_eq ht hl hs (List.mem_range.1 hi)).symm
theorem ready_contains (ht : TabOk ops ams frs = true) (hl : ∀ o ∈ ops, ∀ e ∈ o.after, e.on < ops.size) {b : Array Bool} {x i : Nat} (hs : SetR ops b x) (hi : i < ops.size) (h : readyAt ams x i = true) : (Region.ready .any ops b).contains i = true := by
  rw [readyF_eq ht hl hs]
  unfold readyF
  simp [hi, h]
theorem mask_full {y n k : Nat} (h : y &&& (1 <<< n - 1) = 1 <<< n - 1) (hk : k < n) : y.testBit k = true := by
  have h1 : (1 <<< n - 1).testBit k = true := by rw [Nat.one_shiftLeft, Nat.testBit_two_pow_sub_one]; simpa using hk
  rw [← h, Nat.testBit_and, Bool.and_eq_true] at h1
  exact h1.1
theorem free_of (ht : TabOk ops ams frs = true) {b : Array Bool} {x i : Nat} (hs : SetR ops b x) (hi : i < ops.size) (h : (frs.getD i 0 ||| x) &&& (1 <<< ops.size - 1) = 1 <<< ops.size - 1) : Region.free .any ops b i = true := by
  unfold Region.free
  rw [getOp hi]
  simp only [List.all_eq_true, List.mem_range]
  intro j hj
  have h1 := mask_full h hj
  rw [Nat.testBit_or, Bool.or_eq_true, tab_fr ht hi] at h1
  rw [getOp hj, hs.getF hj]
  simp only [Bool.or_eq_true, beq_iff_eq]
  rcases h1 with h1 | h1
  · obtain ⟨_, h2 | h2 | h2⟩ := fmask_spec _ _ _ _ h1
    · exact .inl (.inl h2)
    · rw [tab_am ht hj] at h2
      obtain ⟨e, he, hb, ho⟩ := (amask_spec _ _).1 h2
      refine .inr (.inl ?_)
      rw [Array.any_eq_true']
      exact ⟨e, he, by simp [hb, ho]⟩
    · exact .inr (.inr h2)
  · exact .inl (.inr h1)
theorem waits_of (ht : TabOk ops ams frs = true) {k i : Nat} (hk : k < ops.size) (h : (ams.getD k 0).testBit i = true) : waits ops k i = true := by
  rw [tab_am ht hk] at h
  obtain ⟨e, he, hb, ho⟩ := (amask_spec _ _).1 h
  unfold waits
  rw [Array.any_eq_true']
  refine ⟨e, he, ?_⟩
  rw [hb, ho]
  simp [waitsF]
theorem chkF_ok (ht : TabOk ops ams frs = true) (hl : ∀ o ∈ ops, ∀ e ∈ o.after, e.on < ops.size) {m : Nat} : ∀ (ord : List (Nat × Kd)) (b : Array Bool) (x : Nat) (pend : List Nat), SetR ops b x → chkF ops ops.size m ams frs ord x pend = true → chk ops m ord b pend = true
  | [], b, x, pend, hs, h => by
    simp only [chkF, Bool.and_eq_true] at h
    simp only [chk, Bool.and_eq_true, readyF_eq ht hl hs]
    exact h
  | (i, .q) :: r, b, x, pend, hs, h => by
    simp only [chkF, Bool.and_eq_true, beq_iff_eq, decide_eq_true_eq] at h
    obtain ⟨⟨⟨⟨⟨⟨h1, h2⟩, h3⟩, h4⟩, h5⟩, h6⟩, h7⟩ := h
    simp only [chk, Bool.and_eq_true, decide_eq_true_eq]
    refine ⟨⟨⟨⟨⟨h1, ready_contains ht hl hs h2 h3⟩, free_of ht hs h2 h4⟩, h5⟩, ?_⟩, chkF_ok ht hl r _ _ _ (hs.set i) h7⟩
    rw [List.all_eq_true] at h6 ⊢
    intro k hk
    have := h6 k hk
    simp only [Bool.or_eq_true] at this ⊢
    rcases this with (h8 | h8) | h8
    · exact .inl h8
    · exact .inr (waits_of ht (List.mem_range.1 hk) h8)
    · exact .inr h8
  | (i, .a) :: r, b, x, pend, hs, h => by
    simp only [chkF, Bool.and_eq_true] at h
    obtain ⟨⟨h1, h2⟩, h3⟩ := h
    simp only [chk, Bool.and_eq_true, readyF_eq ht hl (hs.setAll _)]
    exact ⟨⟨h1, h2⟩, chkF_ok ht hl r _ _ _ (hs.set i) h3⟩
  | (i, .c) :: r, b, x, pend, hs, h => by
    simp only [chkF, Bool.and_eq_true] at h
    obtain ⟨⟨⟨h1, h2⟩, h3⟩, h4⟩ := h
    simp only [chk, Bool.and_eq_true, readyF_eq ht hl (hs.setAll _)]
    exact ⟨⟨⟨h1, h2⟩, h3⟩, chkF_ok ht hl r _ _ _ (hs.set i) h4⟩
  | (i, .b j) :: r, b, x, pend, hs, h => by
    simp only [chkF, Bool.and_eq_true] at h
    obtain ⟨⟨⟨⟨⟨⟨⟨⟨h1, h2⟩, h3⟩, h4⟩, h5⟩, h6⟩, h7⟩, h8⟩, h9⟩ := h
    simp only [chk, Bool.and_eq_true, readyF_eq ht hl (hs.setAll _), readyF_eq ht hl ((hs.set i).setAll _), readyF_eq ht hl ((hs.set j).setAll _)]
    exact ⟨⟨⟨⟨⟨⟨⟨⟨h1, h2⟩, h3⟩, h4⟩, h5⟩, h6⟩, h7⟩, h8⟩, chkF_ok ht hl r _ _ _ ((hs.set i).set j) h9⟩
  | (i, .t) :: r, b, x, pend, hs, h => by
    simp only [chkF, Bool.and_eq_true] at h
    obtain ⟨⟨⟨⟨h1, h2⟩, h3⟩, h4⟩, h5⟩ := h
    simp only [chk, Bool.and_eq_true, readyF_eq ht hl hs]
    exact ⟨⟨⟨⟨h1, h2⟩, h3⟩, h4⟩, chkF_ok ht hl r _ _ _ (hs.set i) h5⟩
  | (i, .p) :: r, b, x, pend, hs, h => by
    simp only [chkF, Bool.and_eq_true, beq_iff_eq, decide_eq_true_eq] at h
    obtain ⟨⟨⟨⟨⟨h1, h2⟩, h3⟩, h4⟩, h5⟩, h7⟩ := h
    simp only [chk, Bool.and_eq_true, decide_eq_true_eq]
    exact ⟨⟨⟨⟨h1, ready_contains ht hl hs h2 h3⟩, free_of ht hs h2 h4⟩, h5⟩, chkF_ok ht hl r _ _ _ (hs.set i) h7⟩
  | (i, .d i2 j) :: r, b, x, pend, hs, h => by
    simp only [chkF, Bool.and_eq_true] at h
    obtain ⟨⟨⟨⟨⟨⟨⟨h1, h2⟩, h3⟩, h4⟩, h5⟩, h6⟩, h7⟩, h8⟩ := h
    simp only [chk, Bool.and_eq_true, readyF_eq ht hl (hs.setAll _), readyF_eq ht hl ((hs.set i).setAll _), readyF_eq ht hl ((hs.set j).setAll _), readyF_eq ht hl (((hs.set i).set i2).setAll _), readyF_eq ht hl (((hs.set i).set j).setAll _)]
    exact ⟨⟨⟨⟨⟨⟨⟨h1, h2⟩, h3⟩, h4⟩, h5⟩, h6⟩, h7⟩, chkF_ok ht hl r _ _ _ (((hs.set i).set i2).set j) h8⟩
  | (_, .m _ _) :: _, _, _, _, _, h => by simp [chkF] at h
def chkAll (l : List Oper) (m : Nat) (ams frs : List Nat) (al : Als) (ord : List (Nat × Kd)) : Bool :=
  Region.noSelect l.toArray && chkAl l.toArray al && (al.all fun x => decide (x.1 < m)) && (l.all fun o => o.after.all fun e => decide (e.on < l.length)) && TabOk l.toArray ams frs && chkF l.toArray l.length m ams frs ord 0 (al.map (·.1))
theorem chk_of {l : List Oper} {m : Nat} {al : Als} {ord : List (Nat × Kd)} (ams frs : List Nat) (h : chkAll l m ams frs al ord = true) :
    (Region.noSelect l.toArray && chkAl l.toArray al && (al.all fun x => decide (x.1 < m)) && chk l.toArray m ord (Array.replicate l.length false) (al.map (·.1))) = true := by
  simp only [chkAll, Bool.and_eq_true] at h
  obtain ⟨⟨⟨⟨⟨h1, h2⟩, h3⟩, h4⟩, h5⟩, h6⟩ := h
  simp only [Bool.and_eq_true]
  refine ⟨⟨⟨h1, h2⟩, h3⟩, ?_⟩
  have hl : ∀ o ∈ l.toArray, ∀ e ∈ o.after, e.on < l.toArray.size := by
    intro o ho e he
    have := List.all_eq_true.1 h4 o (by simpa using ho)
    have := Array.all_eq_true_iff_forall_mem.1 this e he
    simpa using this
  exact chkF_ok h5 hl ord _ 0 _ SetR.start h6
end
end Bk
namespace Go.Proofs.YtghhjjmjpeehdaaGreat
open Bk Go Tryz
theorem ty2 : TyOk Tryz.prog 2 1 false := ⟨sizeOf2, isAgg2⟩
theorem ty3 : TyOk Tryz.prog 3 1 false := ⟨sizeOf3, isAgg3⟩
theorem xA : TyOk Tryz.prog 30 3 true := ⟨sizeOf30, isAgg30⟩
theorem xF : TyOk Tryz.prog 32 9 true := ⟨sizeOf32, isAgg32⟩
theorem ty34 : TyOk Tryz.prog 34 12 true := ⟨sizeOf34, isAgg34⟩
theorem ty66 : TyOk Tryz.prog 66 3 true := ⟨sizeOf66, isAgg66⟩
end Go.Proofs.YtghhjjmjpeehdaaGreat
namespace Go.Proofs.YtghhjjmjpeehdaaGreat
open Bk Go Tryz
set_option linter.unusedVariables false
set_option linter.unusedSimpArgs false
set_option maxRecDepth 10000
theorem o_rat_add {w0 : World} {h0 : Mem} (hs : MLe h0 (mem w0)) {k l : Nat} {va : Value} {a : Rat} (ra : (rpQ k).Is h0 va a) {vb : Value} {b : Rat} (rb : (rpQ l).Is h0 vb b) (hcd0 : k + l ≤ 10000000000)  :
    Calls Tryz.prog 71 #[va, vb] w0 (Ret w0 h0 (fun h r => (rpQ (k + l + 1)).Is h r (a + b))) := by
  obtain ⟨vna, vda, rfl, hna, hda, hla⟩ := open_q ra
  obtain ⟨vnb, vdb, rfl, hnb, hdb, hlb⟩ := open_q rb
  exact (rat_add hs hna hda hnb hdb (by omega) (by omega) ).mono (ret_imp fun h r x => is_q x (by have := lq_add a b; omega))
theorem o_rat_sub {w0 : World} {h0 : Mem} (hs : MLe h0 (mem w0)) {k l : Nat} {va : Value} {a : Rat} (ra : (rpQ k).Is h0 va a) {vb : Value} {b : Rat} (rb : (rpQ l).Is h0 vb b) (hcd0 : k + l ≤ 10000000000)  :
    Calls Tryz.prog 70 #[va, vb] w0 (Ret w0 h0 (fun h r => (rpQ (k + l + 1)).Is h r (a - b))) := by
  obtain ⟨vna, vda, rfl, hna, hda, hla⟩ := open_q ra
  obtain ⟨vnb, vdb, rfl, hnb, hdb, hlb⟩ := open_q rb
  exact (rat_sub hs hna hda hnb hdb (by omega) (by omega) ).mono (ret_imp fun h r x => is_q x (by have := lq_sub a b; omega))
theorem o_rat_mul {w0 : World} {h0 : Mem} (hs : MLe h0 (mem w0)) {k l : Nat} {va : Value} {a : Rat} (ra : (rpQ k).Is h0 va a) {vb : Value} {b : Rat} (rb : (rpQ l).Is h0 vb b) (hcd0 : k + l ≤ 10000000000)  :
    Calls Tryz.prog 103 #[va, vb] w0 (Ret w0 h0 (fun h r => (rpQ (k + l)).Is h r (a * b))) := by
  obtain ⟨vna, vda, rfl, hna, hda, hla⟩ := open_q ra
  obtain ⟨vnb, vdb, rfl, hnb, hdb, hlb⟩ := open_q rb
  exact (rat_mul hs hna hda hnb hdb (by omega) (by omega) ).mono (ret_imp fun h r x => is_q x (by have := lq_mul a b; omega))
theorem o_rat_min {w0 : World} {h0 : Mem} (hs : MLe h0 (mem w0)) {k : Nat} {va : Value} {a : Rat} (ra : (rpQ k).Is h0 va a) {vb : Value} {b : Rat} (rb : (rpQ k).Is h0 vb b) (hcd0 : k ≤ 10000000000)  :
    Calls Tryz.prog 67 #[va, vb] w0 (Ret w0 h0 (fun h r => (rpQ k).Is h r (minQ a b))) := by
  obtain ⟨vna, vda, rfl, hna, hda, hla⟩ := open_q ra
  obtain ⟨vnb, vdb, rfl, hnb, hdb, hlb⟩ := open_q rb
  exact (rat_min hs hna hda hnb hdb (by omega) (by omega) ).mono (ret_imp fun h r x => is_q x (by have := lq_min a b; omega))
theorem o_rat_max {w0 : World} {h0 : Mem} (hs : MLe h0 (mem w0)) {k : Nat} {va : Value} {a : Rat} (ra : (rpQ k).Is h0 va a) {vb : Value} {b : Rat} (rb : (rpQ k).Is h0 vb b) (hcd0 : k ≤ 10000000000)  :
    Calls Tryz.prog 68 #[va, vb] w0 (Ret w0 h0 (fun h r => (rpQ k).Is h r (maxQ a b))) := by
  obtain ⟨vna, vda, rfl, hna, hda, hla⟩ := open_q ra
  obtain ⟨vnb, vdb, rfl, hnb, hdb, hlb⟩ := open_q rb
  exact (rat_max hs hna hda hnb hdb (by omega) (by omega) ).mono (ret_imp fun h r x => is_q x (by have := lq_max a b; omega))
theorem o_rat_cmp {w0 : World} {h0 : Mem} (hs : MLe h0 (mem w0)) {k l : Nat} {va : Value} {a : Rat} (ra : (rpQ k).Is h0 va a) {vb : Value} {b : Rat} (rb : (rpQ l).Is h0 vb b) (hcd0 : k + l ≤ 10000000000)  :
    Calls Tryz.prog 104 #[va, vb] w0 (Ret w0 h0 (fun _ r => r = vI (cmpQ a b))) := by
  obtain ⟨vna, vda, rfl, hna, hda, hla⟩ := open_q ra
  obtain ⟨vnb, vdb, rfl, hnb, hdb, hlb⟩ := open_q rb
  exact rat_cmp hs hna hda hnb hdb (by omega) (by omega)
theorem o_rat_sign {w0 : World} {h0 : Mem} (hs : MLe h0 (mem w0)) {k : Nat} {va : Value} {a : Rat} (ra : (rpQ k).Is h0 va a) (hcd0 : k ≤ 10000000000)  :
    Calls Tryz.prog 101 #[va] w0 (Ret w0 h0 (fun _ r => r = vI (sgnQ a))) := by
  obtain ⟨vna, vda, rfl, hna, hda, hla⟩ := open_q ra
  exact rat_sign hs hna hda (by omega)
theorem o_rat_same {w0 : World} {h0 : Mem} (hs : MLe h0 (mem w0)) {k l : Nat} {va : Value} {a : Rat} (ra : (rpQ k).Is h0 va a) {vb : Value} {b : Rat} (rb : (rpQ l).Is h0 vb b) (hcd0 : k + l ≤ 10000000000)  :
    Calls Tryz.prog 122 #[va, vb] w0 (Ret w0 h0 (fun _ r => r = vB (a = b))) := by
  obtain ⟨vna, vda, rfl, hna, hda, hla⟩ := open_q ra
  obtain ⟨vnb, vdb, rfl, hnb, hdb, hlb⟩ := open_q rb
  exact rat_same hs hna hda hnb hdb (by omega) (by omega)
theorem o_rat_quo {w0 : World} {h0 : Mem} (hs : MLe h0 (mem w0)) {k l : Nat} {va : Value} {a : Rat} (ra : (rpQ k).Is h0 va a) {vb : Value} {b : Rat} (rb : (rpQ l).Is h0 vb b) (hcd0 : k + l ≤ 10000000000)  :
    Calls Tryz.prog 110 #[va, vb] w0 (Ret w0 h0 (fun h r => ∃ u0, r = .tuple #[u0, vI (if b = 0 then 3 else 0)] ∧ (rpQ (k + l)).Is h u0 (if b = 0 then 0 else a / b))) := by
  obtain ⟨vna, vda, rfl, hna, hda, hla⟩ := open_q ra
  obtain ⟨vnb, vdb, rfl, hnb, hdb, hlb⟩ := open_q rb
  exact (rat_quo hs hna hda hnb hdb (by omega) (by omega) ).mono (ret_imp fun h r x => by obtain ⟨u, e, y⟩ := x; exact ⟨u, e, is_q y (by have := lq_quo' a b; omega)⟩)
theorem o_rref_add {w0 : World} {h0 : Mem} (hs : MLe h0 (mem w0)) {k l : Nat} {va : Value} {a : Rat} (ra : (rpQ k).Is h0 va a) {vb : Value} {b : Rat} (rb : (rpQ l).Is h0 vb b) (hcd0 : k + l ≤ 10000000000)  :
    Calls Tryz.prog 53 #[va, vb] w0 (Ret w0 h0 (fun h r => (rpQ (k + l + 1)).Is h r (a + b))) := by
  obtain ⟨vna, vda, rfl, hna, hda, hla⟩ := open_q ra
  obtain ⟨vnb, vdb, rfl, hnb, hdb, hlb⟩ := open_q rb
  exact (rref_add hs hna hda hnb hdb (by omega) (by omega) ).mono (ret_imp fun h r x => is_q x (by have := lq_add a b; omega))
theorem o_rref_sub {w0 : World} {h0 : Mem} (hs : MLe h0 (mem w0)) {k l : Nat} {va : Value} {a : Rat} (ra : (rpQ k).Is h0 va a) {vb : Value} {b : Rat} (rb : (rpQ l).Is h0 vb b) (hcd0 : k + l ≤ 10000000000)  :
    Calls Tryz.prog 56 #[va, vb] w0 (Ret w0 h0 (fun h r => (rpQ (k + l + 1)).Is h r (a - b))) := by
  obtain ⟨vna, vda, rfl, hna, hda, hla⟩ := open_q ra
  obtain ⟨vnb, vdb, rfl, hnb, hdb, hlb⟩ := open_q rb
  exact (rref_sub hs hna hda hnb hdb (by omega) (by omega) ).mono (ret_imp fun h r x => is_q x (by have := lq_sub a b; omega))
theorem o_rref_mul {w0 : World} {h0 : Mem} (hs : MLe h0 (mem w0)) {k l : Nat} {va : Value} {a : Rat} (ra : (rpQ k).Is h0 va a) {vb : Value} {b : Rat} (rb : (rpQ l).Is h0 vb b) (hcd0 : k + l ≤ 10000000000)  :
    Calls Tryz.prog 54 #[va, vb] w0 (Ret w0 h0 (fun h r => (rpQ (k + l)).Is h r (a * b))) := by
  obtain ⟨vna, vda, rfl, hna, hda, hla⟩ := open_q ra
  obtain ⟨vnb, vdb, rfl, hnb, hdb, hlb⟩ := open_q rb
  exact (rref_mul hs hna hda hnb hdb (by omega) (by omega) ).mono (ret_imp fun h r x => is_q x (by have := lq_mul a b; omega))
theorem o_rref_min {w0 : World} {h0 : Mem} (hs : MLe h0 (mem w0)) {k : Nat} {va : Value} {a : Rat} (ra : (rpQ k).Is h0 va a) {vb : Value} {b : Rat} (rb : (rpQ k).Is h0 vb b) (hcd0 : k ≤ 10000000000)  :
    Calls Tryz.prog 74 #[va, vb] w0 (Ret w0 h0 (fun h r => (rpQ k).Is h r (minQ a b))) := by
  obtain ⟨vna, vda, rfl, hna, hda, hla⟩ := open_q ra
  obtain ⟨vnb, vdb, rfl, hnb, hdb, hlb⟩ := open_q rb
  exact (rref_min hs hna hda hnb hdb (by omega) (by omega) ).mono (ret_imp fun h r x => is_q x (by have := lq_min a b; omega))
theorem o_rref_max {w0 : World} {h0 : Mem} (hs : MLe h0 (mem w0)) {k : Nat} {va : Value} {a : Rat} (ra : (rpQ k).Is h0 va a) {vb : Value} {b : Rat} (rb : (rpQ k).Is h0 vb b) (hcd0 : k ≤ 10000000000)  :
    Calls Tryz.prog 75 #[va, vb] w0 (Ret w0 h0 (fun h r => (rpQ k).Is h r (maxQ a b))) := by
  obtain ⟨vna, vda, rfl, hna, hda, hla⟩ := open_q ra
  obtain ⟨vnb, vdb, rfl, hnb, hdb, hlb⟩ := open_q rb
  exact (rref_max hs hna hda hnb hdb (by omega) (by omega) ).mono (ret_imp fun h r x => is_q x (by have := lq_max a b; omega))
theorem o_rref_sign {w0 : World} {h0 : Mem} (hs : MLe h0 (mem w0)) {k : Nat} {va : Value} {a : Rat} (ra : (rpQ k).Is h0 va a) (hcd0 : k ≤ 10000000000)  :
    Calls Tryz.prog 50 #[va] w0 (Ret w0 h0 (fun _ r => r = vI (sgnQ a))) := by
  obtain ⟨vna, vda, rfl, hna, hda, hla⟩ := open_q ra
  exact rref_sign hs hna hda (by omega)
theorem o_rref_same {w0 : World} {h0 : Mem} (hs : MLe h0 (mem w0)) {k l : Nat} {va : Value} {a : Rat} (ra : (rpQ k).Is h0 va a) {vb : Value} {b : Rat} (rb : (rpQ l).Is h0 vb b) (hcd0 : k + l ≤ 10000000000)  :
    Calls Tryz.prog 62 #[va, vb] w0 (Ret w0 h0 (fun _ r => r = vB (a = b))) := by
  obtain ⟨vna, vda, rfl, hna, hda, hla⟩ := open_q ra
  obtain ⟨vnb, vdb, rfl, hnb, hdb, hlb⟩ := open_q rb
  exact rref_same hs hna hda hnb hdb (by omega) (by omega)
theorem o_rref_quo {w0 : World} {h0 : Mem} (hs : MLe h0 (mem w0)) {k l : Nat} {va : Value} {a : Rat} (ra : (rpQ k).Is h0 va a) {vb : Value} {b : Rat} (rb : (rpQ l).Is h0 vb b) (hcd0 : k + l ≤ 10000000000)  :
    Calls Tryz.prog 88 #[va, vb] w0 (Ret w0 h0 (fun h r => ∃ u0, r = .tuple #[u0, vI (if b = 0 then 3 else 0)] ∧ (rpQ (k + l)).Is h u0 (if b = 0 then 0 else a / b))) := by
  obtain ⟨vna, vda, rfl, hna, hda, hla⟩ := open_q ra
  obtain ⟨vnb, vdb, rfl, hnb, hdb, hlb⟩ := open_q rb
  exact (rref_quo hs hna hda hnb hdb (by omega) (by omega) ).mono (ret_imp fun h r x => by obtain ⟨u, e, y⟩ := x; exact ⟨u, e, is_q y (by have := lq_quo' a b; omega)⟩)
theorem o_rref_int {w0 : World} {h0 : Mem} (hs : MLe h0 (mem w0)) {n : Int} (hn1 : -9223372036854775808 ≤ n) (hn2 : n < 9223372036854775808)  :
    Calls Tryz.prog 45 #[vI n] w0 (Ret w0 h0 (fun h r => (rpQ 2).Is h r ((n : Int) : Rat))) := by
  exact (rref_int hs   hn1 hn2).mono (ret_imp fun h r x => is_q x (by exact lq_int n hn1 hn2))
theorem o_rat_int {w0 : World} {h0 : Mem} (hs : MLe h0 (mem w0)) {n : Int} (hn1 : -9223372036854775808 ≤ n) (hn2 : n < 9223372036854775808)  :
    Calls Tryz.prog 69 #[vI n] w0 (Ret w0 h0 (fun h r => (rpQ 2).Is h r ((n : Int) : Rat))) := by
  exact (rat_int hs   hn1 hn2).mono (ret_imp fun h r x => is_q x (by exact lq_int n hn1 hn2))
theorem o_rref_frac {w0 : World} {h0 : Mem} (hs : MLe h0 (mem w0)) {n : Int} (hn1 : -9223372036854775808 ≤ n) (hn2 : n < 9223372036854775808) {d : Int} (hd1 : -9223372036854775808 ≤ d) (hd2 : d < 9223372036854775808)  :
    Calls Tryz.prog 46 #[vI n, vI d] w0 (Ret w0 h0 (fun h r => (rpQ 2).Is h r (xR n d))) := by
  exact (rref_frac hs   hn1 hn2 hd1 hd2).mono (ret_imp fun h r x => is_q x (by exact lq_make hn1 hn2 hd1 hd2))
end Go.Proofs.YtghhjjmjpeehdaaGreat
namespace Bk
set_option linter.unusedVariables false
set_option linter.unusedSimpArgs false
open Go Go.RowKit
open Classical
end Bk
namespace Bk
set_option linter.unusedVariables false
set_option linter.unusedSimpArgs false
open Go Go.RowKit
open Classical
theorem sgnQ_lt (q : Rat) : sgnQ q = if q = 0 then 0 else if q < 0 then -1 else 1 := by unfold sgnQ; simp only [num_neg_iff]
theorem cmpQ_sub (a b : Rat) : cmpQ a b = sgnQ (a - b) := by rw [sgnQ_lt]; unfold cmpQ; grind
theorem mul_range {x y : Int} (hx : -1 ≤ x ∧ x ≤ 1) (hy : -1 ≤ y ∧ y ≤ 1) : -1 ≤ x * y ∧ x * y ≤ 1 := by
  have : x = -1 ∨ x = 0 ∨ x = 1 := by omega
  rcases this with h | h | h <;> subst h <;> omega
theorem pow_pos (k : Int) : (0 : Rat) < ((2 ^ kN k : Nat) : Rat) := by
  have : (0 : Rat) = ((0 : Nat) : Rat) := rfl
  rw [this, Rat.natCast_lt_natCast]
  exact Nat.pow_pos (by omega)
end Bk
namespace Bk
set_option linter.unusedVariables false
set_option linter.unusedSimpArgs false
open Go Go.RowKit
open Classical
theorem le_tot (a b : Rat) : a ≤ b ∨ b ≤ a := by grind
theorem minQ_self (a : Rat) : minQ a a = a := by unfold minQ; split <;> rfl
theorem maxQ_self (a : Rat) : maxQ a a = a := by unfold maxQ; split <;> rfl
theorem minQ_le (a b : Rat) : minQ a b ≤ a ∧ minQ a b ≤ b := by unfold minQ; split <;> grind
theorem maxQ_ge (a b : Rat) : a ≤ maxQ a b ∧ b ≤ maxQ a b := by unfold maxQ; split <;> grind
def hasP (a b r : Rat) : Prop := a ≤ r ∧ r ≤ b
noncomputable def mulLo (a b c d : Rat) : Rat := minQ (minQ (minQ (a * c) (a * d)) (b * c)) (b * d)
noncomputable def mulHi (a b c d : Rat) : Rat := maxQ (maxQ (maxQ (a * c) (a * d)) (b * c)) (b * d)
noncomputable def invQ (a : Rat) : Rat := if a = 0 then 0 else ((1 : Int) : Rat) / a
noncomputable def sqrLo (a b : Rat) : Rat := if hasP a b 0 then 0 else minQ (a * a) (b * b)
noncomputable def sqrHi (a b : Rat) : Rat := maxQ (a * a) (b * b)
theorem mul_mono {a b c : Rat} (h : a ≤ b) (hc : 0 ≤ c) : a * c ≤ b * c := Rat.mul_le_mul_of_nonneg_right h hc
theorem lin_lo {a b x c : Rat} (h1 : a ≤ x) (h2 : x ≤ b) : a * c ≤ x * c ∨ b * c ≤ x * c := by
  rcases le_tot 0 c with hc | hc
  · exact .inl (mul_mono h1 hc)
  · refine .inr ?_
    have := mul_mono (c := -c) h2 (by grind)
    grind
theorem lin_hi {a b x c : Rat} (h1 : a ≤ x) (h2 : x ≤ b) : x * c ≤ a * c ∨ x * c ≤ b * c := by
  rcases le_tot 0 c with hc | hc
  · exact .inr (mul_mono h2 hc)
  · refine .inl ?_
    have := mul_mono (c := -c) h1 (by grind)
    grind
theorem mul_has {a b c d r s : Rat} (hr : hasP a b r) (hs : hasP c d s) : hasP (mulLo a b c d) (mulHi a b c d) (r * s) := by
  obtain ⟨h1, h2⟩ := hr
  obtain ⟨h3, h4⟩ := hs
  have e : ∀ x y : Rat, x * y = y * x := Rat.mul_comm
  have m1 := minQ_le (minQ (minQ (a * c) (a * d)) (b * c)) (b * d); have m2 := minQ_le (minQ (a * c) (a * d)) (b * c); have m3 := minQ_le (a * c) (a * d)
  have n1 := maxQ_ge (maxQ (maxQ (a * c) (a * d)) (b * c)) (b * d); have n2 := maxQ_ge (maxQ (a * c) (a * d)) (b * c); have n3 := maxQ_ge (a * c) (a * d)
  have l1 := lin_lo (c := s) h1 h2
  have l2 := lin_lo (c := a) h3 h4
  have l3 := lin_lo (c := b) h3 h4
  have u1 := lin_hi (c := s) h1 h2
  have u2 := lin_hi (c := a) h3 h4
  have u3 := lin_hi (c := b) h3 h4
  rw [e c a, e d a, e s a] at l2 u2
  rw [e c b, e d b, e s b] at l3 u3
  unfold hasP mulLo mulHi
  constructor <;> grind
theorem minQ_mem (a b : Rat) : minQ a b = a ∨ minQ a b = b := by unfold minQ; split <;> simp
theorem maxQ_mem (a b : Rat) : maxQ a b = a ∨ maxQ a b = b := by unfold maxQ; split <;> simp
theorem hasP_lo {a b : Rat} (h : a ≤ b) : hasP a b a := ⟨Rat.le_refl, h⟩
theorem hasP_hi {a b : Rat} (h : a ≤ b) : hasP a b b := ⟨h, Rat.le_refl⟩
theorem mulLo_mem (a b c d : Rat) : mulLo a b c d = a * c ∨ mulLo a b c d = a * d ∨ mulLo a b c d = b * c ∨ mulLo a b c d = b * d := by
  unfold mulLo
  have h1 := minQ_mem (minQ (minQ (a * c) (a * d)) (b * c)) (b * d); have h2 := minQ_mem (minQ (a * c) (a * d)) (b * c); have h3 := minQ_mem (a * c) (a * d)
  grind
theorem mulHi_mem (a b c d : Rat) : mulHi a b c d = a * c ∨ mulHi a b c d = a * d ∨ mulHi a b c d = b * c ∨ mulHi a b c d = b * d := by
  unfold mulHi
  have h1 := maxQ_mem (maxQ (maxQ (a * c) (a * d)) (b * c)) (b * d); have h2 := maxQ_mem (maxQ (a * c) (a * d)) (b * c); have h3 := maxQ_mem (a * c) (a * d)
  grind
theorem mul_sub {a b c d x y : Rat} (hcd : c ≤ d) (hx : hasP a b x) (hy : hasP a b y) : hasP (mulLo a b c d) (mulHi a b c d) (mulLo x y c d) ∧ hasP (mulLo a b c d) (mulHi a b c d) (mulHi x y c d) := by
  have h1 := mul_has hx (hasP_lo hcd); have h2 := mul_has hx (hasP_hi hcd); have h3 := mul_has hy (hasP_lo hcd); have h4 := mul_has hy (hasP_hi hcd)
  constructor
  · rcases mulLo_mem x y c d with h | h | h | h <;> rw [h] <;> assumption
  · rcases mulHi_mem x y c d with h | h | h | h <;> rw [h] <;> assumption
noncomputable def quoLo (a b c d : Rat) : Rat := if hasP c d 0 then 0 else mulLo a b (minQ (invQ c) (invQ d)) (maxQ (invQ c) (invQ d))
noncomputable def quoHi (a b c d : Rat) : Rat := if hasP c d 0 then 0 else mulHi a b (minQ (invQ c) (invQ d)) (maxQ (invQ c) (invQ d))
noncomputable def quoE (c d : Rat) : Int := if hasP c d 0 then 3 else 0
end Bk
namespace Go.Proofs.YtghhjjmjpeehdaaGreat
open Bk Go Tryz
set_option linter.unusedVariables false
set_option linter.unusedSimpArgs false
set_option maxRecDepth 10000
end Go.Proofs.YtghhjjmjpeehdaaGreat
namespace Go.Proofs.YtghhjjmjpeehdaaGreat
open Bk Go Tryz
set_option linter.unusedVariables false
set_option linter.unusedSimpArgs false
set_option maxRecDepth 10000
theorem made_mod {w0 : World} {h0 : Mem}  (hs : MLe h0 (mem w0)) {n m : Int} (hm : 0 < m) (hm2 : m < 4611686018427387904) :
    Calls Tryz.prog 55 #[vI n, vI m] w0 (Ret w0 h0 (fun _ r => r = vI (modZ n m))) := by
 have htr := tmod_range n hm
 refine zO (n := 14) (e := [(0, vI n), (1, vI m)]) (vs := [vI n, vI m]) func55 rfl rfl (bL rfl) hs e2z (zC (zA (asg (v := vI (0)) rfl rfl (zD (zB (zC (zA (mv rfl rfl (mv rfl rfl (gv (ov_remt_i rfl rfl (by omega)) rfl (asg rfl rfl (zD (zB ?_)))))))))))))
 refine zC (zC (zA (mv rfl rfl (gv (zW (q := 0) rfl rfl) rfl (zD (zB ?_))))))
 refine zP rfl (fun hc9 => ?_) (fun hc9 => ?_)
 ·
  refine zA (mv rfl rfl (mv rfl rfl (gv (zS rfl rfl (by omega) (by omega)) rfl (asg rfl rfl (zD (zK (e' := [(0, _)]) ⟨rfl, trivial⟩ (zB (zC (zA (mv rfl rfl (asg rfl rfl (zD (zB ?_)))))))))))))
  refine zR (yJ rfl rfl ?_)
  rw [modZ, if_pos hc9]
 refine zL (zB (zC (zA (mv rfl rfl (asg rfl rfl (zD (zB (zR (yJ rfl rfl ?_)))))))))
 rw [modZ, if_neg hc9]
theorem made_light {w0 : World} {h0 : Mem}  (hs : MLe h0 (mem w0)) {vl : Value} {xs : List Int} (hl : Is h0 vl xs) :
    Calls Tryz.prog 9 #[vl] w0 (Ret w0 h0 (fun _ r => r = vB ((↑xs.length : Int) ≤ 500))) := by
 refine zO (n := 6) (e := [(0, vl)]) (vs := [vl]) func9 rfl rfl (bL rfl) hs ⟨rfl, trivial⟩ (zC (zA (asg rfl rfl (zD (zB (zC (zA (mv rfl rfl (gv (ov_len_is underlying22 rfl hl) rfl (gv (ov_leq_i (q := 500) rfl rfl) rfl (asg rfl rfl (zD (zB ?_)))))))))))))
 refine zR (yJ rfl rfl ?_)
 rfl
theorem made_roll {w0 : World} {h0 : Mem}  (hs : MLe h0 (mem w0)) {vl : Value} {xs : List Int} (hl : Is h0 vl xs) :
    Calls Tryz.prog 11 #[vl] w0 (RetOwn w0 h0 (fun _ r L => ∃ b, r = vP b 0 ∧ L = [.var b 65 [vl, vI ↑0]])) := by
 refine zO (n := 6) (e := [(0, vl)]) (vs := [vl]) func11 rfl rfl (bL rfl) hs ⟨rfl, trivial⟩ (zC (zA (asg rfl rfl (zD (zB (zC (zA (mv rfl rfl (gv (ov_build_parts (ps' := [(0, _)]) (vs := [vl, vI 0]) underlying65 info65 rfl (places65 underlying65) e2z (fill_one (A := []) (B := [_]) (C := [_]) (cs := [_]) (off := 0) (size := 1) rfl rfl rfl rfl hl.cells fill_nil)) rfl (zJ (new_box (cs := [_, _]) rfl rfl) rfl rfl rfl ?_))))))))))
 intro v5 r5 hr5
 obtain ⟨b5, rfl, rfl⟩ := hr5
 refine asg rfl rfl (zD (zB (zR (gq_body1_own rfl rfl ?_))))
 exact ⟨_, rfl, rfl⟩
theorem dice_next {w0 w : World} {h0 h : Mem} {b k : Nat} {vl : Value} {xs : List Int} (hl : Is h vl xs) (hk : k ≤ xs.length) {n : Int} (hn : 0 < n) (hn2 : n < 4611686018427387904) {L : List Res} (hs : St w0 h0 (.var b 65 [vl, vI ↑k] :: L) h w) :
    Calls Tryz.prog 22 #[vP b 0, vI n] w (RetMut w0 h0 h L (fun g r q' => ∃ k' : Nat, ∃ z, q' = .var b 65 [vl, vI ↑k'] ∧ k' ≤ xs.length ∧ (r = vI z ∧ 0 ≤ z ∧ z < n))) := by
 have hlen := hl.lt63
 refine calls_begin_st (n := 35) (e := [(0, vP b 0), (1, vI n)]) (vs := [vP b 0, vI n]) func22 rfl rfl (bL rfl) hs e2z (zC (zA (asg (v := vI (0)) rfl rfl (zD (zB (zC (zC ?_)))))))
 refine yG 10 _ [] [(0, .q), (1, .q), (2, .q), (3, .q), (4, .q), (5, .q), (6, .q), (7, .q), (8, .q), (9, .q)] xG nX (by kernel_rfl) nX (fun r hr => hr) (w_q rfl (fun h' L' hh hR => zH rfl) rfl (w_q rfl (fun h' L' hh hR => ov_nilcheck rfl) rfl (w_q rfl (fun h' L' hh hR => zI underlying65 rfl sizeOf3 rfl) rfl (w_q rfl (fun h' L' hh hR => zU (hR _ (.head _)) isAgg3 rfl rfl) rfl (w_q rfl (fun h' L' hh hR => zH rfl) rfl (w_q rfl (fun h' L' hh hR => ov_nilcheck rfl) rfl (w_q rfl (fun h' L' hh hR => zI underlying65 rfl sizeOf22 rfl) rfl (w_q rfl (fun h' L' hh hR => zU (hR _ (.head _)) isAgg22 rfl rfl) rfl (w_q rfl (fun h' L' hh hR => ov_len_is underlying22 rfl (hl.mono hh)) rfl (w_q rfl (fun h' L' hh hR => ov_geq_i rfl rfl) rfl (yZ (zK (e' := [(0, _), (1, _), (14, _)]) e3z (zB ?_)))))))))))))
 refine zP rfl (fun hc14 => ?_) (fun hc14 => ?_)
 ·
  refine zC (zA (asg (v := vI (0)) rfl rfl (zD (zB (zR (yA (gq_body1_own rfl rfl ?_)))))))
  exact ⟨_, (List.Sublist.refl _), (MLe.refl _), k, 0, rfl, hk, rfl, by omega, hn⟩
 refine zL (zB (zC (zA (mv rfl rfl (gv (ov_nilcheck rfl) rfl (gv (zI underlying65 rfl sizeOf3 rfl) rfl (gv (zU (.head _) isAgg3 rfl rfl) rfl (gv (zS (q := 1) rfl rfl (by omega) (by omega)) rfl (gv (ov_nilcheck rfl) rfl (gv (zI underlying65 rfl sizeOf3 rfl) rfl (gl_upd (A := []) (r' := .var b 65 [vl, vI ((↑k : Int) + (1 : Int))]) (yB (k := 1) (cs := [_, _]) (vs := [_]) rfl rfl rfl rfl size3 (bL rfl)) rfl rfl rfl (zD (zB ?_)))))))))))))
 refine zC ?_
 refine yG 14 _ [] [(0, .q), (1, .q), (2, .q), (3, .q), (4, .q), (5, .q), (6, .q), (7, .q), (8, .q), (9, .q), (10, .q), (11, .q), (12, .c), (13, .q)] xG nX (by kernel_rfl) nX (fun r hr => hr) (w_q rfl (fun h' L' hh hR => zH rfl) rfl (w_q rfl (fun h' L' hh hR => ov_nilcheck rfl) rfl (w_q rfl (fun h' L' hh hR => zI underlying65 rfl sizeOf22 rfl) rfl (w_q rfl (fun h' L' hh hR => zU (hR _ (.head _)) isAgg22 rfl rfl) rfl (w_q rfl (fun h' L' hh hR => zH rfl) rfl (w_q rfl (fun h' L' hh hR => ov_nilcheck rfl) rfl (w_q rfl (fun h' L' hh hR => zI underlying65 rfl sizeOf3 rfl) rfl (w_q rfl (fun h' L' hh hR => zU (hR _ (.head _)) isAgg3 rfl rfl) rfl (w_q rfl (fun h' L' hh hR => xE (q := 1) rfl rfl (by omega) (by omega)) rfl (w_q rfl (fun h' L' hh hR => ov_index_is (k) underlying22 sizeOf3 rfl rfl (hl.mono hh) (by omega) (by omega)) rfl (w_q rfl (fun h' L' hh hR => ov_load_is isAgg3 rfl (hl.mono hh) (by omega)) rfl (w_q rfl (fun h' L' hh hR => zH rfl) rfl ?_))))))))))))
 refine w_c rfl ?_
 refine zY (vs := [_, _]) call55 e2z (fun w hs => made_mod hs (by omega) (by omega)) rfl ?_
 intro v34 h1 hh1 hr34
 have hmz34 := modZ_range ((xs).getD (k) 0) (q := n) (by omega)
 subst hr34
 refine w_q rfl (fun h' L' hh hR => yK rfl) rfl (yZ (zK (e' := [(4, _)]) ⟨rfl, trivial⟩ (zB (zR (gq_body1_own rfl rfl ?_)))))
 exact ⟨_, (List.Sublist.refl _), hh1, k + 1, _, rfl, by omega, rfl, hmz34.1, hmz34.2⟩
end Go.Proofs.YtghhjjmjpeehdaaGreat
namespace Bk
set_option linter.unusedVariables false
set_option linter.unusedSimpArgs false
open Go Go.RowKit
open Classical
theorem sq_exists (n : Nat) : ∃ m, m * m ≤ n ∧ n < (m + 1) * (m + 1) := by
  induction n with
  | zero => exact ⟨0, by decide, by decide⟩
  | succ n ih =>
    obtain ⟨m, h1, h2⟩ := ih
    by_cases h : (m + 1) * (m + 1) ≤ n + 1
    · refine ⟨m + 1, h, ?_⟩
      have : (m + 1) * (m + 1) < (m + 1 + 1) * (m + 1 + 1) := Nat.mul_self_lt_mul_self (by omega)
      omega
    · exact ⟨m, by omega, by omega⟩
noncomputable def sqN (n : Nat) : Nat := Classical.choose (sq_exists n)
end Bk
namespace Bk
set_option linter.unusedVariables false
set_option linter.unusedSimpArgs false
open Go Go.RowKit
open Classical
noncomputable def ovQ (a K : Nat) : Rat := (a : Rat) / ((2 ^ K : Nat) : Rat)
def flN (q : Rat) (K : Nat) : Nat := q.num.natAbs * 2 ^ K * 2 ^ K / q.den
noncomputable def rootQ (q : Rat) (k : Int) : Rat := ovQ (sqN (flN q (kN k))) (kN k)
theorem den_pos (q : Rat) : (0 : Rat) < (q.den : Rat) := by
  have : (0 : Rat) = ((0 : Nat) : Rat) := rfl
  rw [this, Rat.natCast_lt_natCast]
  exact Nat.pos_of_ne_zero q.den_nz
theorem num_nonneg {q : Rat} (h : 0 ≤ q) : (q.num.natAbs : Int) = q.num := Int.natAbs_of_nonneg (Rat.num_nonneg.2 h)
def topN (q : Rat) (K : Nat) : Nat := (q.num.natAbs / q.den + 1) * 2 ^ K
def moreP (q : Rat) (K : Nat) : Prop := q.num.natAbs * 2 ^ K * 2 ^ K % q.den ≠ 0
noncomputable def rtLo (l h : Rat) (k : Int) : Rat := if h < 0 then 0 else rootQ (maxQ l 0) k
noncomputable def rtHi (h : Rat) (k : Int) : Rat := if h < 0 then 0 else if rootQ h k * rootQ h k < h then rootQ h k + ovQ 1 (kN k) else rootQ h k
noncomputable def rtE (h : Rat) : Int := if h < 0 then 7 else 0
noncomputable def loN (l : Rat) (K : Nat) : Nat := if 0 < sgnQ l then sqN (flN l K) else 0
theorem sgn_pos {q : Rat} : 0 < sgnQ q ↔ 0 < q := by
  rw [sgnQ_lt]
  by_cases h0 : q = 0
  · rw [if_pos h0, h0]
    constructor
    · intro h; omega
    · intro h; exact absurd h (Rat.lt_irrefl)
  · rw [if_neg h0]
    by_cases h1 : q < 0
    · rw [if_pos h1]
      constructor
      · intro h; omega
      · intro h; grind
    · rw [if_neg h1]
      constructor
      · intro h; grind
      · intro h; omega
theorem sgn_neg {q : Rat} : sgnQ q < 0 ↔ q < 0 := by
  rw [sgnQ_lt]
  by_cases h0 : q = 0
  · rw [if_pos h0, h0]
    constructor
    · intro h; omega
    · intro h; exact absurd h (Rat.lt_irrefl)
  · rw [if_neg h0]
    by_cases h1 : q < 0
    · rw [if_pos h1]; simp [h1]
    · rw [if_neg h1]
      constructor
      · intro h; omega
      · intro h; grind
noncomputable def hiN (q : Rat) (K : Nat) : Nat := if moreP q K ∨ cmpN (sqN (flN q K) * sqN (flN q K)) (flN q K) < 0 then sqN (flN q K) + 1 else sqN (flN q K)
end Bk
namespace Bk
set_option linter.unusedVariables false
set_option linter.unusedSimpArgs false
open Go Go.RowKit
open Classical
abbrev Sp := Rat × Rat
noncomputable def ofS (a b : Rat) : Sp := (minQ a b, maxQ a b)
noncomputable def hullS (a b : Sp) : Sp := (minQ a.1 b.1, maxQ a.2 b.2)
def addS (a b : Sp) : Sp := (a.1 + b.1, a.2 + b.2)
def negS (a : Sp) : Sp := (-a.2, -a.1)
def subS (a b : Sp) : Sp := (a.1 - b.2, a.2 - b.1)
noncomputable def mulS (a b : Sp) : Sp := (mulLo a.1 a.2 b.1 b.2, mulHi a.1 a.2 b.1 b.2)
noncomputable def sqrS (a : Sp) : Sp := (sqrLo a.1 a.2, sqrHi a.1 a.2)
noncomputable def roundS (a : Sp) (n : Int) : Sp := (downQ a.1 n, upQ a.2 n)
noncomputable def quoS (a b : Sp) : Sp := (quoLo a.1 a.2 b.1 b.2, quoHi a.1 a.2 b.1 b.2)
noncomputable def meetS (a b : Sp) : Sp := (if minQ a.2 b.2 < maxQ a.1 b.1 then 0 else maxQ a.1 b.1, if minQ a.2 b.2 < maxQ a.1 b.1 then 0 else minQ a.2 b.2)
noncomputable def rootS (a : Sp) (n : Int) : Sp := (rtLo a.1 a.2 n, rtHi a.2 n)
noncomputable def withinQ (s : Sp) (n : Int) : Rat := s.1 + partQ n * (s.2 - s.1)
noncomputable def ratQ (n d : Int) : Rat := xR (modZ n 41 - 20) (modZ d 8 + 1)
noncomputable def det2S (a b c d : Sp) : Sp := subS (mulS a d) (mulS b c)
noncomputable def minorS (m : T3 (T3 Sp)) (i j : Nat) : Sp := det2S (m.y.at i) (m.y.at j) (m.z.at i) (m.z.at j)
noncomputable def det3S (m : T3 (T3 Sp)) : Sp := addS (subS (mulS m.x.x (minorS m 1 2)) (mulS m.x.y (minorS m 0 2))) (mulS m.x.z (minorS m 0 1))
def okM (m : T3 (T3 Sp)) : Prop := ∀ i j, ((m.at i).at j).1 ≤ ((m.at i).at j).2
noncomputable def det2L (m : List (List Sp)) : Sp := det2S ((m.getD 0 (List.replicate 2 ((0 : Rat), (0 : Rat)))).getD 0 ((0 : Rat), (0 : Rat))) ((m.getD 0 (List.replicate 2 ((0 : Rat), (0 : Rat)))).getD 1 ((0 : Rat), (0 : Rat))) ((m.getD 1 (List.replicate 2 ((0 : Rat), (0 : Rat)))).getD 0 ((0 : Rat), (0 : Rat))) ((m.getD 1 (List.replicate 2 ((0 : Rat), (0 : Rat)))).getD 1 ((0 : Rat), (0 : Rat)))
def detR (n : T3 (T3 Rat)) : Rat := n.x.x * n.y.y * n.z.z - n.x.x * n.y.z * n.z.y + (n.x.y * n.y.z * n.z.x - n.x.y * n.y.x * n.z.z) + (n.x.z * n.y.x * n.z.y - n.x.z * n.y.y * n.z.x)
end Bk
namespace Go.Proofs.YtghhjjmjpeehdaaGreat
open Bk Go Tryz
set_option linter.unusedVariables false
set_option linter.unusedSimpArgs false
set_option maxRecDepth 10000
end Go.Proofs.YtghhjjmjpeehdaaGreat
namespace Bk
set_option linter.unusedVariables false
set_option linter.unusedSimpArgs false
open Go Go.RowKit
open Classical
abbrev Pt := T3 Rat
abbrev P2 := Rat × Rat
def pr (p : Pt) (i j : Nat) : P2 := (p.at i, p.at j)
def cr (u v w : P2) : Rat := (v.1 - u.1) * (w.2 - u.2) - (v.2 - u.2) * (w.1 - u.1)
noncomputable def orZ (u v w : P2) : Int := sgnQ (cr u v w)
def betwP (a b x : Rat) : Prop := (a ≤ x ∧ x ≤ b) ∨ (x ≤ a ∧ b ≤ x)
def onS (u v p : P2) : Prop := betwP u.1 v.1 p.1 ∧ betwP u.2 v.2 p.2 ∧ cr u v p = 0
def apartP (a b c d : Rat) : Prop := (a < c ∧ a < d ∧ b < c ∧ b < d) ∨ (c < a ∧ d < a ∧ c < b ∧ d < b)
def lx (u v : P2) : Prop := u.1 < v.1 ∨ (u.1 = v.1 ∧ u.2 < v.2)
noncomputable def lo2 (u v : P2) : P2 := if lx v u then v else u
noncomputable def hi2 (u v : P2) : P2 := if lx v u then u else v
noncomputable def alongS (a b c d : P2) : Int :=
  if lx (if lx d b then d else b) (if lx a c then c else a) then 0 else if lx (if lx a c then c else a) (if lx d b then d else b) then 3
  else if ((if lx a c then c else a) = a ∨ (if lx a c then c else a) = b) ∧ ((if lx a c then c else a) = c ∨ (if lx a c then c else a) = d) then 1 else 2
noncomputable def along2 (a b c d : P2) : Int := alongS (lo2 a b) (hi2 a b) (lo2 c d) (hi2 c d)
noncomputable def touch2 (a b c d : P2) : Int :=
  if apartP a.1 b.1 c.1 d.1 ∨ apartP a.2 b.2 c.2 d.2 then 0
  else if orZ a b c = 0 ∧ orZ a b d = 0 ∧ orZ c d a = 0 ∧ orZ c d b = 0 then along2 a b c d
  else if 0 < orZ a b c * orZ a b d ∨ 0 < orZ c d a * orZ c d b then 0
  else if (orZ a b c = 0 ∨ orZ a b d = 0) ∧ (orZ c d a = 0 ∨ orZ c d b = 0) then 1 else 2
noncomputable def lineR (a b c d : P2) : Int :=
  if lx (if lx d b then d else b) (if lx a c then c else a) then 0 else if (if lx a c then c else a) ≠ (if lx d b then d else b) then 3
  else if ((if lx a c then c else a) = a ∨ (if lx a c then c else a) = b) ∧ ((if lx a c then c else a) = c ∨ (if lx a c then c else a) = d) ∧ onS a b (if lx a c then c else a) ∧ onS c d (if lx a c then c else a) then 1
  else if onS a b (if lx a c then c else a) ∧ onS c d (if lx a c then c else a) then 2 else 0
noncomputable def singleR (a b c d : P2) : Int := if (a = b ∧ onS c d a) ∨ (c = d ∧ onS a b c) then 2 else 0
noncomputable def touchS (a b c d : P2) : Int :=
  if orZ a b c = 0 ∧ orZ a b d = 0 ∧ orZ c d a = 0 ∧ orZ c d b = 0 then lineR a b c d
  else if a = b ∨ c = d then singleR a b c d
  else if 0 < orZ a b c * orZ a b d ∨ 0 < orZ c d a * orZ c d b then 0
  else if a = c ∨ a = d ∨ b = c ∨ b = d then 1 else 2
noncomputable def touchR (a b c d : P2) : Int := touchS (lo2 a b) (hi2 a b) (lo2 c d) (hi2 c d)
def cr2 (ax ay bx by' cx cy : Rat) : Rat := (bx - ax) * (cy - ay) - (by' - ay) * (cx - ax)
def lex (ax ay bx by' : Rat) : Prop := ax < bx ∨ (ax = bx ∧ ay < by')
theorem cr_self (a c : P2) : cr a a c = 0 := by unfold cr; grind
theorem cr_end' (a c : P2) : cr a c a = 0 := by unfold cr; grind
end Bk
namespace Bk
set_option linter.unusedVariables false
set_option linter.unusedSimpArgs false
open Go Go.RowKit
open Classical
def smZ (q : Rat) : Int := if q.den ≠ 1 ∨ 1 < (zG q.num.natAbs).length then 0 else q.num
def smB (q : Rat) : Prop := q.den = 1 ∧ q.num.natAbs < 268435456
theorem len_le_one {n : Nat} (h : n < 4294967296) : (zG n).length ≤ 1 := limbs_len_of_lt (by rw [Nat.pow_one]; exact h)
theorem smB_len {q : Rat} (h : smB q) : (zG q.num.natAbs).length ≤ 1 := len_le_one (by have := h.2; omega)
theorem sm_eq {q : Rat} (h : smB q) : q = ((smZ q : Int) : Rat) ∧ -268435456 < smZ q ∧ smZ q < 268435456 := by
  have h1 := smB_len h
  have e : smZ q = q.num := by unfold smZ; rw [if_neg]; rintro (e | e); exact e h.1; omega
  have h2 := h.2
  refine ⟨?_, by rw [e]; omega, by rw [e]; omega⟩
  rw [e]
  have h3 := Rat.divInt_eq_div q.num q.den
  rw [Rat.num_divInt_den, h.1] at h3
  rw [h3]
  have e1 : ((1 : Nat) : Int) = 1 := rfl
  have : ((q.num : Rat) / ((((1 : Nat) : Int)) : Rat)) = (q.num : Rat) := by rw [e1]; have e2 : ((1 : Int) : Rat) = 1 := rfl; rw [e2]; grind
  rw [this]
  rw [h3] at *
  simp
theorem sm_e1 {q : Rat} (h : (0 : Int) < ↑(zG (denN q.den)).length ∨ (1 : Int) < ↑(zG q.num.natAbs).length) : smZ q = 0 ∧ ¬ smB q := by
  have h1 : q.den ≠ 1 ∨ 1 < (zG q.num.natAbs).length := by
    rcases h with h | h
    · left; intro e; rw [e, denN_one, limbs_zero] at h; simp at h
    · right; omega
  refine ⟨if_pos h1, fun hb => ?_⟩
  rcases h1 with e | e
  · exact e hb.1
  · have := smB_len hb; omega
theorem sm_den {q : Rat} (h : ¬ ((0 : Int) < ↑(zG (denN q.den)).length ∨ (1 : Int) < ↑(zG q.num.natAbs).length)) : q.den = 1 ∧ (zG q.num.natAbs).length ≤ 1 := by
  refine ⟨(denL_nil_iff q.den_nz).1 ?_, by omega⟩
  have : (zG (denN q.den)).length = 0 := by omega
  exact List.eq_nil_of_length_eq_zero this
theorem sm_num {q : Rat} (h : ¬ ((0 : Int) < ↑(zG (denN q.den)).length ∨ (1 : Int) < ↑(zG q.num.natAbs).length)) : smZ q = q.num := by
  obtain ⟨h1, h2⟩ := sm_den h
  unfold smZ
  rw [if_neg]
  rintro (e | e)
  · exact e h1
  · omega
theorem sm_e2 {q : Rat} (h : ¬ ((0 : Int) < ↑(zG (denN q.den)).length ∨ (1 : Int) < ↑(zG q.num.natAbs).length)) (h0 : (↑(zG q.num.natAbs).length : Int) = 0) : smZ q = 0 ∧ smB q := by
  obtain ⟨h1, h2⟩ := sm_den h
  have hn : q.num.natAbs = 0 := by
    refine Classical.byContradiction fun e => ?_
    have := limbs_len_pos.2 e
    omega
  refine ⟨by rw [sm_num h]; omega, h1, by omega⟩
theorem sm_limb {q : Rat} (h : ¬ ((0 : Int) < ↑(zG (denN q.den)).length ∨ (1 : Int) < ↑(zG q.num.natAbs).length)) (h0 : ¬ (↑(zG q.num.natAbs).length : Int) = 0) : (zG q.num.natAbs).getD 0 0 = q.num.natAbs ∧ q.num.natAbs < 4294967296 ∧ (smB q ↔ q.num.natAbs < 268435456) := by
  obtain ⟨h1, h2⟩ := sm_den h
  have h3 := val_one (xs := zG q.num.natAbs) (by omega)
  rw [zV] at h3
  have h4 := limbs_lt_pow q.num.natAbs
  have h5 : (zG q.num.natAbs).length = 1 := by omega
  rw [h5, Nat.pow_one] at h4
  exact ⟨h3.symm, h4, fun e => e.2, fun e => ⟨h1, e⟩⟩
theorem tup_small {x y : Int} {p q : Prop} (h1 : x = y) (h2 : p ↔ q) : Value.tuple #[vI x, vB p] = .tuple #[vI y, vB q] := by subst h1; rw [vB_iff h2]
def sgnZ (n : Int) : Int := if 0 < n then 1 else if n < 0 then -1 else 0
theorem sgn_cast (n : Int) : sgnQ (n : Rat) = sgnZ n := by
  rw [sgnQ_lt]
  unfold sgnZ
  have h0 : ((n : Rat) = 0) ↔ n = 0 := by
    have e : (0 : Rat) = ((0 : Int) : Rat) := rfl
    rw [e, Rat.intCast_inj]
  have h1 : ((n : Rat) < 0) ↔ n < 0 := by
    have e : (0 : Rat) = ((0 : Int) : Rat) := rfl
    rw [e, Rat.intCast_lt_intCast]
  simp only [h0, h1]
  split
  · rename_i h; subst h; simp
  · split
    · rw [if_neg (by omega)]
    · rw [if_pos (by omega)]
noncomputable def loT (a b : Pt) (i j : Nat) : Pt := if lx (pr b i j) (pr a i j) then b else a
noncomputable def hiT (a b : Pt) (i j : Nat) : Pt := if lx (pr b i j) (pr a i j) then a else b
noncomputable def mxT (a c : Pt) (i j : Nat) : Pt := if lx (pr a i j) (pr c i j) then c else a
noncomputable def mnT (b d : Pt) (i j : Nat) : Pt := if lx (pr d i j) (pr b i j) then d else b
end Bk
namespace Bk
set_option linter.unusedVariables false
set_option linter.unusedSimpArgs false
open Go Go.RowKit
open Classical
def gp (l : List Pt) (m : Nat) : Pt := l.getD m (T3.mk (0 : Rat) 0 0)
def areaTo (l : List Pt) (i j : Nat) : Nat → Rat
  | 0 => 0
  | m + 1 => areaTo l i j m + ((gp l m).at i * (gp l ((m + 1) % l.length)).at j - (gp l ((m + 1) % l.length)).at i * (gp l m).at j)
def crossP (a b p : P2) : Prop := ¬ (a.2 ≤ p.2 ↔ b.2 ≤ p.2) ∧ ((a.2 ≤ p.2 ∧ 0 < orZ a b p) ∨ (b.2 ≤ p.2 ∧ orZ a b p < 0))
def edgeA (l : List Pt) (i j m : Nat) : P2 := pr (gp l m) i j
def edgeB (l : List Pt) (i j m : Nat) : P2 := pr (gp l ((m + 1) % l.length)) i j
def oddTo (l : List Pt) (p : P2) (i j : Nat) : Nat → Prop
  | 0 => False
  | m + 1 => (crossP (edgeA l i j m) (edgeB l i j m) p ∧ ¬ oddTo l p i j m) ∨ (¬ crossP (edgeA l i j m) (edgeB l i j m) p ∧ oddTo l p i j m)
noncomputable def insZ (l : List Pt) (p : P2) (i j : Nat) : Int :=
  if ∃ m, m < l.length ∧ onS (edgeA l i j m) (edgeB l i j m) p then 0 else if oddTo l p i j l.length then 1 else -1
noncomputable def lineT (a b c d lo hi : Pt) : Int :=
  if lx (pr hi 0 1) (pr lo 0 1) then 0 else if ¬ pr lo 0 1 = pr hi 0 1 then 3
  else if (((pr lo 0 1 = pr a 0 1 ∨ pr lo 0 1 = pr b 0 1) ∧ (pr lo 0 1 = pr c 0 1 ∨ pr lo 0 1 = pr d 0 1)) ∧ onS (pr a 0 1) (pr b 0 1) (pr lo 0 1)) ∧ onS (pr c 0 1) (pr d 0 1) (pr lo 0 1) then 1
  else if onS (pr a 0 1) (pr b 0 1) (pr lo 0 1) ∧ onS (pr c 0 1) (pr d 0 1) (pr lo 0 1) then 2 else 0
noncomputable def touchT (a b c d : Pt) : Int :=
  if ((orZ (pr a 0 1) (pr b 0 1) (pr c 0 1) = 0 ∧ orZ (pr a 0 1) (pr b 0 1) (pr d 0 1) = 0) ∧ orZ (pr c 0 1) (pr d 0 1) (pr a 0 1) = 0) ∧ orZ (pr c 0 1) (pr d 0 1) (pr b 0 1) = 0 then lineR (pr a 0 1) (pr b 0 1) (pr c 0 1) (pr d 0 1)
  else if pr a 0 1 = pr b 0 1 ∨ pr c 0 1 = pr d 0 1 then singleR (pr a 0 1) (pr b 0 1) (pr c 0 1) (pr d 0 1)
  else if 0 < orZ (pr a 0 1) (pr b 0 1) (pr c 0 1) * orZ (pr a 0 1) (pr b 0 1) (pr d 0 1) ∨ 0 < orZ (pr c 0 1) (pr d 0 1) (pr a 0 1) * orZ (pr c 0 1) (pr d 0 1) (pr b 0 1) then 0
  else if ((pr a 0 1 = pr c 0 1 ∨ pr a 0 1 = pr d 0 1) ∨ pr b 0 1 = pr c 0 1) ∨ pr b 0 1 = pr d 0 1 then 1 else 2
end Bk
namespace Go.Proofs.YtghhjjmjpeehdaaGreat
open Bk Go Tryz
set_option linter.unusedVariables false
set_option linter.unusedSimpArgs false
set_option maxRecDepth 10000
theorem pl_small {w0 : World} {h0 : Mem}  (hs : MLe h0 (mem w0)) {qa : Rat} {vna vda : Value} (hna : Us .u32 h0 vna (zG qa.num.natAbs)) (hda : Us .u32 h0 vda (zG (denN qa.den))) :
    Calls Tryz.prog 98 #[.agg #[vB (qa.num < 0), vna, vda]] w0 (Ret w0 h0 (fun _ r => r = .tuple #[vI (smZ qa), vB (smB qa)])) := by
 refine zO (n := 33) (e := [(0, .agg #[vB (qa.num < 0), vna, vda])]) (vs := [.agg #[vB (qa.num < 0), vna, vda]]) func98 rfl rfl (bL rfl) hs ⟨rfl, trivial⟩ (zC (zA (zJ (new_box (cs := [_, _, _]) rfl rfl) rfl rfl rfl ?_)))
 intro v1 r1 hr1
 obtain ⟨b1, rfl, rfl⟩ := hr1
 refine asg (v := vI (0)) rfl rfl (asg rfl rfl (zD (zB (zC (zC (zA (gv (zI underlying30 rfl sizeOf28 rfl) rfl (gv (zU (.head _) isAgg28 rfl rfl) rfl (gv (yC underlying28 rfl hda) rfl (gv (ov_gtr_i (q := 0) rfl rfl) rfl ?_))))))))))
 refine gl_cut (ι := Unit) 6 (fun _ => True) (fun _ => [(14, vB (((0 : Int) < (↑(zG (denN qa.den)).length : Int)) ∨ ((1 : Int) < (↑(zG qa.num.natAbs).length : Int)))), (1, vP b1 0)]) (fun _ => [.var b1 30 [vB (qa.num < 0), vna, vda]]) (fun _ => h0) ?_ ?_
 ·
  refine gl_cases ((0 : Int) < (↑(zG (denN qa.den)).length : Int)) (fun hg => ?_) (fun hg => ?_)
  ·
   refine gl_val (zH (v := .bool true) (congrArg some (vB_true hg))) rfl rfl rfl (yM rfl rfl rfl rfl rfl rfl (yM rfl rfl rfl rfl rfl rfl (yM rfl rfl rfl rfl rfl rfl (yM rfl rfl rfl rfl rfl rfl (gv (xU rfl rfl) rfl (zD ?_))))))
   refine yR () trivial ⟨?_, rfl, trivial⟩ rfl rfl
   exact congrArg some (vB_or_t hg)
  refine gl_val (zH (v := .bool false) (congrArg some (xD hg))) rfl rfl rfl (yX rfl rfl rfl (gv (zI underlying30 rfl sizeOf28 rfl) rfl (yX rfl rfl rfl (gv (zU (.head _) isAgg28 rfl rfl) rfl (yX rfl rfl rfl (gv (yC underlying28 rfl hna) rfl (yX rfl rfl rfl (gv (ov_gtr_i (q := 1) rfl rfl) rfl (gv (ov_pick_f rfl rfl) rfl (zD ?_))))))))))
  refine yR () trivial ⟨?_, rfl, trivial⟩ rfl rfl
  exact congrArg some (vB_or_f hg)
 intro _ _
 show GL _ _ _ _ _ _ _ [(14, vB (((0 : Int) < (↑(zG (denN qa.den)).length : Int)) ∨ ((1 : Int) < (↑(zG qa.num.natAbs).length : Int)))), (1, vP b1 0)] [.var b1 30 [vB (qa.num < 0), vna, vda]] h0
 refine zD (zB ?_)
 refine zP rfl (fun hc14 => ?_) (fun hc14 => ?_)
 ·
  refine zC (zA (asg (v := vI (0)) rfl rfl (asg rfl rfl (zD (zB (zR (yA (gq_body2 rfl rfl rfl ?_))))))))
  obtain ⟨e1, e2⟩ := sm_e1 hc14
  rw [e1, xD e2]
 refine zL (zB (zC (zC (zA (gv (zI underlying30 rfl sizeOf28 rfl) rfl (gv (zU (.head _) isAgg28 rfl rfl) rfl (gv (yC underlying28 rfl hna) rfl (gv (ov_eql_i (q := 0) rfl rfl) rfl (zD (zB ?_))))))))))
 refine zP rfl (fun hc18 => ?_) (fun hc18 => ?_)
 ·
  refine zC (zA (asg (v := vI (0)) rfl rfl (asg rfl rfl (zD (zB (zR (yA (gq_body2 rfl rfl rfl ?_))))))))
  obtain ⟨e1, e2⟩ := sm_e2 hc14 hc18
  rw [e1, vB_true e2]
 obtain ⟨hs1, hs2, hs3⟩ := sm_limb hc14 hc18
 have hs4 := sm_num hc14
 refine zL (zB (zC (zA (gv (zI underlying30 rfl sizeOf28 rfl) rfl (gv (zU (.head _) isAgg28 rfl rfl) rfl (gv (yP (q := 0) (0) underlying28 sizeOf124 rfl rfl hna rfl (by omega)) rfl (gv (yS isAgg124 rfl hna (by omega)) rfl ?_)))))))
 rw [hs1]
 refine gv (ov_conv_ui (k := .u32) underlying124 underlying2 rfl (by omega)) rfl (asg rfl rfl (zD (zK (e' := [(1, _), (4, _)]) e2z (zB (zC (zC (zA (gv (zI underlying30 rfl sizeOf4 rfl) rfl (gv (zU (.head _) isAgg4 rfl rfl) rfl (zD (zB ?_)))))))))))
 refine zP rfl (fun hc25 => ?_) (fun hc25 => ?_)
 ·
  have hneg := hc25
  refine zC (zA (mv rfl rfl (gv (ov_neg_i rfl (by omega) (by omega)) rfl (mv rfl rfl (gv (zW (q := 268435456) rfl rfl) rfl (asg rfl rfl (asg rfl rfl (zD (zB (zR (yA (gq_body2 rfl rfl rfl ?_))))))))))))
  exact tup_small (by omega) (Iff.trans (by omega) hs3.symm)
 have hneg := hc25
 refine zL (zB (zC (zA (mv rfl rfl (mv rfl rfl (gv (zW (q := 268435456) rfl rfl) rfl (asg rfl rfl (asg rfl rfl (zD (zB (zR (gq_body2 rfl rfl rfl ?_))))))))))))
 exact tup_small (by omega) (Iff.trans (by omega) hs3.symm)
theorem o_pl_small {w0 : World} {h0 : Mem} (hs : MLe h0 (mem w0)) {k : Nat} {va : Value} {a : Rat} (ra : (rpQ k).Is h0 va a) : Calls Tryz.prog 98 #[va] w0 (Ret w0 h0 (fun _ r => r = .tuple #[vI (smZ a), vB (smB a)])) := by
  obtain ⟨vna, vda, rfl, hna, hda, hla⟩ := open_q ra
  exact pl_small hs hna hda
theorem o_pl_sign {w0 : World} {h0 : Mem}  (hs : MLe h0 (mem w0)) {n : Int} (hn1 : -9223372036854775808 ≤ n) (hn2 : n < 9223372036854775808)  :
    Calls Tryz.prog 100 #[vI n] w0 (Ret w0 h0 (fun _ r => r = vI (sgnZ n))) := by
 refine zO (n := 9) (e := [(0, vI n)]) (vs := [vI n]) func100 rfl rfl (bL rfl) hs ⟨rfl, trivial⟩ (zC (zA (asg (v := vI (0)) rfl rfl (zD (zB (zC (zQ (zC (zA (mv rfl rfl (gv (ov_gtr_i (q := 0) rfl rfl) rfl (asg rfl rfl (zD ?_)))))))))))))
 refine zB ?_
 refine zP rfl (fun hc3 => ?_) (fun hc3 => ?_)
 ·
  refine zC (zA (asg (v := vI (1)) rfl rfl (zD (zB (zR (gr_in (yA (yJ rfl rfl ?_))))))))
  unfold sgnZ; rw [if_pos hc3]
 refine zC (zA (mv rfl rfl (gv (zW (q := 0) rfl rfl) rfl (asg rfl rfl (zD (zB ?_))))))
 refine zP rfl (fun hc6 => ?_) (fun hc6 => ?_)
 ·
  refine zC (zA (asg (v := vI (-1)) rfl rfl (zD (zB (zR (gr_in (yA (yJ rfl rfl ?_))))))))
  unfold sgnZ; rw [if_neg hc3, if_pos hc6]
 refine zL (yY (zB (zC (zA (asg (v := vI (0)) rfl rfl (zD (zB (zR (yJ rfl rfl ?_)))))))))
 unfold sgnZ; rw [if_neg hc3, if_neg hc6]
end Go.Proofs.YtghhjjmjpeehdaaGreat
namespace Go.Proofs.YtghhjjmjpeehdaaGreat
open Bk Go Tryz
set_option linter.unusedVariables false
set_option linter.unusedSimpArgs false
set_option maxRecDepth 10000
theorem o_r4_add {w0 : World} {h0 : Mem}  (hs : MLe h0 (mem w0)) {k l : Nat} {va : Value} {a : (T3 Rat)} (ra : (rpT (rpQ k)).Is h0 va a) {vb : Value} {b : (T3 Rat)} (rb : (rpT (rpQ l)).Is h0 vb b) (hcd0 : k + l ≤ 1000000000)  :
    Calls Tryz.prog 19 #[va, vb] w0 (Ret w0 h0 (fun h r => (rpT (rpQ (k + 3 * l + 3))).Is h r (T3.mk (a.x + b.x) (a.y + b.y) (a.z + b.z)))) := by
 refine zO (n := 20) (e := [(0, va), (1, vb)]) (vs := [va, vb]) func19 rfl rfl (bL rfl) hs e2z (zC (zA (zJ (yU (ρ := (rpT (rpQ k))) rfl ra) rfl rfl rfl ?_)))
 intro v2 q2 hq2
 obtain ⟨b2, cs2, rfl, rfl, rb2⟩ := hq2
 refine zJ (yU (ρ := (rpT (rpQ l))) rfl rb) rfl rfl rfl ?_
 intro v3 q3 hq3
 obtain ⟨b3, cs3, rfl, rfl, rb3⟩ := hq3
 refine zJ (yQ (ρ := (rpT (rpQ (k + 3 * l + 3)))) (X := (T3.mk (0 : Rat) 0 0)) yI rfl rfl (zr_t (xS (by omega)))) rfl rfl rfl ?_
 intro v4 q4 hq4
 obtain ⟨b4, cs4, rfl, rfl, rb4⟩ := hq4
 refine zD (zB (zC (zC (zA (asg (v := vI (0)) rfl rfl (zD (zB (zQ (gc_loop1 (zC (zC (zA (mv rfl rfl ?_)))))))))))))
 refine gv (OpV.tr (by decide) (zW (q := 3) rfl rfl)) rfl (zD (zB (xC rfl (zL (zB (zC (zQ ?_)))))))
 refine yG 9 _ [] [(0, .q), (1, .q), (2, .q), (3, .q), (4, .q), (5, .q), (6, .q), (7, .c), (8, .q), (9, .t)] xG nX (by kernel_rfl) nX (fun r hr => hr) (w_q rfl (fun h' L' hh hR => zH rfl) rfl (w_q rfl (fun h' L' hh hR => zH rfl) rfl (w_q rfl (fun h' L' hh hR => (zF (sz := 3) 0 underlying32 sizeOf30 rfl rfl rfl (by decide)).cv (show _ = vP b2 0 from congrArg (vP b2) (by rfl))) rfl (yO (F := fun v_ => (rpQ k).Is h0 v_ a.x) rfl (zE xA (Pc.tx (Pc.here _)) rfl rfl rb2 rfl) (yD (.tail _ (.tail _ (.head _)))) rfl ?_))))
 intro v13u1 r13u1
 refine w_q rfl (fun h' L' hh hR => zH rfl) rfl (w_q rfl (fun h' L' hh hR => (zF (sz := 3) 0 underlying32 sizeOf30 rfl rfl rfl (by decide)).cv (show _ = vP b3 0 from congrArg (vP b3) (by rfl))) rfl (yO (F := fun v_ => (rpQ l).Is h0 v_ b.x) rfl (zE xA (Pc.tx (Pc.here _)) rfl rfl rb3 rfl) (yD (.tail _ (.head _))) rfl ?_))
 intro v16u1 r16u1
 refine w_c rfl ?_
 refine zY (vs := [_, _]) call53 e2z (fun w hs => o_rref_add hs r13u1 r16u1 (by omega)) rfl ?_
 intro v17u1 h1 hh1 r17u1
 change (rpQ (k + l + 1)).Is h1 v17u1 (a.x + b.x) at r17u1
 refine w_q rfl (fun h' L' hh hR => (zF (sz := 3) 0 underlying32 sizeOf30 rfl rfl rfl (by decide)).cv (show _ = vP b2 0 from congrArg (vP b2) (by rfl))) rfl ?_
 replace rb2 := rb2.mono hh1
 have rw_1 := (Le.t (Le.q (l := k + l + 1) (by omega))).R rb2
 refine yV (A := [_, _]) (F := fun c_ => (rpT (rpQ (k + l + 1))).R h1 c_ (T3.mk (a.x + b.x) a.y a.z)) rfl (zX sizeOf30 (Pc.tx (Pc.here _)) rfl rfl rfl rw_1 r17u1 rfl) ?_
 intro cs_2 rb_3
 refine yZ (yY (zK (e' := [(2, _), (3, _), (4, _), (5, _)]) e4z (zB (zA (mv rfl rfl (gv ((zS (q := 1) rfl rfl (by omega) (by omega)).cv (show _ = vI (1) from rfl)) rfl (asg rfl rfl (zD (xI (zC (zC (zA (mv rfl rfl ?_)))))))))))))
 refine gv (OpV.tr (by decide) (zW (q := 3) rfl rfl)) rfl (zD (zB (xC rfl (zL (zB (zC (zQ ?_)))))))
 refine yG 9 _ [] [(0, .q), (1, .q), (2, .q), (3, .q), (4, .q), (5, .q), (6, .q), (7, .c), (8, .q), (9, .t)] xG nX (by kernel_rfl) nX (fun r hr => hr) (w_q rfl (fun h' L' hh hR => zH rfl) rfl (w_q rfl (fun h' L' hh hR => zH rfl) rfl (w_q rfl (fun h' L' hh hR => (zF (sz := 3) 1 underlying32 sizeOf30 rfl rfl rfl (by decide)).cv (show _ = vP b2 3 from congrArg (vP b2) (by rfl))) rfl (yO (F := fun v_ => (rpQ (k + l + 1)).Is h1 v_ a.y) rfl (zE xA (Pc.ty (Pc.here _)) rfl rfl rb_3 rfl) (yD (.tail _ (.tail _ (.head _)))) rfl ?_))))
 intro v13u2 r13u2
 refine w_q rfl (fun h' L' hh hR => zH rfl) rfl (w_q rfl (fun h' L' hh hR => (zF (sz := 3) 1 underlying32 sizeOf30 rfl rfl rfl (by decide)).cv (show _ = vP b3 3 from congrArg (vP b3) (by rfl))) rfl ?_)
 replace rb3 := rb3.mono hh1
 refine yO (F := fun v_ => (rpQ l).Is h1 v_ b.y) rfl (zE xA (Pc.ty (Pc.here _)) rfl rfl rb3 rfl) (yD (.tail _ (.head _))) rfl ?_
 intro v16u2 r16u2
 refine w_c rfl ?_
 refine zY (vs := [_, _]) call53 e2z (fun w hs => o_rref_add hs r13u2 r16u2 (by omega)) rfl ?_
 intro v17u2 h2 hh2 r17u2
 change (rpQ ((k + l + 1) + l + 1)).Is h2 v17u2 (a.y + b.y) at r17u2
 replace r17u2 := Rp.Is.le r17u2 (Le.q (l := k + 2 * l + 2) (by omega))
 refine w_q rfl (fun h' L' hh hR => (zF (sz := 3) 1 underlying32 sizeOf30 rfl rfl rfl (by decide)).cv (show _ = vP b2 3 from congrArg (vP b2) (by rfl))) rfl ?_
 replace rb_3 := rb_3.mono hh2
 have rw_4 := (Le.t (Le.q (l := k + 2 * l + 2) (by omega))).R rb_3
 refine yV (A := [_, _]) (F := fun c_ => (rpT (rpQ (k + 2 * l + 2))).R h2 c_ (T3.mk (a.x + b.x) (a.y + b.y) a.z)) rfl (zX sizeOf30 (Pc.ty (Pc.here _)) rfl rfl rfl rw_4 r17u2 rfl) ?_
 intro cs_5 rb_6
 refine yZ (yY (zK (e' := [(2, _), (3, _), (4, _), (5, _)]) e4z (zB (zA (mv rfl rfl (gv ((zS (q := 1) rfl rfl (by omega) (by omega)).cv (show _ = vI (2) from rfl)) rfl (asg rfl rfl (zD (xI (zC (zC (zA (mv rfl rfl ?_)))))))))))))
 refine gv (OpV.tr (by decide) (zW (q := 3) rfl rfl)) rfl (zD (zB (xC rfl (zL (zB (zC (zQ ?_)))))))
 refine yG 9 _ [] [(0, .q), (1, .q), (2, .q), (3, .q), (4, .q), (5, .q), (6, .q), (7, .c), (8, .q), (9, .t)] xG nX (by kernel_rfl) nX (fun r hr => hr) (w_q rfl (fun h' L' hh hR => zH rfl) rfl (w_q rfl (fun h' L' hh hR => zH rfl) rfl (w_q rfl (fun h' L' hh hR => (zF (sz := 3) 2 underlying32 sizeOf30 rfl rfl rfl (by decide)).cv (show _ = vP b2 6 from congrArg (vP b2) (by rfl))) rfl (yO (F := fun v_ => (rpQ (k + 2 * l + 2)).Is h2 v_ a.z) rfl (zE xA (Pc.tz (Pc.here _)) rfl rfl rb_6 rfl) (yD (.tail _ (.tail _ (.head _)))) rfl ?_))))
 intro v13u3 r13u3
 refine w_q rfl (fun h' L' hh hR => zH rfl) rfl (w_q rfl (fun h' L' hh hR => (zF (sz := 3) 2 underlying32 sizeOf30 rfl rfl rfl (by decide)).cv (show _ = vP b3 6 from congrArg (vP b3) (by rfl))) rfl ?_)
 replace rb3 := rb3.mono hh2
 refine yO (F := fun v_ => (rpQ l).Is h2 v_ b.z) rfl (zE xA (Pc.tz (Pc.here _)) rfl rfl rb3 rfl) (yD (.tail _ (.head _))) rfl ?_
 intro v16u3 r16u3
 refine w_c rfl ?_
 refine zY (vs := [_, _]) call53 e2z (fun w hs => o_rref_add hs r13u3 r16u3 (by omega)) rfl ?_
 intro v17u3 h3 hh3 r17u3
 change (rpQ ((k + 2 * l + 2) + l + 1)).Is h3 v17u3 (a.z + b.z) at r17u3
 replace r17u3 := Rp.Is.le r17u3 (Le.q (l := k + 3 * l + 3) (by omega))
 refine w_q rfl (fun h' L' hh hR => (zF (sz := 3) 2 underlying32 sizeOf30 rfl rfl rfl (by decide)).cv (show _ = vP b2 6 from congrArg (vP b2) (by rfl))) rfl ?_
 replace rb_6 := rb_6.mono hh3
 have rw_7 := (Le.t (Le.q (l := k + 3 * l + 3) (by omega))).R rb_6
 refine yV (A := [_, _]) (F := fun c_ => (rpT (rpQ (k + 3 * l + 3))).R h3 c_ (T3.mk (a.x + b.x) (a.y + b.y) (a.z + b.z))) rfl (zX sizeOf30 (Pc.tz (Pc.here _)) rfl rfl rfl rw_7 r17u3 rfl) ?_
 intro cs_8 rb_9
 refine yZ (yY (zK (e' := [(2, _), (3, _), (4, _), (5, _)]) e4z (zB (zA (mv rfl rfl (gv ((zS (q := 1) rfl rfl (by omega) (by omega)).cv (show _ = vI (3) from rfl)) rfl (asg rfl rfl (zD (xI (zC (zC (zA (mv rfl rfl ?_)))))))))))))
 refine gv (OpV.fa (by decide) (zW (q := 3) rfl rfl)) rfl (zD (zB (gc_cond_f rfl (xK (yE (yE (xJ (zB (zC (zA (xQ (F := fun v_ => (rpT (rpQ (k + 3 * l + 3))).Is h3 v_ (T3.mk (a.x + b.x) (a.y + b.y) (a.z + b.z))) (zE xF (Pc.here _) rfl rfl rb_9 rfl) (yD (.tail _ (.tail _ (.head _)))) rfl ?_)))))))))))
 intro v19u4 r19u4
 replace rb4 := rb4.mono ((hh1.trans hh2).trans hh3)
 refine xO (A := []) (F := fun c_ => (rpT (rpQ (k + 3 * l + 3))).R h3 c_ (T3.mk (a.x + b.x) (a.y + b.y) (a.z + b.z))) (zX sizeOf32 (Pc.here _) rfl rfl rfl rb4 r19u4 rfl) ?_
 intro cs_10 rb_11
 refine zD (zB (zR (gq_exv (rv_o (t := 4) xF (.head _) rfl rb_11) ?_)))
 intro w_12 hvw_12 rr_13
 refine xM (fun E S => yL rfl hvw_12 E S) ?_
 exact rr_13
theorem o_r4_sub {w0 : World} {h0 : Mem}  (hs : MLe h0 (mem w0)) {k l : Nat} {va : Value} {a : (T3 Rat)} (ra : (rpT (rpQ k)).Is h0 va a) {vb : Value} {b : (T3 Rat)} (rb : (rpT (rpQ l)).Is h0 vb b) (hcd0 : k + l ≤ 1000000000)  :
    Calls Tryz.prog 23 #[va, vb] w0 (Ret w0 h0 (fun h r => (rpT (rpQ (k + 3 * l + 3))).Is h r (T3.mk (a.x - b.x) (a.y - b.y) (a.z - b.z)))) := by
 refine zO (n := 20) (e := [(0, va), (1, vb)]) (vs := [va, vb]) func23 rfl rfl (bL rfl) hs e2z (zC (zA (zJ (yU (ρ := (rpT (rpQ k))) rfl ra) rfl rfl rfl ?_)))
 intro v2 q2 hq2
 obtain ⟨b2, cs2, rfl, rfl, rb2⟩ := hq2
 refine zJ (yU (ρ := (rpT (rpQ l))) rfl rb) rfl rfl rfl ?_
 intro v3 q3 hq3
 obtain ⟨b3, cs3, rfl, rfl, rb3⟩ := hq3
 refine zJ (yQ (ρ := (rpT (rpQ (k + 3 * l + 3)))) (X := (T3.mk (0 : Rat) 0 0)) yI rfl rfl (zr_t (xS (by omega)))) rfl rfl rfl ?_
 intro v4 q4 hq4
 obtain ⟨b4, cs4, rfl, rfl, rb4⟩ := hq4
 refine zD (zB (zC (zC (zA (asg (v := vI (0)) rfl rfl (zD (zB (zQ (gc_loop1 (zC (zC (zA (mv rfl rfl ?_)))))))))))))
 refine gv (OpV.tr (by decide) (zW (q := 3) rfl rfl)) rfl (zD (zB (xC rfl (zL (zB (zC (zQ ?_)))))))
 refine yG 9 _ [] [(0, .q), (1, .q), (2, .q), (3, .q), (4, .q), (5, .q), (6, .q), (7, .c), (8, .q), (9, .t)] xG nX (by kernel_rfl) nX (fun r hr => hr) (w_q rfl (fun h' L' hh hR => zH rfl) rfl (w_q rfl (fun h' L' hh hR => zH rfl) rfl (w_q rfl (fun h' L' hh hR => (zF (sz := 3) 0 underlying32 sizeOf30 rfl rfl rfl (by decide)).cv (show _ = vP b2 0 from congrArg (vP b2) (by rfl))) rfl (yO (F := fun v_ => (rpQ k).Is h0 v_ a.x) rfl (zE xA (Pc.tx (Pc.here _)) rfl rfl rb2 rfl) (yD (.tail _ (.tail _ (.head _)))) rfl ?_))))
 intro v13u5 r13u5
 refine w_q rfl (fun h' L' hh hR => zH rfl) rfl (w_q rfl (fun h' L' hh hR => (zF (sz := 3) 0 underlying32 sizeOf30 rfl rfl rfl (by decide)).cv (show _ = vP b3 0 from congrArg (vP b3) (by rfl))) rfl (yO (F := fun v_ => (rpQ l).Is h0 v_ b.x) rfl (zE xA (Pc.tx (Pc.here _)) rfl rfl rb3 rfl) (yD (.tail _ (.head _))) rfl ?_))
 intro v16u5 r16u5
 refine w_c rfl ?_
 refine zY (vs := [_, _]) call56 e2z (fun w hs => o_rref_sub hs r13u5 r16u5 (by omega)) rfl ?_
 intro v17u5 h1 hh1 r17u5
 change (rpQ (k + l + 1)).Is h1 v17u5 (a.x - b.x) at r17u5
 refine w_q rfl (fun h' L' hh hR => (zF (sz := 3) 0 underlying32 sizeOf30 rfl rfl rfl (by decide)).cv (show _ = vP b2 0 from congrArg (vP b2) (by rfl))) rfl ?_
 replace rb2 := rb2.mono hh1
 have rw_14 := (Le.t (Le.q (l := k + l + 1) (by omega))).R rb2
 refine yV (A := [_, _]) (F := fun c_ => (rpT (rpQ (k + l + 1))).R h1 c_ (T3.mk (a.x - b.x) a.y a.z)) rfl (zX sizeOf30 (Pc.tx (Pc.here _)) rfl rfl rfl rw_14 r17u5 rfl) ?_
 intro cs_15 rb_16
 refine yZ (yY (zK (e' := [(2, _), (3, _), (4, _), (5, _)]) e4z (zB (zA (mv rfl rfl (gv ((zS (q := 1) rfl rfl (by omega) (by omega)).cv (show _ = vI (1) from rfl)) rfl (asg rfl rfl (zD (xI (zC (zC (zA (mv rfl rfl ?_)))))))))))))
 refine gv (OpV.tr (by decide) (zW (q := 3) rfl rfl)) rfl (zD (zB (xC rfl (zL (zB (zC (zQ ?_)))))))
 refine yG 9 _ [] [(0, .q), (1, .q), (2, .q), (3, .q), (4, .q), (5, .q), (6, .q), (7, .c), (8, .q), (9, .t)] xG nX (by kernel_rfl) nX (fun r hr => hr) (w_q rfl (fun h' L' hh hR => zH rfl) rfl (w_q rfl (fun h' L' hh hR => zH rfl) rfl (w_q rfl (fun h' L' hh hR => (zF (sz := 3) 1 underlying32 sizeOf30 rfl rfl rfl (by decide)).cv (show _ = vP b2 3 from congrArg (vP b2) (by rfl))) rfl (yO (F := fun v_ => (rpQ (k + l + 1)).Is h1 v_ a.y) rfl (zE xA (Pc.ty (Pc.here _)) rfl rfl rb_16 rfl) (yD (.tail _ (.tail _ (.head _)))) rfl ?_))))
 intro v13u6 r13u6
 refine w_q rfl (fun h' L' hh hR => zH rfl) rfl (w_q rfl (fun h' L' hh hR => (zF (sz := 3) 1 underlying32 sizeOf30 rfl rfl rfl (by decide)).cv (show _ = vP b3 3 from congrArg (vP b3) (by rfl))) rfl ?_)
 replace rb3 := rb3.mono hh1
 refine yO (F := fun v_ => (rpQ l).Is h1 v_ b.y) rfl (zE xA (Pc.ty (Pc.here _)) rfl rfl rb3 rfl) (yD (.tail _ (.head _))) rfl ?_
 intro v16u6 r16u6
 refine w_c rfl ?_
 refine zY (vs := [_, _]) call56 e2z (fun w hs => o_rref_sub hs r13u6 r16u6 (by omega)) rfl ?_
 intro v17u6 h2 hh2 r17u6
 change (rpQ ((k + l + 1) + l + 1)).Is h2 v17u6 (a.y - b.y) at r17u6
 replace r17u6 := Rp.Is.le r17u6 (Le.q (l := k + 2 * l + 2) (by omega))
 refine w_q rfl (fun h' L' hh hR => (zF (sz := 3) 1 underlying32 sizeOf30 rfl rfl rfl (by decide)).cv (show _ = vP b2 3 from congrArg (vP b2) (by rfl))) rfl ?_
 replace rb_16 := rb_16.mono hh2
 have rw_17 := (Le.t (Le.q (l := k + 2 * l + 2) (by omega))).R rb_16
 refine yV (A := [_, _]) (F := fun c_ => (rpT (rpQ (k + 2 * l + 2))).R h2 c_ (T3.mk (a.x - b.x) (a.y - b.y) a.z)) rfl (zX sizeOf30 (Pc.ty (Pc.here _)) rfl rfl rfl rw_17 r17u6 rfl) ?_
 intro cs_18 rb_19
 refine yZ (yY (zK (e' := [(2, _), (3, _), (4, _), (5, _)]) e4z (zB (zA (mv rfl rfl (gv ((zS (q := 1) rfl rfl (by omega) (by omega)).cv (show _ = vI (2) from rfl)) rfl (asg rfl rfl (zD (xI (zC (zC (zA (mv rfl rfl ?_)))))))))))))
 refine gv (OpV.tr (by decide) (zW (q := 3) rfl rfl)) rfl (zD (zB (xC rfl (zL (zB (zC (zQ ?_)))))))
 refine yG 9 _ [] [(0, .q), (1, .q), (2, .q), (3, .q), (4, .q), (5, .q), (6, .q), (7, .c), (8, .q), (9, .t)] xG nX (by kernel_rfl) nX (fun r hr => hr) (w_q rfl (fun h' L' hh hR => zH rfl) rfl (w_q rfl (fun h' L' hh hR => zH rfl) rfl (w_q rfl (fun h' L' hh hR => (zF (sz := 3) 2 underlying32 sizeOf30 rfl rfl rfl (by decide)).cv (show _ = vP b2 6 from congrArg (vP b2) (by rfl))) rfl (yO (F := fun v_ => (rpQ (k + 2 * l + 2)).Is h2 v_ a.z) rfl (zE xA (Pc.tz (Pc.here _)) rfl rfl rb_19 rfl) (yD (.tail _ (.tail _ (.head _)))) rfl ?_))))
 intro v13u7 r13u7
 refine w_q rfl (fun h' L' hh hR => zH rfl) rfl (w_q rfl (fun h' L' hh hR => (zF (sz := 3) 2 underlying32 sizeOf30 rfl rfl rfl (by decide)).cv (show _ = vP b3 6 from congrArg (vP b3) (by rfl))) rfl ?_)
 replace rb3 := rb3.mono hh2
 refine yO (F := fun v_ => (rpQ l).Is h2 v_ b.z) rfl (zE xA (Pc.tz (Pc.here _)) rfl rfl rb3 rfl) (yD (.tail _ (.head _))) rfl ?_
 intro v16u7 r16u7
 refine w_c rfl ?_
 refine zY (vs := [_, _]) call56 e2z (fun w hs => o_rref_sub hs r13u7 r16u7 (by omega)) rfl ?_
 intro v17u7 h3 hh3 r17u7
 change (rpQ ((k + 2 * l + 2) + l + 1)).Is h3 v17u7 (a.z - b.z) at r17u7
 replace r17u7 := Rp.Is.le r17u7 (Le.q (l := k + 3 * l + 3) (by omega))
 refine w_q rfl (fun h' L' hh hR => (zF (sz := 3) 2 underlying32 sizeOf30 rfl rfl rfl (by decide)).cv (show _ = vP b2 6 from congrArg (vP b2) (by rfl))) rfl ?_
 replace rb_19 := rb_19.mono hh3
 have rw_20 := (Le.t (Le.q (l := k + 3 * l + 3) (by omega))).R rb_19
 refine yV (A := [_, _]) (F := fun c_ => (rpT (rpQ (k + 3 * l + 3))).R h3 c_ (T3.mk (a.x - b.x) (a.y - b.y) (a.z - b.z))) rfl (zX sizeOf30 (Pc.tz (Pc.here _)) rfl rfl rfl rw_20 r17u7 rfl) ?_
 intro cs_21 rb_22
 refine yZ (yY (zK (e' := [(2, _), (3, _), (4, _), (5, _)]) e4z (zB (zA (mv rfl rfl (gv ((zS (q := 1) rfl rfl (by omega) (by omega)).cv (show _ = vI (3) from rfl)) rfl (asg rfl rfl (zD (xI (zC (zC (zA (mv rfl rfl ?_)))))))))))))
 refine gv (OpV.fa (by decide) (zW (q := 3) rfl rfl)) rfl (zD (zB (gc_cond_f rfl (xK (yE (yE (xJ (zB (zC (zA (xQ (F := fun v_ => (rpT (rpQ (k + 3 * l + 3))).Is h3 v_ (T3.mk (a.x - b.x) (a.y - b.y) (a.z - b.z))) (zE xF (Pc.here _) rfl rfl rb_22 rfl) (yD (.tail _ (.tail _ (.head _)))) rfl ?_)))))))))))
 intro v19u8 r19u8
 replace rb4 := rb4.mono ((hh1.trans hh2).trans hh3)
 refine xO (A := []) (F := fun c_ => (rpT (rpQ (k + 3 * l + 3))).R h3 c_ (T3.mk (a.x - b.x) (a.y - b.y) (a.z - b.z))) (zX sizeOf32 (Pc.here _) rfl rfl rfl rb4 r19u8 rfl) ?_
 intro cs_23 rb_24
 refine zD (zB (zR (gq_exv (rv_o (t := 4) xF (.head _) rfl rb_24) ?_)))
 intro w_25 hvw_25 rr_26
 refine xM (fun E S => yL rfl hvw_25 E S) ?_
 exact rr_26
theorem o_r4_scale {w0 : World} {h0 : Mem}  (hs : MLe h0 (mem w0)) {l k : Nat} {vq : Value} {q : Rat} (rq : (rpQ l).Is h0 vq q) {va : Value} {a : (T3 Rat)} (ra : (rpT (rpQ k)).Is h0 va a) (hcd0 : k + l ≤ 1000000000)  :
    Calls Tryz.prog 20 #[vq, va] w0 (Ret w0 h0 (fun h r => (rpT (rpQ (k + 3 * l + 1))).Is h r (T3.mk (q * a.x) (q * a.y) (q * a.z)))) := by
 refine zO (n := 18) (e := [(0, vq), (1, va)]) (vs := [vq, va]) func20 rfl rfl (bL rfl) hs e2z (zC (zA (zJ (yU (ρ := (rpQ l)) rfl rq) rfl rfl rfl ?_)))
 intro v2 q2 hq2
 obtain ⟨b2, cs2, rfl, rfl, rb2⟩ := hq2
 refine zJ (yU (ρ := (rpT (rpQ k))) rfl ra) rfl rfl rfl ?_
 intro v3 q3 hq3
 obtain ⟨b3, cs3, rfl, rfl, rb3⟩ := hq3
 refine zJ (yQ (ρ := (rpT (rpQ (k + 3 * l + 1)))) (X := (T3.mk (0 : Rat) 0 0)) yI rfl rfl (zr_t (xS (by omega)))) rfl rfl rfl ?_
 intro v4 q4 hq4
 obtain ⟨b4, cs4, rfl, rfl, rb4⟩ := hq4
 refine zD (zB (zC (zC (zA (asg (v := vI (0)) rfl rfl (zD (zB (zQ (gc_loop1 (zC (zC (zA (mv rfl rfl ?_)))))))))))))
 refine gv (OpV.tr (by decide) (zW (q := 3) rfl rfl)) rfl (zD (zB (xC rfl (zL (zB (zC (zQ ?_)))))))
 refine yG 7 _ [] [(0, .q), (1, .q), (2, .q), (3, .q), (4, .q), (5, .c), (6, .q), (7, .t)] xG nX (by kernel_rfl) nX (fun r hr => hr) (w_q rfl (fun h' L' hh hR => zH rfl) rfl (yO (F := fun v_ => (rpQ l).Is h0 v_ q) rfl (zE xA (Pc.here _) rfl rfl rb2 rfl) (yD (.tail _ (.tail _ (.head _)))) rfl ?_))
 intro v11u9 r11u9
 refine w_q rfl (fun h' L' hh hR => zH rfl) rfl (w_q rfl (fun h' L' hh hR => (zF (sz := 3) 0 underlying32 sizeOf30 rfl rfl rfl (by decide)).cv (show _ = vP b3 0 from congrArg (vP b3) (by rfl))) rfl (yO (F := fun v_ => (rpQ k).Is h0 v_ a.x) rfl (zE xA (Pc.tx (Pc.here _)) rfl rfl rb3 rfl) (yD (.tail _ (.head _))) rfl ?_))
 intro v14u9 r14u9
 refine w_c rfl ?_
 refine zY (vs := [_, _]) call54 e2z (fun w hs => o_rref_mul hs r11u9 r14u9 (by omega)) rfl ?_
 intro v15u9 h1 hh1 r15u9
 change (rpQ (l + k)).Is h1 v15u9 (q * a.x) at r15u9
 replace r15u9 := Rp.Is.le r15u9 (Le.q (l := k + l) (by omega))
 refine w_q rfl (fun h' L' hh hR => (zF (sz := 3) 0 underlying32 sizeOf30 rfl rfl rfl (by decide)).cv (show _ = vP b3 0 from congrArg (vP b3) (by rfl))) rfl ?_
 replace rb3 := rb3.mono hh1
 have rw_27 := (Le.t (Le.q (l := k + l) (by omega))).R rb3
 refine yV (A := [_]) (F := fun c_ => (rpT (rpQ (k + l))).R h1 c_ (T3.mk (q * a.x) a.y a.z)) rfl (zX sizeOf30 (Pc.tx (Pc.here _)) rfl rfl rfl rw_27 r15u9 rfl) ?_
 intro cs_28 rb_29
 refine yZ (yY (zK (e' := [(2, _), (3, _), (4, _), (5, _)]) e4z (zB (zA (mv rfl rfl (gv ((zS (q := 1) rfl rfl (by omega) (by omega)).cv (show _ = vI (1) from rfl)) rfl (asg rfl rfl (zD (xI (zC (zC (zA (mv rfl rfl ?_)))))))))))))
 refine gv (OpV.tr (by decide) (zW (q := 3) rfl rfl)) rfl (zD (zB (xC rfl (zL (zB (zC (zQ ?_)))))))
 refine yG 7 _ [] [(0, .q), (1, .q), (2, .q), (3, .q), (4, .q), (5, .c), (6, .q), (7, .t)] xG nX (by kernel_rfl) nX (fun r hr => hr) (w_q rfl (fun h' L' hh hR => zH rfl) rfl ?_)
 replace rb2 := rb2.mono hh1
 refine yO (F := fun v_ => (rpQ l).Is h1 v_ q) rfl (zE xA (Pc.here _) rfl rfl rb2 rfl) (yD (.tail _ (.tail _ (.head _)))) rfl ?_
 intro v11u10 r11u10
 refine w_q rfl (fun h' L' hh hR => zH rfl) rfl (w_q rfl (fun h' L' hh hR => (zF (sz := 3) 1 underlying32 sizeOf30 rfl rfl rfl (by decide)).cv (show _ = vP b3 3 from congrArg (vP b3) (by rfl))) rfl (yO (F := fun v_ => (rpQ (k + l)).Is h1 v_ a.y) rfl (zE xA (Pc.ty (Pc.here _)) rfl rfl rb_29 rfl) (yD (.tail _ (.head _))) rfl ?_))
 intro v14u10 r14u10
 refine w_c rfl ?_
 refine zY (vs := [_, _]) call54 e2z (fun w hs => o_rref_mul hs r11u10 r14u10 (by omega)) rfl ?_
 intro v15u10 h2 hh2 r15u10
 change (rpQ (l + (k + l))).Is h2 v15u10 (q * a.y) at r15u10
 replace r15u10 := Rp.Is.le r15u10 (Le.q (l := k + 2 * l) (by omega))
 refine w_q rfl (fun h' L' hh hR => (zF (sz := 3) 1 underlying32 sizeOf30 rfl rfl rfl (by decide)).cv (show _ = vP b3 3 from congrArg (vP b3) (by rfl))) rfl ?_
 replace rb_29 := rb_29.mono hh2
 have rw_30 := (Le.t (Le.q (l := k + 2 * l) (by omega))).R rb_29
 refine yV (A := [_]) (F := fun c_ => (rpT (rpQ (k + 2 * l))).R h2 c_ (T3.mk (q * a.x) (q * a.y) a.z)) rfl (zX sizeOf30 (Pc.ty (Pc.here _)) rfl rfl rfl rw_30 r15u10 rfl) ?_
 intro cs_31 rb_32
 refine yZ (yY (zK (e' := [(2, _), (3, _), (4, _), (5, _)]) e4z (zB (zA (mv rfl rfl (gv ((zS (q := 1) rfl rfl (by omega) (by omega)).cv (show _ = vI (2) from rfl)) rfl (asg rfl rfl (zD (xI (zC (zC (zA (mv rfl rfl ?_)))))))))))))
 refine gv (OpV.tr (by decide) (zW (q := 3) rfl rfl)) rfl (zD (zB (xC rfl (zL (zB (zC (zQ ?_)))))))
 refine yG 7 _ [] [(0, .q), (1, .q), (2, .q), (3, .q), (4, .q), (5, .c), (6, .q), (7, .t)] xG nX (by kernel_rfl) nX (fun r hr => hr) (w_q rfl (fun h' L' hh hR => zH rfl) rfl ?_)
 replace rb2 := rb2.mono hh2
 refine yO (F := fun v_ => (rpQ l).Is h2 v_ q) rfl (zE xA (Pc.here _) rfl rfl rb2 rfl) (yD (.tail _ (.tail _ (.head _)))) rfl ?_
 intro v11u11 r11u11
 refine w_q rfl (fun h' L' hh hR => zH rfl) rfl (w_q rfl (fun h' L' hh hR => (zF (sz := 3) 2 underlying32 sizeOf30 rfl rfl rfl (by decide)).cv (show _ = vP b3 6 from congrArg (vP b3) (by rfl))) rfl (yO (F := fun v_ => (rpQ (k + 2 * l)).Is h2 v_ a.z) rfl (zE xA (Pc.tz (Pc.here _)) rfl rfl rb_32 rfl) (yD (.tail _ (.head _))) rfl ?_))
 intro v14u11 r14u11
 refine w_c rfl ?_
 refine zY (vs := [_, _]) call54 e2z (fun w hs => o_rref_mul hs r11u11 r14u11 (by omega)) rfl ?_
 intro v15u11 h3 hh3 r15u11
 change (rpQ (l + (k + 2 * l))).Is h3 v15u11 (q * a.z) at r15u11
 replace r15u11 := Rp.Is.le r15u11 (Le.q (l := k + 3 * l) (by omega))
 refine w_q rfl (fun h' L' hh hR => (zF (sz := 3) 2 underlying32 sizeOf30 rfl rfl rfl (by decide)).cv (show _ = vP b3 6 from congrArg (vP b3) (by rfl))) rfl ?_
 replace rb_32 := rb_32.mono hh3
 have rw_33 := (Le.t (Le.q (l := k + 3 * l) (by omega))).R rb_32
 refine yV (A := [_]) (F := fun c_ => (rpT (rpQ (k + 3 * l))).R h3 c_ (T3.mk (q * a.x) (q * a.y) (q * a.z))) rfl (zX sizeOf30 (Pc.tz (Pc.here _)) rfl rfl rfl rw_33 r15u11 rfl) ?_
 intro cs_34 rb_35
 refine yZ (yY (zK (e' := [(2, _), (3, _), (4, _), (5, _)]) e4z (zB (zA (mv rfl rfl (gv ((zS (q := 1) rfl rfl (by omega) (by omega)).cv (show _ = vI (3) from rfl)) rfl (asg rfl rfl (zD (xI (zC (zC (zA (mv rfl rfl ?_)))))))))))))
 refine gv (OpV.fa (by decide) (zW (q := 3) rfl rfl)) rfl (zD (zB (gc_cond_f rfl (xK (yE (yE (xJ (zB (zC (zA (xQ (F := fun v_ => (rpT (rpQ (k + 3 * l))).Is h3 v_ (T3.mk (q * a.x) (q * a.y) (q * a.z))) (zE xF (Pc.here _) rfl rfl rb_35 rfl) (yD (.tail _ (.head _))) rfl ?_)))))))))))
 intro v17u12 r17u12
 replace rb4 := rb4.mono ((hh1.trans hh2).trans hh3)
 refine xO (A := []) (F := fun c_ => (rpT (rpQ (k + 3 * l + 1))).R h3 c_ (T3.mk (q * a.x) (q * a.y) (q * a.z))) (zX sizeOf32 (Pc.here _) rfl rfl rfl rb4 (r17u12.le (Le.t (Le.q (l := k + 3 * l + 1) (by omega)))) rfl) ?_
 intro cs_36 rb_37
 refine zD (zB (zR (gq_exv (rv_o (t := 4) xF (.head _) rfl rb_37) ?_)))
 intro w_38 hvw_38 rr_39
 refine xM (fun E S => yL rfl hvw_38 E S) ?_
 exact rr_39
theorem o_made_at3 {w0 : World} {h0 : Mem}  (hs : MLe h0 (mem w0)) {x : Int} (hx1 : -9223372036854775808 ≤ x) (hx2 : x < 9223372036854775808) {y : Int} (hy1 : -9223372036854775808 ≤ y) (hy2 : y < 9223372036854775808) {z : Int} (hz1 : -9223372036854775808 ≤ z) (hz2 : z < 9223372036854775808)  :
    Calls Tryz.prog 44 #[vI x, vI y, vI z] w0 (Ret w0 h0 (fun h r => (rpT (rpQ 2)).Is h r (T3.mk ((x : Int) : Rat) ((y : Int) : Rat) ((z : Int) : Rat)))) := by
 refine zO (n := 14) (e := [(0, vI x), (1, vI y), (2, vI z)]) (vs := [vI x, vI y, vI z]) func44 rfl rfl (bL rfl) hs e3z (zC (zA (zJ (yQ (ρ := (rpT (rpQ 1))) (X := (T3.mk (0 : Rat) 0 0)) yI rfl rfl (zr_t (xS (by decide)))) rfl rfl rfl ?_)))
 intro v6 q6 hq6
 obtain ⟨b6, cs6, rfl, rfl, rb6⟩ := hq6
 refine zD (zB (zC (zA (mv rfl rfl ?_))))
 refine zM (vs := [_]) rfl rfl rfl rfl call45 ⟨rfl, trivial⟩ (fun w hs => o_rref_int hs (by omega) (by omega)) ?_
 intro v8 h1 hh1 r8
 change (rpQ 2).Is h1 v8 ((x : Int) : Rat) at r8
 refine mv rfl rfl ?_
 refine zM (vs := [_]) rfl rfl rfl rfl call45 ⟨rfl, trivial⟩ (fun w hs => o_rref_int hs (by omega) (by omega)) ?_
 intro v10 h2 hh2 r10
 change (rpQ 2).Is h2 v10 ((y : Int) : Rat) at r10
 refine mv rfl rfl ?_
 refine zM (vs := [_]) rfl rfl rfl rfl call45 ⟨rfl, trivial⟩ (fun w hs => o_rref_int hs (by omega) (by omega)) ?_
 intro v12 h3 hh3 r12
 change (rpQ 2).Is h3 v12 ((z : Int) : Rat) at r12
 replace r8 := r8.mono (hh2.trans hh3)
 replace r10 := r10.mono hh3
 refine xQ (F := fun v_ => (rpT (rpQ 2)).Is h3 v_ (T3.mk ((x : Int) : Rat) ((y : Int) : Rat) ((z : Int) : Rat))) (ox_build_arr (ps' := [(0, _), (1, _), (2, _)]) underlying32 yI rfl rfl sizeOf30 e6 rfl (zr_t (xS (by decide))) (yN rfl (Pc.tx (Pc.here _)) r8 (yN rfl (Pc.ty (Pc.here _)) r10 (yN rfl (Pc.tz (Pc.here _)) r12 fx_nil)))) mem0 rfl ?_
 intro v13 r13
 replace rb6 := rb6.mono ((hh1.trans hh2).trans hh3)
 have rw_40 := (Le.t (Le.q (l := 2) (by decide))).R rb6
 refine xO (A := []) (F := fun c_ => (rpT (rpQ 2)).R h3 c_ (T3.mk ((x : Int) : Rat) ((y : Int) : Rat) ((z : Int) : Rat))) (zX sizeOf32 (Pc.here _) rfl rfl rfl rw_40 r13 rfl) ?_
 intro cs_41 rb_42
 refine zD (zK (e' := [(6, _)]) ⟨rfl, trivial⟩ (zB (zR (gq_exv (rv_o (t := 6) xF (.head _) rfl rb_42) ?_))))
 intro w_43 hvw_43 rr_44
 refine xM (fun E S => yL rfl hvw_43 E S) ?_
 exact rr_44
end Go.Proofs.YtghhjjmjpeehdaaGreat
namespace Bk
set_option linter.unusedVariables false
set_option linter.unusedSimpArgs false
open Go Go.RowKit
open Classical
abbrev Pl := Pt × Rat
theorem sgn_one {x : Rat} : sgnQ x = 1 ↔ 0 < x := by
  have h2 := sgnQ_range x; rw [← sgn_pos]; omega
theorem sgn_mone {x : Rat} : sgnQ x = -1 ↔ x < 0 := by
  have h2 := sgnQ_range x; rw [← sgn_neg]; omega
theorem t3_eq {a b : Pt} : a = b ↔ a.x = b.x ∧ a.y = b.y ∧ a.z = b.z := by cases a; cases b; exact T3.mk.injEq .. ▸ Iff.rfl
noncomputable def axI (n : Pt) : Nat := if 0 < n.z then 0 else if n.z < 0 then 1 else if 0 < n.y then 2 else if n.y < 0 then 0 else if 0 < n.x then 1 else if n.x < 0 then 2 else 1
noncomputable def axJ (n : Pt) : Nat := if 0 < n.z then 1 else if n.z < 0 then 0 else if 0 < n.y then 0 else if n.y < 0 then 2 else if 0 < n.x then 2 else if n.x < 0 then 1 else 2
noncomputable def axK (n : Pt) : Nat := if n.z ≠ 0 then 2 else if n.y ≠ 0 then 1 else 0
theorem ax_cases (n : Pt) : (0 < n.z ∧ axI n = 0 ∧ axJ n = 1 ∧ axK n = 2) ∨ (n.z < 0 ∧ axI n = 1 ∧ axJ n = 0 ∧ axK n = 2) ∨ (n.z = 0 ∧ 0 < n.y ∧ axI n = 2 ∧ axJ n = 0 ∧ axK n = 1) ∨ (n.z = 0 ∧ n.y < 0 ∧ axI n = 0 ∧ axJ n = 2 ∧ axK n = 1) ∨
    (n.z = 0 ∧ n.y = 0 ∧ 0 < n.x ∧ axI n = 1 ∧ axJ n = 2 ∧ axK n = 0) ∨ (n.z = 0 ∧ n.y = 0 ∧ n.x < 0 ∧ axI n = 2 ∧ axJ n = 1 ∧ axK n = 0) ∨ (n.z = 0 ∧ n.y = 0 ∧ n.x = 0 ∧ axI n = 1 ∧ axJ n = 2 ∧ axK n = 0) := by
  have tri : ∀ a : Rat, 0 < a ∨ (a < 0 ∧ ¬ 0 < a) ∨ (a = 0 ∧ ¬ 0 < a ∧ ¬ a < 0) := fun a => by grind
  unfold axI axJ axK
  rcases tri n.z with h | ⟨h, h'⟩ | ⟨h, h', h''⟩
  · left; simp only [if_pos h, if_pos (show n.z ≠ 0 by grind)]; exact ⟨h, trivial, trivial, trivial⟩
  · right; left; simp only [if_neg h', if_pos h, if_pos (show n.z ≠ 0 by grind)]; exact ⟨h, trivial, trivial, trivial⟩
  · simp only [if_neg h', if_neg h'', if_neg (show ¬ n.z ≠ 0 by grind)]
    rcases tri n.y with k | ⟨k, k'⟩ | ⟨k, k', k''⟩
    · right; right; left; simp only [if_pos k, if_pos (show n.y ≠ 0 by grind)]; exact ⟨h, k, trivial, trivial, trivial⟩
    · right; right; right; left; simp only [if_neg k', if_pos k, if_pos (show n.y ≠ 0 by grind)]; exact ⟨h, k, trivial, trivial, trivial⟩
    · simp only [if_neg k', if_neg k'', if_neg (show ¬ n.y ≠ 0 by grind)]
      rcases tri n.x with l | ⟨l, l'⟩ | ⟨l, l', l''⟩
      · right; right; right; right; left; simp only [if_pos l]; exact ⟨h, k, l, trivial, trivial, trivial⟩
      · right; right; right; right; right; left; simp only [if_neg l', if_pos l]; exact ⟨h, k, l, trivial, trivial, trivial⟩
      · right; right; right; right; right; right; simp only [if_neg l', if_neg l'']; exact ⟨h, k, l, trivial, trivial, trivial⟩
theorem ax_sum (n : Pt) : axI n + axJ n ≤ 3 ∧ axI n < 3 ∧ axJ n < 3 ∧ axK n = 3 - axI n - axJ n := by
  rcases ax_cases n with h | h | h | h | h | h | h <;> omega
theorem axI_lt (n : Pt) : axI n < 3 := (ax_sum n).2.1
theorem axJ_lt (n : Pt) : axJ n < 3 := (ax_sum n).2.2.1
theorem axK_lt (n : Pt) : axK n < 3 := by
  rcases ax_cases n with h | h | h | h | h | h | h <;> omega
theorem ax_zero (n : Pt) : n.at (axK n) = 0 ↔ n = T3.mk (0 : Rat) 0 0 := by
  obtain ⟨x, y, z⟩ := n
  rw [T3.mk.injEq]
  rcases ax_cases ⟨x, y, z⟩ with h | h | h | h | h | h | h <;> simp only at h <;> obtain ⟨h, h1⟩ := h
  all_goals first | rw [h1.2.2] | rw [h1.2.2.2] | rw [h1.2.2.2.2]
  all_goals simp only [T3.at]
  all_goals grind
noncomputable def flatZ (pl : Pl) (p : Pt) : Pt := T3.mk (p.at (axI pl.1)) (p.at (axJ pl.1)) (0 : Rat)
noncomputable def liftQ (pl : Pl) (q : Pt) : Rat := if pl.1.at (axK pl.1) = 0 then 0 else (pl.2 - (pl.1.at (axI pl.1) * q.x + pl.1.at (axJ pl.1) * q.y)) / pl.1.at (axK pl.1)
noncomputable def liftZ (pl : Pl) (q : Pt) : Pt := if pl.1.at (axK pl.1) = 0 then T3.mk (0 : Rat) 0 0 else (((T3.mk (0 : Rat) 0 0).set (axI pl.1) q.x).set (axJ pl.1) q.y).set (axK pl.1) (liftQ pl q)
def dotT (a b : Pt) : Rat := a.x * b.x + a.y * b.y + a.z * b.z
def crossT (a b : Pt) : Pt := T3.mk (a.y * b.z - a.z * b.y) (a.z * b.x - a.x * b.z) (a.x * b.y - a.y * b.x)
def subT (a b : Pt) : Pt := T3.mk (a.x - b.x) (a.y - b.y) (a.z - b.z)
theorem lift_eq {n d m q : Rat} (h : ¬ n = 0) : n * ((d - m) / n) = d - m := by
  rw [Rat.mul_comm, Rat.div_mul_cancel h]
theorem dot_lift (n : Pt) (x y : Rat) : dotT n (((T3.mk (0 : Rat) 0 0).set (axI n) x).set (axJ n) y) = n.at (axI n) * x + n.at (axJ n) * y := by
  obtain ⟨a, b, c⟩ := n
  have h : (axI ⟨a, b, c⟩ = 0 ∧ axJ ⟨a, b, c⟩ = 1) ∨ (axI ⟨a, b, c⟩ = 1 ∧ axJ ⟨a, b, c⟩ = 0) ∨ (axI ⟨a, b, c⟩ = 2 ∧ axJ ⟨a, b, c⟩ = 0) ∨ (axI ⟨a, b, c⟩ = 0 ∧ axJ ⟨a, b, c⟩ = 2) ∨ (axI ⟨a, b, c⟩ = 1 ∧ axJ ⟨a, b, c⟩ = 2) ∨ (axI ⟨a, b, c⟩ = 2 ∧ axJ ⟨a, b, c⟩ = 1) := by
    rcases ax_cases ⟨a, b, c⟩ with h | h | h | h | h | h | h <;> omega
  rcases h with ⟨e1, e2⟩ | ⟨e1, e2⟩ | ⟨e1, e2⟩ | ⟨e1, e2⟩ | ⟨e1, e2⟩ | ⟨e1, e2⟩ <;> rw [e1, e2] <;> simp only [T3.at, T3.set, dotT] <;> grind
theorem ref_lift {s : Pl} {q : Pt} (h : ¬ s.1 = T3.mk (0 : Rat) 0 0) :
    (((T3.mk (0 : Rat) 0 0).set (axI s.1) q.x).set (axJ s.1) q.y).set (axK s.1) (if s.1.at (axK s.1) = 0 then 0 else (s.2 - dotT s.1 (((T3.mk (0 : Rat) 0 0).set (axI s.1) q.x).set (axJ s.1) q.y)) / s.1.at (axK s.1)) = liftZ s q := by
  rw [dot_lift]
  exact (if_neg (fun e => h ((ax_zero _).1 e))).symm
theorem ax_perm (n : Pt) : (axI n = 0 ∧ axJ n = 1 ∧ axK n = 2) ∨ (axI n = 1 ∧ axJ n = 0 ∧ axK n = 2) ∨ (axI n = 2 ∧ axJ n = 0 ∧ axK n = 1) ∨ (axI n = 0 ∧ axJ n = 2 ∧ axK n = 1) ∨ (axI n = 1 ∧ axJ n = 2 ∧ axK n = 0) ∨ (axI n = 2 ∧ axJ n = 1 ∧ axK n = 0) := by
  rcases ax_cases n with h | h | h | h | h | h | h <;> omega
theorem side_lift {s : Pl} {q : Pt} (h : ¬ s.1.at (axK s.1) = 0) : sgnQ (dotT s.1 (liftZ s q) - s.2) = 0 := by
  rw [sgn_zero]
  have hq := lift_eq (d := s.2) (m := s.1.at (axI s.1) * q.x + s.1.at (axJ s.1) * q.y) (q := 0) h
  unfold liftZ liftQ
  rw [if_neg h, if_neg h]
  generalize (s.2 - (s.1.at (axI s.1) * q.x + s.1.at (axJ s.1) * q.y)) / s.1.at (axK s.1) = u at *
  obtain ⟨⟨x, y, z⟩, d⟩ := s
  rcases ax_perm ⟨x, y, z⟩ with ⟨e1, e2, e3⟩ | ⟨e1, e2, e3⟩ | ⟨e1, e2, e3⟩ | ⟨e1, e2, e3⟩ | ⟨e1, e2, e3⟩ | ⟨e1, e2, e3⟩ <;> simp only [e1, e2, e3, T3.at, T3.set, dotT] at * <;> grind
end Bk
namespace Go.Proofs.YtghhjjmjpeehdaaGreat
open Bk Go Tryz
set_option linter.unusedVariables false
set_option linter.unusedSimpArgs false
set_option maxRecDepth 10000
theorem own_rat {w0 : World} {h0 : Mem}  (hs : MLe h0 (mem w0)) {qa : Rat} {vna vda : Value} (hna : Us .u32 h0 vna (zG qa.num.natAbs)) (hda : Us .u32 h0 vda (zG (denN qa.den))) (hqa : lq qa ≤ 100000000000) :
    Calls Tryz.prog 111 #[.agg #[vB (qa.num < 0), vna, vda]] w0 (Ret w0 h0 (fun h r => IsRat h r qa)) := by
 have hlna := lq_num qa
 have hlda := lq_den qa
 have hlDa := lq_denL qa
 refine zO (n := 12) (e := [(0, .agg #[vB (qa.num < 0), vna, vda])]) (vs := [.agg #[vB (qa.num < 0), vna, vda]]) func111 rfl rfl (bL rfl) hs ⟨rfl, trivial⟩ (zC (zA (zJ (new_box (cs := [_, _, _]) rfl rfl) rfl rfl rfl ?_)))
 intro v1 r1 hr1
 obtain ⟨b1, rfl, rfl⟩ := hr1
 refine zJ (new_alloc (cs := [vB ((0 : Rat).num < 0), .slice none 0 0, .slice none 0 0]) info30 rfl (by simp only [zb]; rfl)) rfl rfl rfl ?_
 intro v2 r2 hr2
 obtain ⟨b2, rfl, rfl⟩ := hr2
 refine zD (zB (zC ?_))
 refine yG 9 _ [] [(0, .q), (1, .q), (2, .q), (3, .q), (5, .q), (6, .q), (4, .c), (7, .c), (8, .c), (9, .t)] xG nX (by kernel_rfl) nX (fun r hr => hr) (w_q rfl (fun h' L' hh hR => zI underlying30 rfl sizeOf4 rfl) rfl (w_q rfl (fun h' L' hh hR => zU (hR _ (.tail _ (.head _))) isAgg4 rfl rfl) rfl (w_q rfl (fun h' L' hh hR => zI underlying30 rfl sizeOf28 rfl) rfl (w_q rfl (fun h' L' hh hR => zU (hR _ (.tail _ (.head _))) isAgg28 rfl rfl) rfl (w_q rfl (fun h' L' hh hR => zI underlying30 rfl sizeOf28 rfl) rfl (w_q rfl (fun h' L' hh hR => zU (hR _ (.tail _ (.head _))) isAgg28 rfl rfl) rfl ?_))))))
 refine w_c rfl ?_
 refine s_call_own (vs := [_]) call130 ⟨rfl, trivial⟩ (fun w hs => sl_clone hs hna (by omega)) rfl ?_
 intro v7 h1 L7 hh1 hr7
 obtain rfl := hr7
 refine w_c rfl ?_
 replace hda := hda.mono hh1
 refine s_call_own (vs := [_]) call130 ⟨rfl, trivial⟩ (fun w hs => sl_clone hs hda (by omega)) rfl ?_
 intro v10 h2 L10 hh2 hr10
 obtain rfl := hr10
 refine w_c rfl ?_
 replace hna := hna.mono (hh1.trans hh2)
 refine s_freeze (A := [_]) (by exact hna.lt) (by simp only [List.mem_cons, List.not_mem_nil, or_false]; rintro r (rfl | rfl) _ <;> simp) ?_
 intro h3 hh3 hc1
 replace hda := hda.mono (hh2.trans hh3)
 refine s_freeze (A := []) (by exact hda.lt) (by simp only [List.mem_cons, List.not_mem_nil, or_false]; rintro r (rfl | rfl) _ <;> simp) ?_
 intro h4 hh4 hc2
 replace hc1 := hc1.mono hh4
 refine s_val (fun X => ov_build_parts (ps' := [(0, _), (1, _), (2, _)]) (vs := [vB (qa.num < 0), v7, v10]) underlying30 info30 rfl (places30 underlying30) e6 (fill_one (A := []) (B := [_]) (C := [_, _]) (cs := [_]) (off := 0) (size := 1) rfl rfl rfl rfl rfl (fill_one (A := [_]) (B := [_]) (C := [_]) (cs := [_]) (off := 1) (size := 1) rfl rfl rfl rfl hc1.cells (fill_one (A := [_, _]) (B := [_]) (C := []) (cs := [_]) (off := 2) (size := 1) rfl rfl rfl rfl hc2.cells fill_nil)))) rfl (w_t_upd (A := []) (q' := .var b2 30 [vB (qa.num < 0), v7, v10]) rfl (yB (k := 0) (cs := [_, _, _]) (vs := [_, _, _]) rfl rfl rfl (ocr rfl (ocu hc1 (ocu hc2 oc0))) zZ (bL rfl)) rfl (yZ (zK (e' := [(2, _)]) ⟨rfl, trivial⟩ (zB (zR (xM (fun E S => yL rfl (rv_agg (cs := [_, _, _]) (.head _) underlying30 rfl zZ rfl) E S) ?_))))))
 exact ⟨_, _, rfl, hc1, hc2⟩
theorem o_own_rat {w0 : World} {h0 : Mem} (hs : MLe h0 (mem w0)) {k : Nat} {va : Value} {a : Rat} (ra : (rpQ k).Is h0 va a) (hcd0 : k ≤ 10000000000)  :
    Calls Tryz.prog 111 #[va] w0 (Ret w0 h0 (fun h r => (rpQ k).Is h r a)) := by
  obtain ⟨vna, vda, rfl, hna, hda, hla⟩ := open_q ra
  exact (own_rat hs hna hda (by omega) ).mono (ret_imp fun h r x => is_q x (by omega))
theorem o_pl_axes {w0 : World} {h0 : Mem}  (hs : MLe h0 (mem w0)) {k : Nat} {vn : Value} {n : (T3 Rat)} (rn : (rpT (rpQ k)).Is h0 vn n) (hcd0 : k ≤ 1000000000)  :
    Calls Tryz.prog 65 #[vn] w0 (Ret w0 h0 (fun h r => r = .tuple #[vI (↑(axI n) : Int), vI (↑(axJ n) : Int)])) := by
 refine zO (n := 29) (e := [(0, vn)]) (vs := [vn]) func65 rfl rfl (bL rfl) hs ⟨rfl, trivial⟩ (zC (zA (zJ (yU (ρ := (rpT (rpQ k))) rfl rn) rfl rfl rfl ?_)))
 intro v1 q1 hq1
 obtain ⟨b1, cs1, rfl, rfl, rb1⟩ := hq1
 refine asg (v := vI (0)) rfl rfl (asg (v := vI (0)) rfl rfl (zD (zB (zC (zC (zA (asg (v := vI (2)) rfl rfl (zD (zB (zQ (gc_loop1 (zC (zC ?_)))))))))))))
 refine zA (mv rfl rfl (gv (OpV.tr (by decide) (ov_geq_i (q := 0) rfl rfl)) rfl (zD (zB (xC rfl (zL (zB (zC (zQ (zC (zA (mv rfl rfl (gv ((zS (q := 1) rfl rfl (by omega) (by omega)).cv (show _ = vI (3) from rfl)) rfl ?_)))))))))))))
 refine gv ((ov_rem_i (q := 3) rfl rfl (by omega) (by omega)).cv (show _ = vI (0) from rfl)) rfl (mv rfl rfl (gv ((zS (q := 2) rfl rfl (by omega) (by omega)).cv (show _ = vI (4) from rfl)) rfl (gv ((ov_rem_i (q := 3) rfl rfl (by omega) (by omega)).cv (show _ = vI (1) from rfl)) rfl (asg rfl rfl (asg rfl rfl (zD (zK (e' := [(1, _), (4, _), (5, _), (6, _)]) e4z (zB (zC (zA (mv rfl rfl (gv ((zF (sz := 3) 2 underlying32 sizeOf30 rfl rfl rfl (by decide)).cv (show _ = vP b1 6 from congrArg (vP b1) (by rfl))) rfl (xQ (F := fun v_ => (rpQ k).Is h0 v_ n.z) (zE xA (Pc.tz (Pc.here _)) rfl rfl rb1 rfl) (yD (.head _)) rfl ?_)))))))))))))
 intro v19u1 r19u1
 refine zM (vs := [_]) rfl rfl rfl rfl call101 ⟨rfl, trivial⟩ (fun w hs => o_rat_sign hs r19u1 (by omega)) ?_
 intro v20u1 h1 hh1 r20u1
 obtain rfl : v20u1 = vI (sgnQ n.z) := r20u1
 have hsr20u1 := sgnQ_range n.z
 refine zD (zB (zQ (zC (zA (gv (ov_eql_i (q := 1) rfl rfl) rfl (asg rfl rfl (zD (zB ?_))))))))
 refine zP rfl (fun hc21 => ?_) (fun hc21 => ?_)
 ·
  refine zC (zA (mv rfl rfl (mv rfl rfl (asg rfl rfl (asg rfl rfl (zD (zK (e' := [(2, _), (3, _)]) e2z (zB (zR (gr_in (gr_in (yA (yA ?_)))))))))))))
  refine gr_in (yA (gq_body2 rfl rfl rfl ?_))
  have e1 : axI n = 0 := by unfold axI; simp only [sgn_one, sgn_mone] at *; grind
  have e2 : axJ n = 1 := by unfold axJ; simp only [sgn_one, sgn_mone] at *; grind
  rw [e1, e2]; rfl
 refine zC (zA (gv (ov_eql_i (q := -1) rfl rfl) rfl (asg rfl rfl (zD (zB ?_)))))
 refine zP rfl (fun hc25 => ?_) (fun hc25 => ?_)
 ·
  refine gc_keep (e' := [(5, _), (6, _)]) e2z (zC (zA (mv rfl rfl (mv rfl rfl (asg rfl rfl (asg rfl rfl (zD (zB (zR (gr_in (gr_in (yA (yA ?_)))))))))))))
  refine gr_in (yA (gq_body2 rfl rfl rfl ?_))
  have e1 : axI n = 1 := by unfold axI; simp only [sgn_one, sgn_mone] at *; grind
  have e2 : axJ n = 0 := by unfold axJ; simp only [sgn_one, sgn_mone] at *; grind
  rw [e1, e2]; rfl
 refine gc_keep (e' := [(1, _), (4, _)]) e2z (zL (yY (yY (zB (zA (mv rfl rfl (gv ((xE (q := 1) rfl rfl (by omega) (by omega)).cv (show _ = vI (1) from rfl)) rfl (asg rfl rfl (zD (xI (zC (zC (zA ?_)))))))))))))
 refine mv rfl rfl (gv (OpV.tr (by decide) (ov_geq_i (q := 0) rfl rfl)) rfl (zD (zB (xC rfl (zL (zB (zC (zQ (zC (zA (mv rfl rfl (gv ((zS (q := 1) rfl rfl (by omega) (by omega)).cv (show _ = vI (2) from rfl)) rfl (gv ((ov_rem_i (q := 3) rfl rfl (by omega) (by omega)).cv (show _ = vI (2) from rfl)) rfl ?_)))))))))))))
 refine mv rfl rfl (gv ((zS (q := 2) rfl rfl (by omega) (by omega)).cv (show _ = vI (3) from rfl)) rfl (gv ((ov_rem_i (q := 3) rfl rfl (by omega) (by omega)).cv (show _ = vI (0) from rfl)) rfl (asg rfl rfl (asg rfl rfl (zD (zK (e' := [(1, _), (4, _), (5, _), (6, _)]) e4z (zB (zC (zA (mv rfl rfl (gv ((zF (sz := 3) 1 underlying32 sizeOf30 rfl rfl rfl (by decide)).cv (show _ = vP b1 3 from congrArg (vP b1) (by rfl))) rfl ?_)))))))))))
 replace rb1 := rb1.mono hh1
 refine xQ (F := fun v_ => (rpQ k).Is h1 v_ n.y) (zE xA (Pc.ty (Pc.here _)) rfl rfl rb1 rfl) (yD (.head _)) rfl ?_
 intro v19u2 r19u2
 refine zM (vs := [_]) rfl rfl rfl rfl call101 ⟨rfl, trivial⟩ (fun w hs => o_rat_sign hs r19u2 (by omega)) ?_
 intro v20u2 h2 hh2 r20u2
 obtain rfl : v20u2 = vI (sgnQ n.y) := r20u2
 have hsr20u2 := sgnQ_range n.y
 refine zD (zB (zQ (zC (zA (gv (ov_eql_i (q := 1) rfl rfl) rfl (asg rfl rfl (zD (zB ?_))))))))
 refine zP rfl (fun hc21 => ?_) (fun hc21 => ?_)
 ·
  refine zC (zA (mv rfl rfl (mv rfl rfl (asg rfl rfl (asg rfl rfl (zD (zK (e' := [(2, _), (3, _)]) e2z (zB (zR (gr_in (gr_in (yA (yA ?_)))))))))))))
  refine gr_in (yA (gq_body2 rfl rfl rfl ?_))
  have e1 : axI n = 2 := by unfold axI; simp only [sgn_one, sgn_mone] at *; grind
  have e2 : axJ n = 0 := by unfold axJ; simp only [sgn_one, sgn_mone] at *; grind
  rw [e1, e2]; rfl
 refine zC (zA (gv (ov_eql_i (q := -1) rfl rfl) rfl (asg rfl rfl (zD (zB ?_)))))
 refine zP rfl (fun hc25 => ?_) (fun hc25 => ?_)
 ·
  refine gc_keep (e' := [(5, _), (6, _)]) e2z (zC (zA (mv rfl rfl (mv rfl rfl (asg rfl rfl (asg rfl rfl (zD (zB (zR (gr_in (gr_in (yA (yA ?_)))))))))))))
  refine gr_in (yA (gq_body2 rfl rfl rfl ?_))
  have e1 : axI n = 0 := by unfold axI; simp only [sgn_one, sgn_mone] at *; grind
  have e2 : axJ n = 2 := by unfold axJ; simp only [sgn_one, sgn_mone] at *; grind
  rw [e1, e2]; rfl
 refine gc_keep (e' := [(1, _), (4, _)]) e2z (zL (yY (yY (zB (zA (mv rfl rfl (gv ((xE (q := 1) rfl rfl (by omega) (by omega)).cv (show _ = vI (0) from rfl)) rfl (asg rfl rfl (zD (xI (zC (zC (zA ?_)))))))))))))
 refine mv rfl rfl (gv (OpV.tr (by decide) (ov_geq_i (q := 0) rfl rfl)) rfl (zD (zB (xC rfl (zL (zB (zC (zQ (zC (zA (mv rfl rfl (gv ((zS (q := 1) rfl rfl (by omega) (by omega)).cv (show _ = vI (1) from rfl)) rfl (gv ((ov_rem_i (q := 3) rfl rfl (by omega) (by omega)).cv (show _ = vI (1) from rfl)) rfl ?_)))))))))))))
 refine mv rfl rfl (gv ((zS (q := 2) rfl rfl (by omega) (by omega)).cv (show _ = vI (2) from rfl)) rfl (gv ((ov_rem_i (q := 3) rfl rfl (by omega) (by omega)).cv (show _ = vI (2) from rfl)) rfl (asg rfl rfl (asg rfl rfl (zD (zK (e' := [(1, _), (4, _), (5, _), (6, _)]) e4z (zB (zC (zA (mv rfl rfl (gv ((zF (sz := 3) 0 underlying32 sizeOf30 rfl rfl rfl (by decide)).cv (show _ = vP b1 0 from congrArg (vP b1) (by rfl))) rfl ?_)))))))))))
 replace rb1 := rb1.mono hh2
 refine xQ (F := fun v_ => (rpQ k).Is h2 v_ n.x) (zE xA (Pc.tx (Pc.here _)) rfl rfl rb1 rfl) (yD (.head _)) rfl ?_
 intro v19u3 r19u3
 refine zM (vs := [_]) rfl rfl rfl rfl call101 ⟨rfl, trivial⟩ (fun w hs => o_rat_sign hs r19u3 (by omega)) ?_
 intro v20u3 h3 hh3 r20u3
 obtain rfl : v20u3 = vI (sgnQ n.x) := r20u3
 have hsr20u3 := sgnQ_range n.x
 refine zD (zB (zQ (zC (zA (gv (ov_eql_i (q := 1) rfl rfl) rfl (asg rfl rfl (zD (zB ?_))))))))
 refine zP rfl (fun hc21 => ?_) (fun hc21 => ?_)
 ·
  refine zC (zA (mv rfl rfl (mv rfl rfl (asg rfl rfl (asg rfl rfl (zD (zK (e' := [(2, _), (3, _)]) e2z (zB (zR (gr_in (gr_in (yA (yA ?_)))))))))))))
  refine gr_in (yA (gq_body2 rfl rfl rfl ?_))
  have e1 : axI n = 1 := by unfold axI; simp only [sgn_one, sgn_mone] at *; grind
  have e2 : axJ n = 2 := by unfold axJ; simp only [sgn_one, sgn_mone] at *; grind
  rw [e1, e2]; rfl
 refine zC (zA (gv (ov_eql_i (q := -1) rfl rfl) rfl (asg rfl rfl (zD (zB ?_)))))
 refine zP rfl (fun hc25 => ?_) (fun hc25 => ?_)
 ·
  refine gc_keep (e' := [(5, _), (6, _)]) e2z (zC (zA (mv rfl rfl (mv rfl rfl (asg rfl rfl (asg rfl rfl (zD (zB (zR (gr_in (gr_in (yA (yA ?_)))))))))))))
  refine gr_in (yA (gq_body2 rfl rfl rfl ?_))
  have e1 : axI n = 2 := by unfold axI; simp only [sgn_one, sgn_mone] at *; grind
  have e2 : axJ n = 1 := by unfold axJ; simp only [sgn_one, sgn_mone] at *; grind
  rw [e1, e2]; rfl
 refine gc_keep (e' := [(1, _), (4, _)]) e2z (zL (yY (yY (zB (zA (mv rfl rfl (gv ((xE (q := 1) rfl rfl (by omega) (by omega)).cv (show _ = vI (-1) from rfl)) rfl (asg rfl rfl (zD (xI (zC (zC (zA ?_)))))))))))))
 refine mv rfl rfl (gv (OpV.fa (by decide) (ov_geq_i (q := 0) rfl rfl)) rfl (zD (zB (gc_cond_f rfl (xK (yE (yE (xJ (zB (zC (zA (asg (v := vI (1)) rfl rfl (asg (v := vI (2)) rfl rfl ?_)))))))))))))
 refine zD (zB (zR (gq_body2 rfl rfl rfl ?_)))
 have e1 : axI n = 1 := by unfold axI; simp only [sgn_one, sgn_mone] at *; grind
 have e2 : axJ n = 2 := by unfold axJ; simp only [sgn_one, sgn_mone] at *; grind
 rw [e1, e2]; rfl
theorem o_pg_lift {w0 : World} {h0 : Mem}  (hs : MLe h0 (mem w0)) {m l k : Nat} {vs : Value} {s : ((T3 Rat) × Rat)} (rs : (rpP (rpT (rpQ m)) (rpQ l)).Is h0 vs s) {vq : Value} {q : (T3 Rat)} (rq : (rpT (rpQ k)).Is h0 vq q) (hcd0 : k ≤ 1000000000) (hcd1 : l ≤ 1000000000) (hcd2 : m ≤ 1000000000)  :
    Calls Tryz.prog 72 #[vs, vq] w0 (Ret w0 h0 (fun h r => ∃ u0, r = .tuple #[u0, vB (¬ s.1.at (axK s.1) = 0)] ∧ (rpT (rpQ (4 * k + l + 4 * m + 9))).Is h u0 (liftZ s q))) := by
 have hax := ax_sum s.1
 refine zO (n := 67) (e := [(0, vs), (1, vq)]) (vs := [vs, vq]) func72 rfl rfl (bL rfl) hs e2z (zC (zA (zJ (yU (ρ := (rpP (rpT (rpQ m)) (rpQ l))) rfl rs) rfl rfl rfl ?_)))
 intro v2 q2 hq2
 obtain ⟨b2, cs2, rfl, rfl, rb2⟩ := hq2
 refine zJ (yU (ρ := (rpT (rpQ k))) rfl rq) rfl rfl rfl ?_
 intro v3 q3 hq3
 obtain ⟨b3, cs3, rfl, rfl, rb3⟩ := hq3
 refine zJ (yQ (ρ := (rpT (rpQ (4 * k + l + 4 * m + 9)))) (X := (T3.mk (0 : Rat) 0 0)) yI rfl rfl (zr_t (xS (by omega)))) rfl rfl rfl ?_
 intro v4 q4 hq4
 obtain ⟨b4, cs4, rfl, rfl, rb4⟩ := hq4
 refine asg rfl rfl (zD (zB (zC (zA (gv ((zI underlying34 rfl sizeOf32 rfl).cv (show _ = vP b2 0 from congrArg (vP b2) (by rfl))) rfl (xQ (F := fun v_ => (rpT (rpQ m)).Is h0 v_ s.1) (zE xF (Pc.fst (Pc.here _)) rfl rfl rb2 rfl) (yD (.tail _ (.tail _ (.head _)))) rfl ?_))))))
 intro v15 r15
 refine zM (vs := [_]) rfl rfl rfl rfl call65 ⟨rfl, trivial⟩ (fun w hs => o_pl_axes hs r15 (by omega)) ?_
 intro v16 h1 hh1 r16
 obtain rfl := r16
 refine mv rfl rfl (gv (zN (vs := [_, _]) rfl rfl) rfl (gv (zN (vs := [_, _]) rfl rfl) rfl (asg rfl rfl (asg rfl rfl (zD (zB (zC (zA (mv rfl rfl (gv (xE (p := 3) rfl rfl (by omega) (by omega)) rfl (mv rfl rfl (gv (xE rfl rfl (by omega) (by omega)) rfl (asg rfl rfl ?_)))))))))))))
 refine zD (zK (e' := [(2, _), (3, _), (4, _), (6, _), (7, _), (8, _)]) e6 (zB (zC ?_)))
 refine yG 19 _ [(18, (9, 30, [.bool false, .slice none 0 0, .slice none 0 0]))] [(0, .q), (1, .q), (2, .q), (3, .q), (4, .q), (5, .q), (6, .q), (7, .q), (9, .q), (10, .q), (11, .q), (12, .q), (13, .q), (14, .q), (8, .c), (15, .c), (16, .c), (17, .c), (18, .a), (19, .t)] xG (AlOk.cons rfl rfl (zero_run info30 rfl rfl) AlOk.nil) (chk_of [0, 1, 0, 0, 12, 16, 0, 64, 160, 0, 0, 1536, 2048, 0, 8192, 20736, 33024, 65538, 0, 524287] [1048575, 1048574, 1048575, 1048575, 1048563, 1048559, 1048575, 1048511, 1048415, 1048575, 1048575, 1047039, 1046527, 1048575, 1040383, 1028095, 1015551, 983037, 1048575, 655359] (by kernel_rfl)) (hae_cons rfl rfl hae_nil) (fun r hr => hr) (w_q rfl (fun h' L' hh hR => (zI underlying34 rfl sizeOf30 rfl).cv (show _ = vP b2 9 from congrArg (vP b2) (by rfl))) rfl ?_)
 replace rb2 := rb2.mono hh1
 refine yO (F := fun v_ => (rpQ l).Is h1 v_ s.2) rfl (zE xA (Pc.snd (Pc.here _)) rfl rfl rb2 rfl) (yD (.tail _ (.tail _ (.head _)))) rfl ?_
 intro v24 r24
 refine w_q rfl (fun h' L' hh hR => zH rfl) rfl (w_q rfl (fun h' L' hh hR => (zI underlying34 rfl sizeOf32 rfl).cv (show _ = vP b2 0 from congrArg (vP b2) (by rfl))) rfl (w_q rfl (fun h' L' hh hR => (zF (sz := 3) (axI s.1) underlying32 sizeOf30 rfl rfl (by rfl) (by exact axI_lt _)).cv (show _ = vP b2 (((axI s.1) * 3 + 0)) from congrArg (vP b2) (by omega))) rfl (yO (F := fun v_ => (rpQ m).Is h1 v_ (s.1.at (axI s.1))) rfl (zE xA (Pc.fst (Pc.ta (Pc.here _) (axI s.1) (by exact axI_lt _))) rfl rfl rb2 rfl) (yD (.tail _ (.tail _ (.head _)))) rfl ?_)))
 intro v28 r28
 refine w_q rfl (fun h' L' hh hR => (zF (sz := 3) (q := 0) 0 underlying32 sizeOf30 rfl rfl rfl (by decide)).cv (show _ = vP b3 0 from congrArg (vP b3) (by rfl))) rfl ?_
 replace rb3 := rb3.mono hh1
 refine yO (F := fun v_ => (rpQ k).Is h1 v_ q.x) rfl (zE xA (Pc.tx (Pc.here _)) rfl rfl rb3 rfl) (yD (.tail _ (.head _))) rfl ?_
 intro v30 r30
 refine w_q rfl (fun h' L' hh hR => zH rfl) rfl (w_q rfl (fun h' L' hh hR => (zI underlying34 rfl sizeOf32 rfl).cv (show _ = vP b2 0 from congrArg (vP b2) (by rfl))) rfl (w_q rfl (fun h' L' hh hR => (zF (sz := 3) (axJ s.1) underlying32 sizeOf30 rfl rfl (by rfl) (by exact axJ_lt _)).cv (show _ = vP b2 (((axJ s.1) * 3 + 0)) from congrArg (vP b2) (by omega))) rfl (yO (F := fun v_ => (rpQ m).Is h1 v_ (s.1.at (axJ s.1))) rfl (zE xA (Pc.fst (Pc.ta (Pc.here _) (axJ s.1) (by exact axJ_lt _))) rfl rfl rb2 rfl) (yD (.tail _ (.tail _ (.head _)))) rfl ?_)))
 intro v35 r35
 refine w_q rfl (fun h' L' hh hR => (zF (sz := 3) (q := 1) 1 underlying32 sizeOf30 rfl rfl rfl (by decide)).cv (show _ = vP b3 3 from congrArg (vP b3) (by rfl))) rfl (yO (F := fun v_ => (rpQ k).Is h1 v_ q.y) rfl (zE xA (Pc.ty (Pc.here _)) rfl rfl rb3 rfl) (yD (.tail _ (.head _))) rfl ?_)
 intro v37 r37
 refine w_c rfl ?_
 refine zY (vs := [_, _]) call103 e2z (fun w hs => o_rat_mul hs r28 r30 (by omega)) rfl ?_
 intro v31 h2 hh2 r31
 change (rpQ (m + k)).Is h2 v31 ((s.1.at (axI s.1)) * q.x) at r31
 replace r31 := Rp.Is.le r31 (Le.q (l := k + m) (by omega))
 refine w_c rfl ?_
 replace r35 := r35.mono hh2
 replace r37 := r37.mono hh2
 refine zY (vs := [_, _]) call103 e2z (fun w hs => o_rat_mul hs r35 r37 (by omega)) rfl ?_
 intro v38 h3 hh3 r38
 change (rpQ (m + k)).Is h3 v38 ((s.1.at (axJ s.1)) * q.y) at r38
 replace r38 := Rp.Is.le r38 (Le.q (l := k + m) (by omega))
 refine w_c rfl ?_
 replace r31 := r31.mono hh3
 refine zY (vs := [_, _]) call71 e2z (fun w hs => o_rat_add hs r31 r38 (by omega)) rfl ?_
 intro v39 h4 hh4 r39
 change (rpQ ((k + m) + (k + m) + 1)).Is h4 v39 (((s.1.at (axI s.1)) * q.x) + ((s.1.at (axJ s.1)) * q.y)) at r39
 replace r39 := Rp.Is.le r39 (Le.q (l := 2 * k + 2 * m + 1) (by omega))
 refine w_c rfl ?_
 replace r24 := r24.mono ((hh2.trans hh3).trans hh4)
 refine zY (vs := [_, _]) call70 e2z (fun w hs => o_rat_sub hs r24 r39 (by omega)) rfl ?_
 intro v40 h5 hh5 r40
 change (rpQ (l + (2 * k + 2 * m + 1) + 1)).Is h5 v40 (s.2 - (((s.1.at (axI s.1)) * q.x) + ((s.1.at (axJ s.1)) * q.y))) at r40
 replace r40 := Rp.Is.le r40 (Le.q (l := 2 * k + l + 2 * m + 2) (by omega))
 refine w_a rfl rfl (fun b9 => ?_)
 have rb9 : (rpQ (2 * k + l + 2 * m + 9)).R h5 [.bool false, .slice none 0 0, .slice none 0 0] (0 : Rat) := (xS (by omega))
 refine yV (A := []) (F := fun c_ => (rpQ (2 * k + l + 2 * m + 9)).R h5 c_ (s.2 - (((s.1.at (axI s.1)) * q.x) + ((s.1.at (axJ s.1)) * q.y)))) rfl (zX sizeOf30 (Pc.here _) rfl rfl rfl rb9 (r40.le (Le.q (l := 2 * k + l + 2 * m + 9) (by omega))) rfl) ?_
 intro cs_1 rb_2
 refine yZ (zK (e' := [(2, _), (3, _), (4, _), (6, _), (7, _), (8, _), (9, _)]) e7 (zB (zC ?_)))
 refine yG 12 _ [(9, (10, 30, [.bool false, .slice none 0 0, .slice none 0 0]))] [(0, .q), (1, .q), (2, .q), (3, .q), (4, .q), (5, .c), (6, .q), (7, .q), (8, .q), (9, .a), (10, .c), (11, .q)] xG (AlOk.cons rfl rfl (zero_run info30 rfl rfl) AlOk.nil) (chk_of [0, 0, 0, 6, 8, 17, 32, 64, 64, 0, 767, 2047] [4095, 4095, 4095, 4089, 4087, 4078, 4063, 4031, 4031, 4095, 3455, 3839] (by kernel_rfl)) (hae_cons rfl rfl hae_nil) (fun r hr => hr) (yO (F := fun v_ => (rpQ (2 * k + l + 2 * m + 9)).Is h5 v_ (s.2 - (((s.1.at (axI s.1)) * q.x) + ((s.1.at (axJ s.1)) * q.y)))) rfl (zE xA (Pc.here _) rfl rfl rb_2 rfl) (yD (.head _)) rfl ?_)
 intro v42 r42
 refine w_q rfl (fun h' L' hh hR => zH rfl) rfl (w_q rfl (fun h' L' hh hR => (zI underlying34 rfl sizeOf32 rfl).cv (show _ = vP b2 0 from congrArg (vP b2) (by rfl))) rfl (w_q rfl (fun h' L' hh hR => (zF (sz := 3) (axK s.1) underlying32 sizeOf30 rfl rfl (by omega) (by exact axK_lt _)).cv (show _ = vP b2 (((axK s.1) * 3 + 0)) from congrArg (vP b2) (by omega))) rfl ?_))
 replace rb2 := rb2.mono (((hh2.trans hh3).trans hh4).trans hh5)
 refine yO (F := fun v_ => (rpQ m).Is h5 v_ (s.1.at (axK s.1))) rfl (zE xA (Pc.fst (Pc.ta (Pc.here _) (axK s.1) (by exact axK_lt _))) rfl rfl rb2 rfl) (yD (.tail _ (.tail _ (.tail _ (.head _))))) rfl ?_
 intro v46 r46
 refine w_c rfl ?_
 refine zY (vs := [_, _]) call110 e2z (fun w hs => o_rat_quo hs r42 r46 (by omega)) rfl ?_
 intro v47 h6 hh6 r47
 obtain ⟨v47_0, rfl, r47_0⟩ := r47
 change (rpQ ((2 * k + l + 2 * m + 9) + m)).Is h6 v47_0 (if (s.1.at (axK s.1)) = 0 then 0 else (s.2 - (((s.1.at (axI s.1)) * q.x) + ((s.1.at (axJ s.1)) * q.y))) / (s.1.at (axK s.1))) at r47_0
 replace r47_0 := Rp.Is.le r47_0 (Le.q (l := 2 * k + l + 3 * m + 9) (by omega))
 refine w_q rfl (fun h' L' hh hR => zH rfl) rfl (w_q rfl (fun h' L' hh hR => zN (vs := [_, _]) rfl rfl) rfl (w_q rfl (fun h' L' hh hR => zN (vs := [_, _]) rfl rfl) rfl ?_))
 refine w_a rfl rfl (fun b10 => ?_)
 have rb10 : (rpQ (4 * k + l + 4 * m + 9)).R h6 [.bool false, .slice none 0 0, .slice none 0 0] (0 : Rat) := (xS (by omega))
 refine w_c rfl (s_updx (A := []) (F := fun c_ => (rpQ (4 * k + l + 4 * m + 9)).R h6 c_ (if (s.1.at (axK s.1)) = 0 then 0 else (s.2 - (((s.1.at (axI s.1)) * q.x) + ((s.1.at (axJ s.1)) * q.y))) / (s.1.at (axK s.1)))) (zX sizeOf30 (Pc.here _) rfl rfl rfl rb10 (r47_0.le (Le.q (l := 4 * k + l + 4 * m + 9) (by omega))) rfl) (mem_kept (by first | (simp; done) | grind)) ?_)
 intro cs_3 rb_4
 refine w_q rfl (fun h' L' hh hR => yK rfl) rfl (yZ (zK (e' := [(3, _), (4, _), (6, _), (7, _), (8, _), (10, _), (11, _)]) e7 (zB (zC (zC (zA (mv rfl rfl (gv (ov_neq_i (q := 0) rfl rfl) rfl (zD (zB ?_))))))))))
 refine zP rfl (fun hc51 => ?_) (fun hc51 => ?_)
 ·
  have hz : s.1.at (axK s.1) = 0 := by have h := hc51; grind
  refine zC (zA (xQ (F := fun v_ => (rpT (rpQ 1)).Is h6 v_ (T3.mk (0 : Rat) 0 0)) (ox_build_arr (ps' := []) underlying32 yI rfl rfl sizeOf30 trivial rfl (zr_t (xS (by decide))) fx_nil) mem0 rfl ?_))
  intro v52 r52
  replace rb4 := rb4.mono (((((hh1.trans hh2).trans hh3).trans hh4).trans hh5).trans hh6)
  refine xO (A := [_, _]) (F := fun c_ => (rpT (rpQ (4 * k + l + 4 * m + 9))).R h6 c_ (T3.mk (0 : Rat) 0 0)) (zX sizeOf32 (Pc.here _) rfl rfl rfl rb4 (r52.le (Le.t (Le.q (l := 4 * k + l + 4 * m + 9) (by omega)))) rfl) ?_
  intro cs_5 rb_6
  refine asg rfl rfl (zD (zB (zR (yA (gq_exv (rv_o (t := 4) xF (.tail _ (.tail _ (.head _))) rfl rb_6) ?_)))))
  intro w_7 hvw_7 rr_8
  refine xM (fun E S => run_res2 rfl hvw_7 (rv_tmp rfl) E S) ?_
  refine ⟨_, ?_, (Rp.Is.cast rr_8 (by exact (if_pos hz).symm))⟩
  rw [xD (fun e => e hz)]
 have hz : ¬ s.1.at (axK s.1) = 0 := by have h := hc51; grind
 refine zL (zB (zC (zA (zJ (yQ (ρ := (rpT (rpQ (4 * k + l + 4 * m + 9)))) (X := (T3.mk (0 : Rat) 0 0)) yI rfl rfl (zr_t (xS (by omega)))) rfl rfl rfl ?_))))
 intro v12 q12 hq12
 obtain ⟨b12, cs12, rfl, rfl, rb12⟩ := hq12
 refine zD (zB (zC ?_))
 refine gc_draw1 (A := []) 16 [] [(0, .q), (1, .q), (2, .q), (3, .q), (4, .q), (6, .q), (7, .q), (9, .q), (5, .c), (10, .q), (8, .c), (11, .c), (12, .q), (13, .c), (14, .q), (15, .c)] xG nX (chk_of [0, 0, 0, 0, 8, 16, 0, 64, 160, 0, 57, 1337, 3579, 7675, 16383, 32767] [65535, 65535, 65535, 65535, 65527, 65519, 65535, 65471, 65407, 65535, 65534, 64479, 65533, 61183, 65531, 48639] (by kernel_rfl)) nX (w_q rfl (fun h' L' hh hR => zH rfl) rfl (w_q rfl (fun h' L' hh hR => zH rfl) rfl (w_q rfl (fun h' L' hh hR => zH rfl) rfl (w_q rfl (fun h' L' hh hR => (zF (sz := 3) (q := 0) 0 underlying32 sizeOf30 rfl rfl rfl (by decide)).cv (show _ = vP b3 0 from congrArg (vP b3) (by rfl))) rfl ?_))))
 replace rb3 := rb3.mono ((((hh2.trans hh3).trans hh4).trans hh5).trans hh6)
 refine yO (F := fun v_ => (rpQ k).Is h6 v_ q.x) rfl (zE xA (Pc.tx (Pc.here _)) rfl rfl rb3 rfl) (yD (.tail _ (.tail _ (.tail _ (.head _))))) rfl ?_
 intro v57 r57
 refine w_q rfl (fun h' L' hh hR => (zF (sz := 3) (q := 1) 1 underlying32 sizeOf30 rfl rfl rfl (by decide)).cv (show _ = vP b3 3 from congrArg (vP b3) (by rfl))) rfl (yO (F := fun v_ => (rpQ k).Is h6 v_ q.y) rfl (zE xA (Pc.ty (Pc.here _)) rfl rfl rb3 rfl) (yD (.tail _ (.tail _ (.tail _ (.head _))))) rfl ?_)
 intro v60 r60
 refine yO (F := fun v_ => (rpQ (4 * k + l + 4 * m + 9)).Is h6 v_ (if (s.1.at (axK s.1)) = 0 then 0 else (s.2 - (((s.1.at (axI s.1)) * q.x) + ((s.1.at (axJ s.1)) * q.y))) / (s.1.at (axK s.1)))) rfl (zE xA (Pc.here _) rfl rfl rb_4 rfl) (yD (.head _)) rfl ?_
 intro v62 r62
 refine w_c rfl ?_
 refine zY (vs := [_]) call111 ⟨rfl, trivial⟩ (fun w hs => o_own_rat hs r57 (by omega)) rfl ?_
 intro v58 h7 hh7 r58
 change (rpQ k).Is h7 v58 q.x at r58
 refine w_q rfl (fun h' L' hh hR => (zF (sz := 3) (axI s.1) underlying32 sizeOf30 rfl rfl (by rfl) (by exact axI_lt _)).cv (show _ = vP b12 (((axI s.1) * 3 + 0)) from congrArg (vP b12) (by omega))) rfl ?_
 refine w_c rfl ?_
 replace r60 := r60.mono hh7
 refine zY (vs := [_]) call111 ⟨rfl, trivial⟩ (fun w hs => o_own_rat hs r60 (by omega)) rfl ?_
 intro v61 h8 hh8 r61
 change (rpQ k).Is h8 v61 q.y at r61
 refine w_c rfl ?_
 replace rb12 := rb12.mono (hh7.trans hh8)
 replace r58 := r58.mono hh8
 refine s_updx (A := []) (F := fun c_ => (rpT (rpQ (4 * k + l + 4 * m + 9))).R h8 c_ ((T3.mk (0 : Rat) 0 0).set (axI s.1) q.x)) (zX sizeOf30 (Pc.ta (Pc.here _) (axI s.1) (by exact axI_lt _)) rfl rfl rfl rb12 (r58.le (Le.q (l := 4 * k + l + 4 * m + 9) (by omega))) rfl) (mem_kept (by first | (simp; done) | grind)) ?_
 intro cs_9 rb_10
 refine w_q rfl (fun h' L' hh hR => (zF (sz := 3) (axJ s.1) underlying32 sizeOf30 rfl rfl (by rfl) (by exact axJ_lt _)).cv (show _ = vP b12 (((axJ s.1) * 3 + 0)) from congrArg (vP b12) (by omega))) rfl ?_
 refine w_c rfl (s_updx (A := []) (F := fun c_ => (rpT (rpQ (4 * k + l + 4 * m + 9))).R h8 c_ (((T3.mk (0 : Rat) 0 0).set (axI s.1) q.x).set (axJ s.1) q.y)) (zX sizeOf30 (Pc.ta (Pc.here _) (axJ s.1) (by exact axJ_lt _)) rfl rfl rfl rb_10 (r61.le (Le.q (l := 4 * k + l + 4 * m + 9) (by omega))) rfl) (mem_kept (by first | (simp; done) | grind)) ?_)
 intro cs_11 rb_12
 refine w_q rfl (fun h' L' hh hR => (zF (sz := 3) (axK s.1) underlying32 sizeOf30 rfl rfl (by omega) (by exact axK_lt _)).cv (show _ = vP b12 (((axK s.1) * 3 + 0)) from congrArg (vP b12) (by omega))) rfl ?_
 refine w_c rfl ?_
 replace r62 := r62.mono (hh7.trans hh8)
 refine s_updx (A := []) (F := fun c_ => (rpT (rpQ (4 * k + l + 4 * m + 9))).R h8 c_ ((((T3.mk (0 : Rat) 0 0).set (axI s.1) q.x).set (axJ s.1) q.y).set (axK s.1) (if (s.1.at (axK s.1)) = 0 then 0 else (s.2 - (((s.1.at (axI s.1)) * q.x) + ((s.1.at (axJ s.1)) * q.y))) / (s.1.at (axK s.1))))) (zX sizeOf30 (Pc.ta (Pc.here _) (axK s.1) (by exact axK_lt _)) rfl rfl rfl rb_12 r62 rfl) (mem_kept (by first | (simp; done) | grind)) ?_
 intro cs_13 rb_14
 refine yZ (zK (e' := [(4, _), (12, _)]) e2z (zB (zC (zA (xQ (F := fun v_ => (rpT (rpQ (4 * k + l + 4 * m + 9))).Is h8 v_ ((((T3.mk (0 : Rat) 0 0).set (axI s.1) q.x).set (axJ s.1) q.y).set (axK s.1) (if (s.1.at (axK s.1)) = 0 then 0 else (s.2 - (((s.1.at (axI s.1)) * q.x) + ((s.1.at (axJ s.1)) * q.y))) / (s.1.at (axK s.1))))) (zE xF (Pc.here _) rfl rfl rb_14 rfl) (yD (.head _)) rfl ?_)))))
 intro v66 r66
 replace rb4 := rb4.mono (((((((hh1.trans hh2).trans hh3).trans hh4).trans hh5).trans hh6).trans hh7).trans hh8)
 refine xO (A := [_, _, _]) (F := fun c_ => (rpT (rpQ (4 * k + l + 4 * m + 9))).R h8 c_ ((((T3.mk (0 : Rat) 0 0).set (axI s.1) q.x).set (axJ s.1) q.y).set (axK s.1) (if (s.1.at (axK s.1)) = 0 then 0 else (s.2 - (((s.1.at (axI s.1)) * q.x) + ((s.1.at (axJ s.1)) * q.y))) / (s.1.at (axK s.1))))) (zX sizeOf32 (Pc.here _) rfl rfl rfl rb4 r66 rfl) ?_
 intro cs_15 rb_16
 refine asg rfl rfl (zD (zB (zR (gq_exv (rv_o (t := 4) xF (.tail _ (.tail _ (.tail _ (.head _)))) rfl rb_16) ?_))))
 intro w_17 hvw_17 rr_18
 refine xM (fun E S => run_res2 rfl hvw_17 (rv_tmp rfl) E S) ?_
 refine ⟨_, ?_, (Rp.Is.cast rr_18 (by exact (if_neg hz).symm))⟩
 rw [vB_true hz]
theorem o_r4_same {w0 : World} {h0 : Mem}  (hs : MLe h0 (mem w0)) {k l : Nat} {va : Value} {a : (T3 Rat)} (ra : (rpT (rpQ k)).Is h0 va a) {vb : Value} {b : (T3 Rat)} (rb : (rpT (rpQ l)).Is h0 vb b) (hcd0 : k + l ≤ 1000000000)  :
    Calls Tryz.prog 29 #[va, vb] w0 (Ret w0 h0 (fun _ r => r = vB (a = b))) := by
 refine zO (n := 24) (e := [(0, va), (1, vb)]) (vs := [va, vb]) func29 rfl rfl (bL rfl) hs e2z (zC (zA (zJ (yU (ρ := (rpT (rpQ k))) rfl ra) rfl rfl rfl ?_)))
 intro v2 q2 hq2
 obtain ⟨b2, cs2, rfl, rfl, rb2⟩ := hq2
 refine zJ (yU (ρ := (rpT (rpQ l))) rfl rb) rfl rfl rfl ?_
 intro v3 q3 hq3
 obtain ⟨b3, cs3, rfl, rfl, rb3⟩ := hq3
 refine asg rfl rfl (zD (zB (zC (zA (gv ((zF (sz := 3) (q := 0) 0 underlying32 sizeOf30 rfl rfl rfl (by decide)).cv (show _ = vP b2 0 from congrArg (vP b2) (by rfl))) rfl (xQ (F := fun v_ => (rpQ k).Is h0 v_ a.x) (zE xA (Pc.tx (Pc.here _)) rfl rfl rb2 rfl) (yD (.tail _ (.head _))) rfl ?_))))))
 intro v6 r6
 refine gv ((zF (sz := 3) (q := 0) 0 underlying32 sizeOf30 rfl rfl rfl (by decide)).cv (show _ = vP b3 0 from congrArg (vP b3) (by rfl))) rfl (xQ (F := fun v_ => (rpQ l).Is h0 v_ b.x) (zE xA (Pc.tx (Pc.here _)) rfl rfl rb3 rfl) (yD (.head _)) rfl ?_)
 intro v8 r8
 refine zM (vs := [_, _]) rfl rfl rfl rfl call62 e2z (fun w hs => o_rref_same hs r6 r8 (by omega)) ?_
 intro v9 h1 hh1 r9
 obtain rfl : v9 = vB (a.x = b.x) := r9
 refine gl_cut (ι := Mem) 7 (fun m_ => MLe h1 m_) (fun _ => [(16, vB ((a.x = b.x) ∧ (a.y = b.y))), (2, vP b2 0), (3, vP b3 0)]) (fun _ => [.var b3 32 cs3, .var b2 32 cs2]) (fun m_ => m_) ?_ ?_
 ·
  refine gl_cases (a.x = b.x) (fun hg => ?_) (fun hg => ?_)
  ·
   refine gl_val (zH (v := .bool true) (congrArg some (vB_true hg))) rfl rfl rfl (yX rfl rfl rfl (gv ((zF (sz := 3) (q := 1) 1 underlying32 sizeOf30 rfl rfl rfl (by decide)).cv (show _ = vP b2 3 from congrArg (vP b2) (by rfl))) rfl (yX rfl rfl rfl ?_)))
   replace rb2 := rb2.mono hh1
   refine xQ (F := fun v_ => (rpQ k).Is h1 v_ a.y) (zE xA (Pc.ty (Pc.here _)) rfl rfl rb2 rfl) (yD (.tail _ (.head _))) rfl ?_
   intro v12 r12
   refine yX rfl rfl rfl (gv ((zF (sz := 3) (q := 1) 1 underlying32 sizeOf30 rfl rfl rfl (by decide)).cv (show _ = vP b3 3 from congrArg (vP b3) (by rfl))) rfl (yX rfl rfl rfl ?_))
   replace rb3 := rb3.mono hh1
   refine xQ (F := fun v_ => (rpQ l).Is h1 v_ b.y) (zE xA (Pc.ty (Pc.here _)) rfl rfl rb3 rfl) (yD (.head _)) rfl ?_
   intro v14 r14
   refine yX rfl rfl rfl ?_
   refine zM (vs := [_, _]) rfl rfl rfl rfl call62 e2z (fun w hs => o_rref_same hs r12 r14 (by omega)) ?_
   intro v15 h2 hh2 r15
   obtain rfl : v15 = vB (a.y = b.y) := r15
   refine gv (xU rfl rfl) rfl (zD ?_)
   refine yR h2 hh2 ⟨?_, rfl, rfl, trivial⟩ rfl rfl
   exact congrArg some (vB_and_t hg)
  refine gl_val (zH (v := .bool false) (congrArg some (xD hg))) rfl rfl rfl (yM rfl rfl rfl rfl rfl rfl (yM rfl rfl rfl rfl rfl rfl (yM rfl rfl rfl rfl rfl rfl (yM rfl rfl rfl rfl rfl rfl (yM rfl rfl rfl rfl rfl rfl (gv (ov_pick_f rfl rfl) rfl (zD ?_)))))))
  refine yR h1 (MLe.refl _) ⟨?_, rfl, rfl, trivial⟩ rfl rfl
  exact congrArg some (vB_and_f hg)
 intro mg1_5 hmmg1_5
 show GL _ _ _ _ _ _ _ [(16, vB ((a.x = b.x) ∧ (a.y = b.y))), (2, vP b2 0), (3, vP b3 0)] [.var b3 32 cs3, .var b2 32 cs2] mg1_5
 refine gl_cut (ι := Mem) 7 (fun m_ => MLe mg1_5 m_) (fun _ => [(23, vB (((a.x = b.x) ∧ (a.y = b.y)) ∧ (a.z = b.z)))]) (fun _ => [.var b3 32 cs3, .var b2 32 cs2]) (fun m_ => m_) ?_ ?_
 ·
  refine gl_cases ((a.x = b.x) ∧ (a.y = b.y)) (fun hg => ?_) (fun hg => ?_)
  ·
   refine gl_val (zH (v := .bool true) (congrArg some (vB_true hg))) rfl rfl rfl (yX rfl rfl rfl (gv ((zF (sz := 3) (q := 2) 2 underlying32 sizeOf30 rfl rfl rfl (by decide)).cv (show _ = vP b2 6 from congrArg (vP b2) (by rfl))) rfl (yX rfl rfl rfl ?_)))
   replace rb2 := rb2.mono (hh1.trans hmmg1_5)
   refine xQ (F := fun v_ => (rpQ k).Is mg1_5 v_ a.z) (zE xA (Pc.tz (Pc.here _)) rfl rfl rb2 rfl) (yD (.tail _ (.head _))) rfl ?_
   intro v19 r19
   refine yX rfl rfl rfl (gv ((zF (sz := 3) (q := 2) 2 underlying32 sizeOf30 rfl rfl rfl (by decide)).cv (show _ = vP b3 6 from congrArg (vP b3) (by rfl))) rfl (yX rfl rfl rfl ?_))
   replace rb3 := rb3.mono (hh1.trans hmmg1_5)
   refine xQ (F := fun v_ => (rpQ l).Is mg1_5 v_ b.z) (zE xA (Pc.tz (Pc.here _)) rfl rfl rb3 rfl) (yD (.head _)) rfl ?_
   intro v21 r21
   refine yX rfl rfl rfl ?_
   refine zM (vs := [_, _]) rfl rfl rfl rfl call62 e2z (fun w hs => o_rref_same hs r19 r21 (by omega)) ?_
   intro v22 h2 hh2 r22
   obtain rfl : v22 = vB (a.z = b.z) := r22
   refine gv (xU rfl rfl) rfl (zD ?_)
   refine yR h2 hh2 ⟨?_, trivial⟩ rfl rfl
   exact congrArg some (vB_and_t hg)
  refine gl_val (zH (v := .bool false) (congrArg some (xD hg))) rfl rfl rfl (yM rfl rfl rfl rfl rfl rfl (yM rfl rfl rfl rfl rfl rfl (yM rfl rfl rfl rfl rfl rfl (yM rfl rfl rfl rfl rfl rfl (yM rfl rfl rfl rfl rfl rfl (gv (ov_pick_f rfl rfl) rfl (zD ?_)))))))
  refine yR mg1_5 (MLe.refl _) ⟨?_, trivial⟩ rfl rfl
  exact congrArg some (vB_and_f hg)
 intro mg1_12 hmmg1_12
 show GL _ _ _ _ _ _ _ [(23, vB (((a.x = b.x) ∧ (a.y = b.y)) ∧ (a.z = b.z)))] [.var b3 32 cs3, .var b2 32 cs2] mg1_12
 refine asg rfl rfl (zD (zB (zR (yJ rfl rfl ?_))))
 first | exact vB_iff (by rw [t3_eq]; grind) | exact (vB_true (by rw [t3_eq]; grind)).symm | exact (xD (by rw [t3_eq]; grind)).symm
theorem o_r4_zero {w0 : World} {h0 : Mem}  (hs : MLe h0 (mem w0)) {k : Nat} {va : Value} {a : (T3 Rat)} (ra : (rpT (rpQ k)).Is h0 va a) (hcd0 : k ≤ 1000000)  :
    Calls Tryz.prog 41 #[va] w0 (Ret w0 h0 (fun _ r => r = vB (a = (T3.mk (0 : Rat) 0 0)))) := by
 refine zO (n := 6) (e := [(0, va)]) (vs := [va]) func41 rfl rfl (bL rfl) hs ⟨rfl, trivial⟩ (zC (zA (zJ (yU (ρ := (rpT (rpQ k))) rfl ra) rfl rfl rfl ?_)))
 intro v1 q1 hq1
 obtain ⟨b1, cs1, rfl, rfl, rb1⟩ := hq1
 refine asg rfl rfl (zD (zB (zC (zA (xQ (F := fun v_ => (rpT (rpQ k)).Is h0 v_ a) (zE xF (Pc.here _) rfl rfl rb1 rfl) (yD (.head _)) rfl ?_)))))
 intro v3 r3
 refine xQ (F := fun v_ => (rpT (rpQ 1)).Is h0 v_ (T3.mk (0 : Rat) 0 0)) (ox_build_arr (ps' := []) underlying32 yI rfl rfl sizeOf30 trivial rfl (zr_t (xS (by decide))) fx_nil) mem0 rfl ?_
 intro v4 r4
 refine zM (vs := [_, _]) rfl rfl rfl rfl call29 e2z (fun w hs => o_r4_same hs r3 r4 (by omega)) ?_
 intro v5 h1 hh1 r5
 obtain rfl : v5 = vB (a = (T3.mk (0 : Rat) 0 0)) := r5
 refine asg rfl rfl (zD (zB (zR (yJ rfl rfl ?_))))
 rfl
theorem o_r4_dot {w0 : World} {h0 : Mem}  (hs : MLe h0 (mem w0)) {k l : Nat} {va : Value} {a : (T3 Rat)} (ra : (rpT (rpQ k)).Is h0 va a) {vb : Value} {b : (T3 Rat)} (rb : (rpT (rpQ l)).Is h0 vb b) (hcd0 : k + l ≤ 1000000000)  :
    Calls Tryz.prog 57 #[va, vb] w0 (Ret w0 h0 (fun h r => (rpQ (3 * k + 3 * l + 9)).Is h r (dotT a b))) := by
 refine zO (n := 21) (e := [(0, va), (1, vb)]) (vs := [va, vb]) func57 rfl rfl (bL rfl) hs e2z (zC (zA (zJ (yU (ρ := (rpT (rpQ k))) rfl ra) rfl rfl rfl ?_)))
 intro v2 q2 hq2
 obtain ⟨b2, cs2, rfl, rfl, rb2⟩ := hq2
 refine zJ (yU (ρ := (rpT (rpQ l))) rfl rb) rfl rfl rfl ?_
 intro v3 q3 hq3
 obtain ⟨b3, cs3, rfl, rfl, rb3⟩ := hq3
 refine zJ (yQ (ρ := (rpQ (3 * k + 3 * l + 9))) (X := (0 : Rat)) info30 rfl rfl (xS (by omega))) rfl rfl rfl ?_
 intro v4 q4 hq4
 obtain ⟨b4, cs4, rfl, rfl, rb4⟩ := hq4
 refine zD (zB (zC (zA (zJ (yQ (ρ := (rpQ 1)) (X := (0 : Rat)) info30 rfl rfl (xS (by decide))) rfl rfl rfl ?_))))
 intro v5 q5 hq5
 obtain ⟨b5, cs5, rfl, rfl, rb5⟩ := hq5
 refine zD (zB (zC (zC (zA (asg (v := vI (0)) rfl rfl (zD (zB (zQ (gc_loop1 (zC (zC (zA (mv rfl rfl ?_)))))))))))))
 refine gv (OpV.tr (by decide) (zW (q := 3) rfl rfl)) rfl (zD (zB (xC rfl (zL (zB (zC (zQ ?_)))))))
 refine yG 9 _ [] [(0, .q), (1, .q), (2, .q), (3, .q), (4, .q), (5, .q), (6, .q), (7, .c), (8, .c), (9, .t)] xG nX (by kernel_rfl) nX (fun r hr => hr) (yO (F := fun v_ => (rpQ 1).Is h0 v_ (0 : Rat)) rfl (zE xA (Pc.here _) rfl rfl rb5 rfl) (yD (.head _)) rfl ?_)
 intro v11u5 r11u5
 refine w_q rfl (fun h' L' hh hR => zH rfl) rfl (w_q rfl (fun h' L' hh hR => (zF (sz := 3) 0 underlying32 sizeOf30 rfl rfl rfl (by decide)).cv (show _ = vP b2 0 from congrArg (vP b2) (by rfl))) rfl (yO (F := fun v_ => (rpQ k).Is h0 v_ a.x) rfl (zE xA (Pc.tx (Pc.here _)) rfl rfl rb2 rfl) (yD (.tail _ (.tail _ (.tail _ (.head _))))) rfl ?_))
 intro v14u5 r14u5
 refine w_q rfl (fun h' L' hh hR => zH rfl) rfl (w_q rfl (fun h' L' hh hR => (zF (sz := 3) 0 underlying32 sizeOf30 rfl rfl rfl (by decide)).cv (show _ = vP b3 0 from congrArg (vP b3) (by rfl))) rfl (yO (F := fun v_ => (rpQ l).Is h0 v_ b.x) rfl (zE xA (Pc.tx (Pc.here _)) rfl rfl rb3 rfl) (yD (.tail _ (.tail _ (.head _)))) rfl ?_))
 intro v17u5 r17u5
 refine w_c rfl ?_
 refine zY (vs := [_, _]) call54 e2z (fun w hs => o_rref_mul hs r14u5 r17u5 (by omega)) rfl ?_
 intro v18u5 h1 hh1 r18u5
 change (rpQ (k + l)).Is h1 v18u5 (a.x * b.x) at r18u5
 refine w_c rfl ?_
 replace r11u5 := r11u5.mono hh1
 refine zY (vs := [_, _]) call53 e2z (fun w hs => o_rref_add hs r11u5 r18u5 (by omega)) rfl ?_
 intro v19u5 h2 hh2 r19u5
 change (rpQ (1 + (k + l) + 1)).Is h2 v19u5 ((0 : Rat) + (a.x * b.x)) at r19u5
 replace r19u5 := Rp.Is.le r19u5 (Le.q (l := k + l + 2) (by omega))
 replace rb5 := rb5.mono (hh1.trans hh2)
 have rw_19 := (Le.q (l := k + l + 2) (by omega)).R rb5
 refine yV (A := []) (F := fun c_ => (rpQ (k + l + 2)).R h2 c_ ((0 : Rat) + (a.x * b.x))) rfl (zX sizeOf30 (Pc.here _) rfl rfl rfl rw_19 r19u5 rfl) ?_
 intro cs_20 rb_21
 refine yZ (yY (zK (e' := [(2, _), (3, _), (4, _), (5, _), (6, _)]) e5 (zB (zA (mv rfl rfl (gv ((zS (q := 1) rfl rfl (by omega) (by omega)).cv (show _ = vI (1) from rfl)) rfl (asg rfl rfl (zD (xI (zC (zC (zA (mv rfl rfl ?_)))))))))))))
 refine gv (OpV.tr (by decide) (zW (q := 3) rfl rfl)) rfl (zD (zB (xC rfl (zL (zB (zC (zQ ?_)))))))
 refine yG 9 _ [] [(0, .q), (1, .q), (2, .q), (3, .q), (4, .q), (5, .q), (6, .q), (7, .c), (8, .c), (9, .t)] xG nX (by kernel_rfl) nX (fun r hr => hr) (yO (F := fun v_ => (rpQ (k + l + 2)).Is h2 v_ ((0 : Rat) + (a.x * b.x))) rfl (zE xA (Pc.here _) rfl rfl rb_21 rfl) (yD (.head _)) rfl ?_)
 intro v11u6 r11u6
 refine w_q rfl (fun h' L' hh hR => zH rfl) rfl (w_q rfl (fun h' L' hh hR => (zF (sz := 3) 1 underlying32 sizeOf30 rfl rfl rfl (by decide)).cv (show _ = vP b2 3 from congrArg (vP b2) (by rfl))) rfl ?_)
 replace rb2 := rb2.mono (hh1.trans hh2)
 refine yO (F := fun v_ => (rpQ k).Is h2 v_ a.y) rfl (zE xA (Pc.ty (Pc.here _)) rfl rfl rb2 rfl) (yD (.tail _ (.tail _ (.tail _ (.head _))))) rfl ?_
 intro v14u6 r14u6
 refine w_q rfl (fun h' L' hh hR => zH rfl) rfl (w_q rfl (fun h' L' hh hR => (zF (sz := 3) 1 underlying32 sizeOf30 rfl rfl rfl (by decide)).cv (show _ = vP b3 3 from congrArg (vP b3) (by rfl))) rfl ?_)
 replace rb3 := rb3.mono (hh1.trans hh2)
 refine yO (F := fun v_ => (rpQ l).Is h2 v_ b.y) rfl (zE xA (Pc.ty (Pc.here _)) rfl rfl rb3 rfl) (yD (.tail _ (.tail _ (.head _)))) rfl ?_
 intro v17u6 r17u6
 refine w_c rfl ?_
 refine zY (vs := [_, _]) call54 e2z (fun w hs => o_rref_mul hs r14u6 r17u6 (by omega)) rfl ?_
 intro v18u6 h3 hh3 r18u6
 change (rpQ (k + l)).Is h3 v18u6 (a.y * b.y) at r18u6
 refine w_c rfl ?_
 replace r11u6 := r11u6.mono hh3
 refine zY (vs := [_, _]) call53 e2z (fun w hs => o_rref_add hs r11u6 r18u6 (by omega)) rfl ?_
 intro v19u6 h4 hh4 r19u6
 change (rpQ ((k + l + 2) + (k + l) + 1)).Is h4 v19u6 (((0 : Rat) + (a.x * b.x)) + (a.y * b.y)) at r19u6
 replace r19u6 := Rp.Is.le r19u6 (Le.q (l := 2 * k + 2 * l + 3) (by omega))
 replace rb_21 := rb_21.mono (hh3.trans hh4)
 have rw_22 := (Le.q (l := 2 * k + 2 * l + 3) (by omega)).R rb_21
 refine yV (A := []) (F := fun c_ => (rpQ (2 * k + 2 * l + 3)).R h4 c_ (((0 : Rat) + (a.x * b.x)) + (a.y * b.y))) rfl (zX sizeOf30 (Pc.here _) rfl rfl rfl rw_22 r19u6 rfl) ?_
 intro cs_23 rb_24
 refine yZ (yY (zK (e' := [(2, _), (3, _), (4, _), (5, _), (6, _)]) e5 (zB (zA (mv rfl rfl (gv ((zS (q := 1) rfl rfl (by omega) (by omega)).cv (show _ = vI (2) from rfl)) rfl (asg rfl rfl (zD (xI (zC (zC (zA (mv rfl rfl ?_)))))))))))))
 refine gv (OpV.tr (by decide) (zW (q := 3) rfl rfl)) rfl (zD (zB (xC rfl (zL (zB (zC (zQ ?_)))))))
 refine yG 9 _ [] [(0, .q), (1, .q), (2, .q), (3, .q), (4, .q), (5, .q), (6, .q), (7, .c), (8, .c), (9, .t)] xG nX (by kernel_rfl) nX (fun r hr => hr) (yO (F := fun v_ => (rpQ (2 * k + 2 * l + 3)).Is h4 v_ (((0 : Rat) + (a.x * b.x)) + (a.y * b.y))) rfl (zE xA (Pc.here _) rfl rfl rb_24 rfl) (yD (.head _)) rfl ?_)
 intro v11u7 r11u7
 refine w_q rfl (fun h' L' hh hR => zH rfl) rfl (w_q rfl (fun h' L' hh hR => (zF (sz := 3) 2 underlying32 sizeOf30 rfl rfl rfl (by decide)).cv (show _ = vP b2 6 from congrArg (vP b2) (by rfl))) rfl ?_)
 replace rb2 := rb2.mono (hh3.trans hh4)
 refine yO (F := fun v_ => (rpQ k).Is h4 v_ a.z) rfl (zE xA (Pc.tz (Pc.here _)) rfl rfl rb2 rfl) (yD (.tail _ (.tail _ (.tail _ (.head _))))) rfl ?_
 intro v14u7 r14u7
 refine w_q rfl (fun h' L' hh hR => zH rfl) rfl (w_q rfl (fun h' L' hh hR => (zF (sz := 3) 2 underlying32 sizeOf30 rfl rfl rfl (by decide)).cv (show _ = vP b3 6 from congrArg (vP b3) (by rfl))) rfl ?_)
 replace rb3 := rb3.mono (hh3.trans hh4)
 refine yO (F := fun v_ => (rpQ l).Is h4 v_ b.z) rfl (zE xA (Pc.tz (Pc.here _)) rfl rfl rb3 rfl) (yD (.tail _ (.tail _ (.head _)))) rfl ?_
 intro v17u7 r17u7
 refine w_c rfl ?_
 refine zY (vs := [_, _]) call54 e2z (fun w hs => o_rref_mul hs r14u7 r17u7 (by omega)) rfl ?_
 intro v18u7 h5 hh5 r18u7
 change (rpQ (k + l)).Is h5 v18u7 (a.z * b.z) at r18u7
 refine w_c rfl ?_
 replace r11u7 := r11u7.mono hh5
 refine zY (vs := [_, _]) call53 e2z (fun w hs => o_rref_add hs r11u7 r18u7 (by omega)) rfl ?_
 intro v19u7 h6 hh6 r19u7
 change (rpQ ((2 * k + 2 * l + 3) + (k + l) + 1)).Is h6 v19u7 ((((0 : Rat) + (a.x * b.x)) + (a.y * b.y)) + (a.z * b.z)) at r19u7
 replace r19u7 := Rp.Is.le r19u7 (Le.q (l := 3 * k + 3 * l + 4) (by omega))
 replace rb_24 := rb_24.mono (hh5.trans hh6)
 have rw_25 := (Le.q (l := 3 * k + 3 * l + 4) (by omega)).R rb_24
 refine yV (A := []) (F := fun c_ => (rpQ (3 * k + 3 * l + 4)).R h6 c_ ((((0 : Rat) + (a.x * b.x)) + (a.y * b.y)) + (a.z * b.z))) rfl (zX sizeOf30 (Pc.here _) rfl rfl rfl rw_25 r19u7 rfl) ?_
 intro cs_26 rb_27
 refine yZ (yY (zK (e' := [(2, _), (3, _), (4, _), (5, _), (6, _)]) e5 (zB (zA (mv rfl rfl (gv ((zS (q := 1) rfl rfl (by omega) (by omega)).cv (show _ = vI (3) from rfl)) rfl (asg rfl rfl (zD (xI (zC (zC (zA (mv rfl rfl ?_)))))))))))))
 refine gv (OpV.fa (by decide) (zW (q := 3) rfl rfl)) rfl (zD (zB (gc_cond_f rfl (xK (yE (yE (xJ (zB (zC (zA (xQ (F := fun v_ => (rpQ (3 * k + 3 * l + 4)).Is h6 v_ ((((0 : Rat) + (a.x * b.x)) + (a.y * b.y)) + (a.z * b.z))) (zE xA (Pc.here _) rfl rfl rb_27 rfl) (yD (.head _)) rfl ?_)))))))))))
 intro v20u8 r20u8
 replace rb4 := rb4.mono (((((hh1.trans hh2).trans hh3).trans hh4).trans hh5).trans hh6)
 refine xO (A := [_]) (F := fun c_ => (rpQ (3 * k + 3 * l + 9)).R h6 c_ ((((0 : Rat) + (a.x * b.x)) + (a.y * b.y)) + (a.z * b.z))) (zX sizeOf30 (Pc.here _) rfl rfl rfl rb4 (r20u8.le (Le.q (l := 3 * k + 3 * l + 9) (by omega))) rfl) ?_
 intro cs_28 rb_29
 refine zD (zB (zR (gq_exv (rv_o (t := 4) xA (.tail _ (.head _)) rfl rb_29) ?_)))
 intro w_30 hvw_30 rr_31
 refine xM (fun E S => yL rfl hvw_30 E S) ?_
 exact (Rp.Is.cast rr_31 (by unfold dotT; grind))
theorem o_r4_cross {w0 : World} {h0 : Mem}  (hs : MLe h0 (mem w0)) {k l : Nat} {va : Value} {a : (T3 Rat)} (ra : (rpT (rpQ k)).Is h0 va a) {vb : Value} {b : (T3 Rat)} (rb : (rpT (rpQ l)).Is h0 vb b) (hcd0 : k + l ≤ 1000000000)  :
    Calls Tryz.prog 61 #[va, vb] w0 (Ret w0 h0 (fun h r => (rpT (rpQ (2 * k + 2 * l + 3))).Is h r (crossT a b))) := by
 refine zO (n := 37) (e := [(0, va), (1, vb)]) (vs := [va, vb]) func61 rfl rfl (bL rfl) hs e2z (zC (zA (zJ (yU (ρ := (rpT (rpQ k))) rfl ra) rfl rfl rfl ?_)))
 intro v2 q2 hq2
 obtain ⟨b2, cs2, rfl, rfl, rb2⟩ := hq2
 refine zJ (yU (ρ := (rpT (rpQ l))) rfl rb) rfl rfl rfl ?_
 intro v3 q3 hq3
 obtain ⟨b3, cs3, rfl, rfl, rb3⟩ := hq3
 refine zJ (yQ (ρ := (rpT (rpQ (2 * k + 2 * l + 3)))) (X := (T3.mk (0 : Rat) 0 0)) yI rfl rfl (zr_t (xS (by omega)))) rfl rfl rfl ?_
 intro v4 q4 hq4
 obtain ⟨b4, cs4, rfl, rfl, rb4⟩ := hq4
 refine zD (zB (zC (zA (zJ (yQ (ρ := (rpT (rpQ (2 * k + 2 * l + 3)))) (X := (T3.mk (0 : Rat) 0 0)) yI rfl rfl (zr_t (xS (by omega)))) rfl rfl rfl ?_))))
 intro v5 q5 hq5
 obtain ⟨b5, cs5, rfl, rfl, rb5⟩ := hq5
 refine zD (zB (zC (zC (zA (asg (v := vI (0)) rfl rfl (zD (zB (zQ (gc_loop1 (zC (zC (zA (mv rfl rfl ?_)))))))))))))
 refine gv (OpV.tr (by decide) (zW (q := 3) rfl rfl)) rfl (zD (zB (xC rfl (zL (zB (zC (zQ (zC (zA (mv rfl rfl (gv ((zS (q := 1) rfl rfl (by omega) (by omega)).cv (show _ = vI (1) from rfl)) rfl (gv ((ov_rem_i (q := 3) rfl rfl (by omega) (by omega)).cv (show _ = vI (1) from rfl)) rfl (mv rfl rfl ?_)))))))))))))
 refine gv ((zS (q := 2) rfl rfl (by omega) (by omega)).cv (show _ = vI (2) from rfl)) rfl (gv ((ov_rem_i (q := 3) rfl rfl (by omega) (by omega)).cv (show _ = vI (2) from rfl)) rfl (asg rfl rfl (asg rfl rfl (zD (zK (e' := [(2, _), (3, _), (4, _), (5, _), (6, _), (7, _), (8, _)]) e7 (zB ?_))))))
 refine yG 17 _ [] [(0, .q), (1, .q), (2, .q), (3, .q), (4, .q), (5, .q), (6, .q), (8, .q), (9, .q), (10, .q), (11, .q), (12, .q), (13, .q), (7, .c), (14, .c), (15, .c), (16, .q), (17, .t)] xG nX (chk_of [0, 0, 2, 4, 0, 16, 32, 72, 0, 256, 512, 0, 2048, 4096, 9344, 16512, 65535, 131071] [262143, 262143, 262141, 262139, 262143, 262127, 262111, 262071, 262143, 261887, 261631, 262143, 260095, 258047, 252927, 245631, 262142, 163839] (by kernel_rfl)) nX (fun r hr => hr) (w_q rfl (fun h' L' hh hR => zH rfl) rfl (w_q rfl (fun h' L' hh hR => zH rfl) rfl (w_q rfl (fun h' L' hh hR => (zF (sz := 3) 1 underlying32 sizeOf30 rfl rfl rfl (by decide)).cv (show _ = vP b2 3 from congrArg (vP b2) (by rfl))) rfl (yO (F := fun v_ => (rpQ k).Is h0 v_ a.y) rfl (zE xA (Pc.ty (Pc.here _)) rfl rfl rb2 rfl) (yD (.tail _ (.tail _ (.tail _ (.head _))))) rfl ?_))))
 intro v22u9 r22u9
 refine w_q rfl (fun h' L' hh hR => zH rfl) rfl (w_q rfl (fun h' L' hh hR => (zF (sz := 3) 2 underlying32 sizeOf30 rfl rfl rfl (by decide)).cv (show _ = vP b3 6 from congrArg (vP b3) (by rfl))) rfl (yO (F := fun v_ => (rpQ l).Is h0 v_ b.z) rfl (zE xA (Pc.tz (Pc.here _)) rfl rfl rb3 rfl) (yD (.tail _ (.tail _ (.head _)))) rfl ?_))
 intro v25u9 r25u9
 refine w_q rfl (fun h' L' hh hR => zH rfl) rfl (w_q rfl (fun h' L' hh hR => (zF (sz := 3) 2 underlying32 sizeOf30 rfl rfl rfl (by decide)).cv (show _ = vP b2 6 from congrArg (vP b2) (by rfl))) rfl (yO (F := fun v_ => (rpQ k).Is h0 v_ a.z) rfl (zE xA (Pc.tz (Pc.here _)) rfl rfl rb2 rfl) (yD (.tail _ (.tail _ (.tail _ (.head _))))) rfl ?_))
 intro v29u9 r29u9
 refine w_q rfl (fun h' L' hh hR => zH rfl) rfl (w_q rfl (fun h' L' hh hR => (zF (sz := 3) 1 underlying32 sizeOf30 rfl rfl rfl (by decide)).cv (show _ = vP b3 3 from congrArg (vP b3) (by rfl))) rfl (yO (F := fun v_ => (rpQ l).Is h0 v_ b.y) rfl (zE xA (Pc.ty (Pc.here _)) rfl rfl rb3 rfl) (yD (.tail _ (.tail _ (.head _)))) rfl ?_))
 intro v32u9 r32u9
 refine w_c rfl ?_
 refine zY (vs := [_, _]) call54 e2z (fun w hs => o_rref_mul hs r22u9 r25u9 (by omega)) rfl ?_
 intro v26u9 h1 hh1 r26u9
 change (rpQ (k + l)).Is h1 v26u9 (a.y * b.z) at r26u9
 refine w_c rfl ?_
 replace r29u9 := r29u9.mono hh1
 replace r32u9 := r32u9.mono hh1
 refine zY (vs := [_, _]) call54 e2z (fun w hs => o_rref_mul hs r29u9 r32u9 (by omega)) rfl ?_
 intro v33u9 h2 hh2 r33u9
 change (rpQ (k + l)).Is h2 v33u9 (a.z * b.y) at r33u9
 refine w_c rfl ?_
 replace r26u9 := r26u9.mono hh2
 refine zY (vs := [_, _]) call56 e2z (fun w hs => o_rref_sub hs r26u9 r33u9 (by omega)) rfl ?_
 intro v34u9 h3 hh3 r34u9
 change (rpQ ((k + l) + (k + l) + 1)).Is h3 v34u9 ((a.y * b.z) - (a.z * b.y)) at r34u9
 replace r34u9 := Rp.Is.le r34u9 (Le.q (l := 2 * k + 2 * l + 1) (by omega))
 refine w_q rfl (fun h' L' hh hR => (zF (sz := 3) 0 underlying32 sizeOf30 rfl rfl rfl (by decide)).cv (show _ = vP b5 0 from congrArg (vP b5) (by rfl))) rfl ?_
 replace rb5 := rb5.mono ((hh1.trans hh2).trans hh3)
 refine yV (A := []) (F := fun c_ => (rpT (rpQ (2 * k + 2 * l + 3))).R h3 c_ (T3.mk ((a.y * b.z) - (a.z * b.y)) (0 : Rat) (0 : Rat))) rfl (zX sizeOf30 (Pc.tx (Pc.here _)) rfl rfl rfl rb5 (r34u9.le (Le.q (l := 2 * k + 2 * l + 3) (by omega))) rfl) ?_
 intro cs_32 rb_33
 refine yZ (yY (zK (e' := [(2, _), (3, _), (4, _), (5, _), (6, _)]) e5 (zB (zA (mv rfl rfl (gv ((zS (q := 1) rfl rfl (by omega) (by omega)).cv (show _ = vI (1) from rfl)) rfl (asg rfl rfl (zD (xI (zC (zC (zA (mv rfl rfl ?_)))))))))))))
 refine gv (OpV.tr (by decide) (zW (q := 3) rfl rfl)) rfl (zD (zB (xC rfl (zL (zB (zC (zQ (zC (zA (mv rfl rfl (gv ((zS (q := 1) rfl rfl (by omega) (by omega)).cv (show _ = vI (2) from rfl)) rfl (gv ((ov_rem_i (q := 3) rfl rfl (by omega) (by omega)).cv (show _ = vI (2) from rfl)) rfl (mv rfl rfl ?_)))))))))))))
 refine gv ((zS (q := 2) rfl rfl (by omega) (by omega)).cv (show _ = vI (3) from rfl)) rfl (gv ((ov_rem_i (q := 3) rfl rfl (by omega) (by omega)).cv (show _ = vI (0) from rfl)) rfl (asg rfl rfl (asg rfl rfl (zD (zK (e' := [(2, _), (3, _), (4, _), (5, _), (6, _), (7, _), (8, _)]) e7 (zB ?_))))))
 refine yG 17 _ [] [(0, .q), (1, .q), (2, .q), (3, .q), (4, .q), (5, .q), (6, .q), (8, .q), (9, .q), (10, .q), (11, .q), (12, .q), (13, .q), (7, .c), (14, .c), (15, .c), (16, .q), (17, .t)] xG nX (chk_of [0, 0, 2, 4, 0, 16, 32, 72, 0, 256, 512, 0, 2048, 4096, 9344, 16512, 65535, 131071] [262143, 262143, 262141, 262139, 262143, 262127, 262111, 262071, 262143, 261887, 261631, 262143, 260095, 258047, 252927, 245631, 262142, 163839] (by kernel_rfl)) nX (fun r hr => hr) (w_q rfl (fun h' L' hh hR => zH rfl) rfl (w_q rfl (fun h' L' hh hR => zH rfl) rfl (w_q rfl (fun h' L' hh hR => (zF (sz := 3) 2 underlying32 sizeOf30 rfl rfl rfl (by decide)).cv (show _ = vP b2 6 from congrArg (vP b2) (by rfl))) rfl ?_)))
 replace rb2 := rb2.mono ((hh1.trans hh2).trans hh3)
 refine yO (F := fun v_ => (rpQ k).Is h3 v_ a.z) rfl (zE xA (Pc.tz (Pc.here _)) rfl rfl rb2 rfl) (yD (.tail _ (.tail _ (.tail _ (.head _))))) rfl ?_
 intro v22u10 r22u10
 refine w_q rfl (fun h' L' hh hR => zH rfl) rfl (w_q rfl (fun h' L' hh hR => (zF (sz := 3) 0 underlying32 sizeOf30 rfl rfl rfl (by decide)).cv (show _ = vP b3 0 from congrArg (vP b3) (by rfl))) rfl ?_)
 replace rb3 := rb3.mono ((hh1.trans hh2).trans hh3)
 refine yO (F := fun v_ => (rpQ l).Is h3 v_ b.x) rfl (zE xA (Pc.tx (Pc.here _)) rfl rfl rb3 rfl) (yD (.tail _ (.tail _ (.head _)))) rfl ?_
 intro v25u10 r25u10
 refine w_q rfl (fun h' L' hh hR => zH rfl) rfl (w_q rfl (fun h' L' hh hR => (zF (sz := 3) 0 underlying32 sizeOf30 rfl rfl rfl (by decide)).cv (show _ = vP b2 0 from congrArg (vP b2) (by rfl))) rfl (yO (F := fun v_ => (rpQ k).Is h3 v_ a.x) rfl (zE xA (Pc.tx (Pc.here _)) rfl rfl rb2 rfl) (yD (.tail _ (.tail _ (.tail _ (.head _))))) rfl ?_))
 intro v29u10 r29u10
 refine w_q rfl (fun h' L' hh hR => zH rfl) rfl (w_q rfl (fun h' L' hh hR => (zF (sz := 3) 2 underlying32 sizeOf30 rfl rfl rfl (by decide)).cv (show _ = vP b3 6 from congrArg (vP b3) (by rfl))) rfl (yO (F := fun v_ => (rpQ l).Is h3 v_ b.z) rfl (zE xA (Pc.tz (Pc.here _)) rfl rfl rb3 rfl) (yD (.tail _ (.tail _ (.head _)))) rfl ?_))
 intro v32u10 r32u10
 refine w_c rfl ?_
 refine zY (vs := [_, _]) call54 e2z (fun w hs => o_rref_mul hs r22u10 r25u10 (by omega)) rfl ?_
 intro v26u10 h4 hh4 r26u10
 change (rpQ (k + l)).Is h4 v26u10 (a.z * b.x) at r26u10
 refine w_c rfl ?_
 replace r29u10 := r29u10.mono hh4
 replace r32u10 := r32u10.mono hh4
 refine zY (vs := [_, _]) call54 e2z (fun w hs => o_rref_mul hs r29u10 r32u10 (by omega)) rfl ?_
 intro v33u10 h5 hh5 r33u10
 change (rpQ (k + l)).Is h5 v33u10 (a.x * b.z) at r33u10
 refine w_c rfl ?_
 replace r26u10 := r26u10.mono hh5
 refine zY (vs := [_, _]) call56 e2z (fun w hs => o_rref_sub hs r26u10 r33u10 (by omega)) rfl ?_
 intro v34u10 h6 hh6 r34u10
 change (rpQ ((k + l) + (k + l) + 1)).Is h6 v34u10 ((a.z * b.x) - (a.x * b.z)) at r34u10
 replace r34u10 := Rp.Is.le r34u10 (Le.q (l := 2 * k + 2 * l + 1) (by omega))
 refine w_q rfl (fun h' L' hh hR => (zF (sz := 3) 1 underlying32 sizeOf30 rfl rfl rfl (by decide)).cv (show _ = vP b5 3 from congrArg (vP b5) (by rfl))) rfl ?_
 replace rb_33 := rb_33.mono ((hh4.trans hh5).trans hh6)
 refine yV (A := []) (F := fun c_ => (rpT (rpQ (2 * k + 2 * l + 3))).R h6 c_ (T3.mk ((a.y * b.z) - (a.z * b.y)) ((a.z * b.x) - (a.x * b.z)) (0 : Rat))) rfl (zX sizeOf30 (Pc.ty (Pc.here _)) rfl rfl rfl rb_33 (r34u10.le (Le.q (l := 2 * k + 2 * l + 3) (by omega))) rfl) ?_
 intro cs_34 rb_35
 refine yZ (yY (zK (e' := [(2, _), (3, _), (4, _), (5, _), (6, _)]) e5 (zB (zA (mv rfl rfl (gv ((zS (q := 1) rfl rfl (by omega) (by omega)).cv (show _ = vI (2) from rfl)) rfl (asg rfl rfl (zD (xI (zC (zC (zA (mv rfl rfl ?_)))))))))))))
 refine gv (OpV.tr (by decide) (zW (q := 3) rfl rfl)) rfl (zD (zB (xC rfl (zL (zB (zC (zQ (zC (zA (mv rfl rfl (gv ((zS (q := 1) rfl rfl (by omega) (by omega)).cv (show _ = vI (3) from rfl)) rfl (gv ((ov_rem_i (q := 3) rfl rfl (by omega) (by omega)).cv (show _ = vI (0) from rfl)) rfl (mv rfl rfl ?_)))))))))))))
 refine gv ((zS (q := 2) rfl rfl (by omega) (by omega)).cv (show _ = vI (4) from rfl)) rfl (gv ((ov_rem_i (q := 3) rfl rfl (by omega) (by omega)).cv (show _ = vI (1) from rfl)) rfl (asg rfl rfl (asg rfl rfl (zD (zK (e' := [(2, _), (3, _), (4, _), (5, _), (6, _), (7, _), (8, _)]) e7 (zB ?_))))))
 refine yG 17 _ [] [(0, .q), (1, .q), (2, .q), (3, .q), (4, .q), (5, .q), (6, .q), (8, .q), (9, .q), (10, .q), (11, .q), (12, .q), (13, .q), (7, .c), (14, .c), (15, .c), (16, .q), (17, .t)] xG nX (chk_of [0, 0, 2, 4, 0, 16, 32, 72, 0, 256, 512, 0, 2048, 4096, 9344, 16512, 65535, 131071] [262143, 262143, 262141, 262139, 262143, 262127, 262111, 262071, 262143, 261887, 261631, 262143, 260095, 258047, 252927, 245631, 262142, 163839] (by kernel_rfl)) nX (fun r hr => hr) (w_q rfl (fun h' L' hh hR => zH rfl) rfl (w_q rfl (fun h' L' hh hR => zH rfl) rfl (w_q rfl (fun h' L' hh hR => (zF (sz := 3) 0 underlying32 sizeOf30 rfl rfl rfl (by decide)).cv (show _ = vP b2 0 from congrArg (vP b2) (by rfl))) rfl ?_)))
 replace rb2 := rb2.mono ((hh4.trans hh5).trans hh6)
 refine yO (F := fun v_ => (rpQ k).Is h6 v_ a.x) rfl (zE xA (Pc.tx (Pc.here _)) rfl rfl rb2 rfl) (yD (.tail _ (.tail _ (.tail _ (.head _))))) rfl ?_
 intro v22u11 r22u11
 refine w_q rfl (fun h' L' hh hR => zH rfl) rfl (w_q rfl (fun h' L' hh hR => (zF (sz := 3) 1 underlying32 sizeOf30 rfl rfl rfl (by decide)).cv (show _ = vP b3 3 from congrArg (vP b3) (by rfl))) rfl ?_)
 replace rb3 := rb3.mono ((hh4.trans hh5).trans hh6)
 refine yO (F := fun v_ => (rpQ l).Is h6 v_ b.y) rfl (zE xA (Pc.ty (Pc.here _)) rfl rfl rb3 rfl) (yD (.tail _ (.tail _ (.head _)))) rfl ?_
 intro v25u11 r25u11
 refine w_q rfl (fun h' L' hh hR => zH rfl) rfl (w_q rfl (fun h' L' hh hR => (zF (sz := 3) 1 underlying32 sizeOf30 rfl rfl rfl (by decide)).cv (show _ = vP b2 3 from congrArg (vP b2) (by rfl))) rfl (yO (F := fun v_ => (rpQ k).Is h6 v_ a.y) rfl (zE xA (Pc.ty (Pc.here _)) rfl rfl rb2 rfl) (yD (.tail _ (.tail _ (.tail _ (.head _))))) rfl ?_))
 intro v29u11 r29u11
 refine w_q rfl (fun h' L' hh hR => zH rfl) rfl (w_q rfl (fun h' L' hh hR => (zF (sz := 3) 0 underlying32 sizeOf30 rfl rfl rfl (by decide)).cv (show _ = vP b3 0 from congrArg (vP b3) (by rfl))) rfl (yO (F := fun v_ => (rpQ l).Is h6 v_ b.x) rfl (zE xA (Pc.tx (Pc.here _)) rfl rfl rb3 rfl) (yD (.tail _ (.tail _ (.head _)))) rfl ?_))
 intro v32u11 r32u11
 refine w_c rfl ?_
 refine zY (vs := [_, _]) call54 e2z (fun w hs => o_rref_mul hs r22u11 r25u11 (by omega)) rfl ?_
 intro v26u11 h7 hh7 r26u11
 change (rpQ (k + l)).Is h7 v26u11 (a.x * b.y) at r26u11
 refine w_c rfl ?_
 replace r29u11 := r29u11.mono hh7
 replace r32u11 := r32u11.mono hh7
 refine zY (vs := [_, _]) call54 e2z (fun w hs => o_rref_mul hs r29u11 r32u11 (by omega)) rfl ?_
 intro v33u11 h8 hh8 r33u11
 change (rpQ (k + l)).Is h8 v33u11 (a.y * b.x) at r33u11
 refine w_c rfl ?_
 replace r26u11 := r26u11.mono hh8
 refine zY (vs := [_, _]) call56 e2z (fun w hs => o_rref_sub hs r26u11 r33u11 (by omega)) rfl ?_
 intro v34u11 h9 hh9 r34u11
 change (rpQ ((k + l) + (k + l) + 1)).Is h9 v34u11 ((a.x * b.y) - (a.y * b.x)) at r34u11
 replace r34u11 := Rp.Is.le r34u11 (Le.q (l := 2 * k + 2 * l + 1) (by omega))
 refine w_q rfl (fun h' L' hh hR => (zF (sz := 3) 2 underlying32 sizeOf30 rfl rfl rfl (by decide)).cv (show _ = vP b5 6 from congrArg (vP b5) (by rfl))) rfl ?_
 replace rb_35 := rb_35.mono ((hh7.trans hh8).trans hh9)
 refine yV (A := []) (F := fun c_ => (rpT (rpQ (2 * k + 2 * l + 3))).R h9 c_ (T3.mk ((a.y * b.z) - (a.z * b.y)) ((a.z * b.x) - (a.x * b.z)) ((a.x * b.y) - (a.y * b.x)))) rfl (zX sizeOf30 (Pc.tz (Pc.here _)) rfl rfl rfl rb_35 (r34u11.le (Le.q (l := 2 * k + 2 * l + 3) (by omega))) rfl) ?_
 intro cs_36 rb_37
 refine yZ (yY (zK (e' := [(2, _), (3, _), (4, _), (5, _), (6, _)]) e5 (zB (zA (mv rfl rfl (gv ((zS (q := 1) rfl rfl (by omega) (by omega)).cv (show _ = vI (3) from rfl)) rfl (asg rfl rfl (zD (xI (zC (zC (zA (mv rfl rfl ?_)))))))))))))
 refine gv (OpV.fa (by decide) (zW (q := 3) rfl rfl)) rfl (zD (zB (gc_cond_f rfl (xK (yE (yE (xJ (zB (zC (zA (xQ (F := fun v_ => (rpT (rpQ (2 * k + 2 * l + 3))).Is h9 v_ (T3.mk ((a.y * b.z) - (a.z * b.y)) ((a.z * b.x) - (a.x * b.z)) ((a.x * b.y) - (a.y * b.x)))) (zE xF (Pc.here _) rfl rfl rb_37 rfl) (yD (.head _)) rfl ?_)))))))))))
 intro v36u12 r36u12
 replace rb4 := rb4.mono ((((((((hh1.trans hh2).trans hh3).trans hh4).trans hh5).trans hh6).trans hh7).trans hh8).trans hh9)
 refine xO (A := [_]) (F := fun c_ => (rpT (rpQ (2 * k + 2 * l + 3))).R h9 c_ (T3.mk ((a.y * b.z) - (a.z * b.y)) ((a.z * b.x) - (a.x * b.z)) ((a.x * b.y) - (a.y * b.x)))) (zX sizeOf32 (Pc.here _) rfl rfl rfl rb4 r36u12 rfl) ?_
 intro cs_38 rb_39
 refine zD (zB (zR (gq_exv (rv_o (t := 4) xF (.tail _ (.head _)) rfl rb_39) ?_)))
 intro w_40 hvw_40 rr_41
 refine xM (fun E S => yL rfl hvw_40 E S) ?_
 exact rr_41
theorem o_dice_bool {w0 w : World} {h0 h : Mem} {b k : Nat} {vl : Value} {xs : List Int} (hl : Is h vl xs) (hk : k ≤ xs.length) {n : Int} (hn : 0 < n) (hn2 : n < 4611686018427387904) {L : List Res} (hs : St w0 h0 (.var b 65 [vl, vI ↑k] :: L) h w) :
    Calls Tryz.prog 24 #[vP b 0, vI n] w (RetMut w0 h0 h L (fun g r q' => ∃ k' : Nat, ∃ p : Prop, q' = .var b 65 [vl, vI ↑k'] ∧ k' ≤ xs.length ∧ r = vB p)) := by
 have hlen := hl.lt63
 refine calls_begin_st (n := 11) (e := [(0, vP b 0), (1, vI n)]) (vs := [vP b 0, vI n]) func24 rfl rfl (bL rfl) hs e2z (zC (zA (asg rfl rfl (zD (zB (zC (zA (mv rfl rfl (mv rfl rfl ?_)))))))))
 refine xT (A := []) (vs := [_, _]) call22 e2z (fun X w hs => dice_next hl (by first | omega | exact Nat.zero_le _) (by omega) (by omega) hs) rfl ?_
 intro v7 g7 q7 hg7 hr7
 obtain ⟨k7, z7, rfl, hk7, rfl, hz7, hy7⟩ := hr7
 refine mv rfl rfl (gv (xE (q := 1) rfl rfl (by omega) (by omega)) rfl (gv (ov_eql_i rfl rfl) rfl (asg rfl rfl (zD (zB (zR (gq_body1_own rfl rfl ?_)))))))
 exact ⟨_, (List.Sublist.refl _), hg7, _, _, rfl, by omega, rfl⟩
theorem o_dice_plane {w0 w : World} {h0 h : Mem} {b k : Nat} {vl : Value} {xs : List Int} (hl : Is h vl xs) (hk : k ≤ xs.length) {L : List Res} (hs : St w0 h0 (.var b 65 [vl, vI ↑k] :: L) h w) :
    Calls Tryz.prog 13 #[vP b 0] w (RetMut w0 h0 h L (fun g r q' => ∃ k' : Nat, ∃ m : (T3 Rat) × Rat, q' = .var b 65 [vl, vI ↑k'] ∧ k' ≤ xs.length ∧ (rpP (rpT (rpQ 2)) (rpQ 2)).Is g r m)) := by
 have hlen := hl.lt63
 refine calls_begin_st (n := 30) (e := [(0, vP b 0)]) (vs := [vP b 0]) func13 rfl rfl (bL rfl) hs ⟨rfl, trivial⟩ (zC (zA (zJ (yQ (ρ := (rpP (rpT (rpQ 2)) (rpQ 2))) (X := ((T3.mk (0 : Rat) 0 0), (0 : Rat))) info34 rfl rfl (zr_p (zr_t (xS (by decide))) (xS (by decide)))) rfl rfl rfl ?_)))
 intro v2 q2 hq2
 obtain ⟨b2, cs2, rfl, rfl, rb2⟩ := hq2
 refine zD (zB (zC (zC (zA (mv rfl rfl ?_)))))
 refine xT (A := [_]) (vs := [_, vI (20)]) call24 e2z (fun X w hs => o_dice_bool hl (by first | omega | exact Nat.zero_le _) (by omega) (by omega) hs) rfl ?_
 intro v5 g5 q5 hg5 hr5
 obtain ⟨k5, P5, rfl, hk5, rfl⟩ := hr5
 refine zD (zB ?_)
 refine zP rfl (fun hc5 => ?_) (fun hc5 => ?_)
 ·
  refine zC (zA (xQ (F := fun v_ => (rpP (rpT (rpQ 1)) (rpQ 1)).Is g5 v_ ((T3.mk (0 : Rat) 0 0), (0 : Rat))) (ox_build (ps' := []) underlying34 info34 rfl rfl (places34 underlying34) trivial rfl (zr_p (zr_t (xS (by decide))) (xS (by decide))) fx_nil) mem0 rfl ?_))
  intro v6 r6
  replace rb2 := rb2.mono hg5
  refine xO (A := []) (F := fun c_ => (rpP (rpT (rpQ 2)) (rpQ 2)).R g5 c_ ((T3.mk (0 : Rat) 0 0), (0 : Rat))) (zX sizeOf34 (Pc.here _) rfl rfl rfl rb2 (r6.le (Le.p (Le.t (Le.q (l := 2) (by decide))) (Le.q (l := 2) (by decide)))) rfl) ?_
  intro cs_42 rb_43
  refine zD (zB (zR (yA (gq_exv (rv_o (t := 2) ty34 (.head _) rfl rb_43) ?_))))
  intro w_44 hvw_44 rr_45
  refine gq_res_own (fun E S => yL rfl hvw_44 E S) ?_
  exact ⟨_, (.cons _ (List.Sublist.refl _)), hg5, _, _, rfl, by omega, rr_45⟩
 refine zL (zB (zC (zA (xQ (F := fun v_ => (rpT rpI).Is g5 v_ (T3.mk (1 : Int) (0 : Int) (0 : Int))) (ox_build_arr (ps' := [(0, _), (1, _), (2, _)]) underlying66 info66 rfl rfl sizeOf3 e6 rfl (zr_t zr_i) (yN rfl (Pc.tx (Pc.here _)) (is_i (by decide) (by decide)) (yN rfl (Pc.ty (Pc.here _)) (is_i (by decide) (by decide)) (yN rfl (Pc.tz (Pc.here _)) (is_i (by decide) (by decide)) fx_nil)))) mem0 rfl ?_))))
 intro v7 r7
 refine xQ (F := fun v_ => (rpT rpI).Is g5 v_ (T3.mk (0 : Int) (1 : Int) (0 : Int))) (ox_build_arr (ps' := [(0, _), (1, _), (2, _)]) underlying66 info66 rfl rfl sizeOf3 e6 rfl (zr_t zr_i) (yN rfl (Pc.tx (Pc.here _)) (is_i (by decide) (by decide)) (yN rfl (Pc.ty (Pc.here _)) (is_i (by decide) (by decide)) (yN rfl (Pc.tz (Pc.here _)) (is_i (by decide) (by decide)) fx_nil)))) mem0 rfl ?_
 intro v8 r8
 refine xQ (F := fun v_ => (rpT rpI).Is g5 v_ (T3.mk (0 : Int) (0 : Int) (1 : Int))) (ox_build_arr (ps' := [(0, _), (1, _), (2, _)]) underlying66 info66 rfl rfl sizeOf3 e6 rfl (zr_t zr_i) (yN rfl (Pc.tx (Pc.here _)) (is_i (by decide) (by decide)) (yN rfl (Pc.ty (Pc.here _)) (is_i (by decide) (by decide)) (yN rfl (Pc.tz (Pc.here _)) (is_i (by decide) (by decide)) fx_nil)))) mem0 rfl ?_
 intro v9 r9
 refine xQ (F := fun v_ => (rpT rpI).Is g5 v_ (T3.mk (1 : Int) (1 : Int) (0 : Int))) (ox_build_arr (ps' := [(0, _), (1, _), (2, _)]) underlying66 info66 rfl rfl sizeOf3 e6 rfl (zr_t zr_i) (yN rfl (Pc.tx (Pc.here _)) (is_i (by decide) (by decide)) (yN rfl (Pc.ty (Pc.here _)) (is_i (by decide) (by decide)) (yN rfl (Pc.tz (Pc.here _)) (is_i (by decide) (by decide)) fx_nil)))) mem0 rfl ?_
 intro v10 r10
 refine xQ (F := fun v_ => (rpT rpI).Is g5 v_ (T3.mk (-1 : Int) (0 : Int) (0 : Int))) (ox_build_arr (ps' := [(0, _), (1, _), (2, _)]) underlying66 info66 rfl rfl sizeOf3 e6 rfl (zr_t zr_i) (yN rfl (Pc.tx (Pc.here _)) (is_i (by decide) (by decide)) (yN rfl (Pc.ty (Pc.here _)) (is_i (by decide) (by decide)) (yN rfl (Pc.tz (Pc.here _)) (is_i (by decide) (by decide)) fx_nil)))) mem0 rfl ?_
 intro v11 r11
 refine xQ (F := fun v_ => (rpT rpI).Is g5 v_ (T3.mk (1 : Int) (-1 : Int) (2 : Int))) (ox_build_arr (ps' := [(0, _), (1, _), (2, _)]) underlying66 info66 rfl rfl sizeOf3 e6 rfl (zr_t zr_i) (yN rfl (Pc.tx (Pc.here _)) (is_i (by decide) (by decide)) (yN rfl (Pc.ty (Pc.here _)) (is_i (by decide) (by decide)) (yN rfl (Pc.tz (Pc.here _)) (is_i (by decide) (by decide)) fx_nil)))) mem0 rfl ?_
 intro v12 r12
 refine xQ (F := fun v_ => (rpT rpI).Is g5 v_ (T3.mk (0 : Int) (2 : Int) (1 : Int))) (ox_build_arr (ps' := [(0, _), (1, _), (2, _)]) underlying66 info66 rfl rfl sizeOf3 e6 rfl (zr_t zr_i) (yN rfl (Pc.tx (Pc.here _)) (is_i (by decide) (by decide)) (yN rfl (Pc.ty (Pc.here _)) (is_i (by decide) (by decide)) (yN rfl (Pc.tz (Pc.here _)) (is_i (by decide) (by decide)) fx_nil)))) mem0 rfl ?_
 intro v13 r13
 refine xQ (F := fun v_ => (rpA 7 (rpT rpI)).Is g5 v_ [(T3.mk (1 : Int) (0 : Int) (0 : Int)), (T3.mk (0 : Int) (1 : Int) (0 : Int)), (T3.mk (0 : Int) (0 : Int) (1 : Int)), (T3.mk (1 : Int) (1 : Int) (0 : Int)), (T3.mk (-1 : Int) (0 : Int) (0 : Int)), (T3.mk (1 : Int) (-1 : Int) (2 : Int)), (T3.mk (0 : Int) (2 : Int) (1 : Int))]) (ox_build_arr (ps' := [(0, _), (1, _), (2, _), (3, _), (4, _), (5, _), (6, _)]) underlying67 info67 rfl rfl sizeOf66 ⟨rfl, rfl, rfl, rfl, rfl, rfl, rfl, rfl, rfl, rfl, rfl, rfl, rfl, rfl, trivial⟩ rfl (zr_a 7 (zr_t zr_i)) (yN rfl (Pc.arr (Pc.here _) (T3.mk (0 : Int) (0 : Int) (0 : Int)) 0 (by decide)) r7 (yN rfl (Pc.arr (Pc.here _) (T3.mk (0 : Int) (0 : Int) (0 : Int)) 1 (by decide)) r8 (yN rfl (Pc.arr (Pc.here _) (T3.mk (0 : Int) (0 : Int) (0 : Int)) 2 (by decide)) r9 (yN rfl (Pc.arr (Pc.here _) (T3.mk (0 : Int) (0 : Int) (0 : Int)) 3 (by decide)) r10 (yN rfl (Pc.arr (Pc.here _) (T3.mk (0 : Int) (0 : Int) (0 : Int)) 4 (by decide)) r11 (yN rfl (Pc.arr (Pc.here _) (T3.mk (0 : Int) (0 : Int) (0 : Int)) 5 (by decide)) r12 (yN rfl (Pc.arr (Pc.here _) (T3.mk (0 : Int) (0 : Int) (0 : Int)) 6 (by decide)) r13 fx_nil)))))))) mem0 rfl ?_
 intro v14 r14
 refine mv rfl rfl ?_
 replace hl := hl.mono hg5
 refine xT (A := [_]) (vs := [_, vI (7)]) call22 e2z (fun X w hs => dice_next hl (by first | omega | exact Nat.zero_le _) (by omega) (by omega) hs) rfl ?_
 intro v16 g16 q16 hg16 hr16
 obtain ⟨k16, z16, rfl, hk16, rfl, hz16, hy16⟩ := hr16
 replace r14 := r14.mono hg16
 refine xQ (F := fun v_ => (rpT rpI).Is g16 v_ ([(T3.mk (1 : Int) (0 : Int) (0 : Int)), (T3.mk (0 : Int) (1 : Int) (0 : Int)), (T3.mk (0 : Int) (0 : Int) (1 : Int)), (T3.mk (1 : Int) (1 : Int) (0 : Int)), (T3.mk (-1 : Int) (0 : Int) (0 : Int)), (T3.mk (1 : Int) (-1 : Int) (2 : Int)), (T3.mk (0 : Int) (2 : Int) (1 : Int))].getD z16.toNat (T3.mk (0 : Int) (0 : Int) (0 : Int)))) (ox_index z16.toNat underlying67 ty66 (Pc.arr (Pc.here _) (T3.mk (0 : Int) (0 : Int) (0 : Int)) z16.toNat (by omega)) rfl rfl rfl rfl r14 (by omega) (by omega) rfl) mem0 rfl ?_
 intro v17 r17
 refine zJ (yQ (ρ := (rpT rpI)) (X := (T3.mk (0 : Int) (0 : Int) (0 : Int))) info66 rfl rfl (zr_t zr_i)) rfl rfl rfl ?_
 intro v3 q3 hq3
 obtain ⟨b3, cs3, rfl, rfl, rb3⟩ := hq3
 refine xO (A := []) (F := fun c_ => (rpT rpI).R g16 c_ ([(T3.mk (1 : Int) (0 : Int) (0 : Int)), (T3.mk (0 : Int) (1 : Int) (0 : Int)), (T3.mk (0 : Int) (0 : Int) (1 : Int)), (T3.mk (1 : Int) (1 : Int) (0 : Int)), (T3.mk (-1 : Int) (0 : Int) (0 : Int)), (T3.mk (1 : Int) (-1 : Int) (2 : Int)), (T3.mk (0 : Int) (2 : Int) (1 : Int))].getD z16.toNat (T3.mk (0 : Int) (0 : Int) (0 : Int)))) (zX sizeOf66 (Pc.here _) rfl rfl rfl rb3 r17 rfl) ?_
 intro cs_46 rb_47
 refine zD (zK (e' := [(0, _), (2, _), (3, _)]) e3z (zB (zC (zA (gv ((zF (sz := 1) (q := 0) 0 underlying66 sizeOf3 rfl rfl rfl (by decide)).cv (show _ = vP b3 0 from congrArg (vP b3) (by rfl))) rfl (xQ (F := fun v_ => rpI.Is g16 v_ (([(T3.mk (1 : Int) (0 : Int) (0 : Int)), (T3.mk (0 : Int) (1 : Int) (0 : Int)), (T3.mk (0 : Int) (0 : Int) (1 : Int)), (T3.mk (1 : Int) (1 : Int) (0 : Int)), (T3.mk (-1 : Int) (0 : Int) (0 : Int)), (T3.mk (1 : Int) (-1 : Int) (2 : Int)), (T3.mk (0 : Int) (2 : Int) (1 : Int))].getD z16.toNat (T3.mk (0 : Int) (0 : Int) (0 : Int))).x)) (zE ty3 (Pc.tx (Pc.here _)) rfl rfl rb_47 rfl) (yD (.head _)) rfl ?_))))))
 intro v19 r19
 obtain ⟨rfl, hl19, hu19⟩ := of_i r19
 refine gv ((zF (sz := 1) (q := 1) 1 underlying66 sizeOf3 rfl rfl rfl (by decide)).cv (show _ = vP b3 1 from congrArg (vP b3) (by rfl))) rfl (xQ (F := fun v_ => rpI.Is g16 v_ (([(T3.mk (1 : Int) (0 : Int) (0 : Int)), (T3.mk (0 : Int) (1 : Int) (0 : Int)), (T3.mk (0 : Int) (0 : Int) (1 : Int)), (T3.mk (1 : Int) (1 : Int) (0 : Int)), (T3.mk (-1 : Int) (0 : Int) (0 : Int)), (T3.mk (1 : Int) (-1 : Int) (2 : Int)), (T3.mk (0 : Int) (2 : Int) (1 : Int))].getD z16.toNat (T3.mk (0 : Int) (0 : Int) (0 : Int))).y)) (zE ty3 (Pc.ty (Pc.here _)) rfl rfl rb_47 rfl) (yD (.head _)) rfl ?_)
 intro v21 r21
 obtain ⟨rfl, hl21, hu21⟩ := of_i r21
 refine gv ((zF (sz := 1) (q := 2) 2 underlying66 sizeOf3 rfl rfl rfl (by decide)).cv (show _ = vP b3 2 from congrArg (vP b3) (by rfl))) rfl (xQ (F := fun v_ => rpI.Is g16 v_ (([(T3.mk (1 : Int) (0 : Int) (0 : Int)), (T3.mk (0 : Int) (1 : Int) (0 : Int)), (T3.mk (0 : Int) (0 : Int) (1 : Int)), (T3.mk (1 : Int) (1 : Int) (0 : Int)), (T3.mk (-1 : Int) (0 : Int) (0 : Int)), (T3.mk (1 : Int) (-1 : Int) (2 : Int)), (T3.mk (0 : Int) (2 : Int) (1 : Int))].getD z16.toNat (T3.mk (0 : Int) (0 : Int) (0 : Int))).z)) (zE ty3 (Pc.tz (Pc.here _)) rfl rfl rb_47 rfl) (yD (.head _)) rfl ?_)
 intro v23 r23
 obtain ⟨rfl, hl23, hu23⟩ := of_i r23
 refine zM (vs := [_, _, _]) rfl rfl rfl rfl call44 e3z (fun w hs => o_made_at3 hs (by omega) (by omega) (by omega) (by omega) (by omega) (by omega)) ?_
 intro v24 h1 hh1 r24
 change (rpT (rpQ 2)).Is h1 v24 (T3.mk (((([(T3.mk (1 : Int) (0 : Int) (0 : Int)), (T3.mk (0 : Int) (1 : Int) (0 : Int)), (T3.mk (0 : Int) (0 : Int) (1 : Int)), (T3.mk (1 : Int) (1 : Int) (0 : Int)), (T3.mk (-1 : Int) (0 : Int) (0 : Int)), (T3.mk (1 : Int) (-1 : Int) (2 : Int)), (T3.mk (0 : Int) (2 : Int) (1 : Int))].getD z16.toNat (T3.mk (0 : Int) (0 : Int) (0 : Int))).x) : Int) : Rat) (((([(T3.mk (1 : Int) (0 : Int) (0 : Int)), (T3.mk (0 : Int) (1 : Int) (0 : Int)), (T3.mk (0 : Int) (0 : Int) (1 : Int)), (T3.mk (1 : Int) (1 : Int) (0 : Int)), (T3.mk (-1 : Int) (0 : Int) (0 : Int)), (T3.mk (1 : Int) (-1 : Int) (2 : Int)), (T3.mk (0 : Int) (2 : Int) (1 : Int))].getD z16.toNat (T3.mk (0 : Int) (0 : Int) (0 : Int))).y) : Int) : Rat) (((([(T3.mk (1 : Int) (0 : Int) (0 : Int)), (T3.mk (0 : Int) (1 : Int) (0 : Int)), (T3.mk (0 : Int) (0 : Int) (1 : Int)), (T3.mk (1 : Int) (1 : Int) (0 : Int)), (T3.mk (-1 : Int) (0 : Int) (0 : Int)), (T3.mk (1 : Int) (-1 : Int) (2 : Int)), (T3.mk (0 : Int) (2 : Int) (1 : Int))].getD z16.toNat (T3.mk (0 : Int) (0 : Int) (0 : Int))).z) : Int) : Rat)) at r24
 refine mv rfl rfl ?_
 replace hl := hl.mono (hg16.trans hh1)
 refine xT (A := [_, _]) (vs := [_, vI (9)]) call22 e2z (fun X w hs => dice_next hl (by first | omega | exact Nat.zero_le _) (by omega) (by omega) hs) rfl ?_
 intro v26 g26 q26 hg26 hr26
 obtain ⟨k26, z26, rfl, hk26, rfl, hz26, hy26⟩ := hr26
 refine gv (xE (q := 1) rfl rfl (by omega) (by omega)) rfl ?_
 refine zM (vs := [_, vI (2)]) rfl rfl rfl rfl call46 e2z (fun w hs => o_rref_frac hs (by omega) (by omega) (by decide) (by decide)) ?_
 intro v28 h2 hh2 r28
 change (rpQ 2).Is h2 v28 (xR (z26 - (1 : Int)) (2 : Int)) at r28
 replace r24 := r24.mono (hg26.trans hh2)
 refine xQ (F := fun v_ => (rpP (rpT (rpQ 2)) (rpQ 2)).Is h2 v_ ((T3.mk (((([(T3.mk (1 : Int) (0 : Int) (0 : Int)), (T3.mk (0 : Int) (1 : Int) (0 : Int)), (T3.mk (0 : Int) (0 : Int) (1 : Int)), (T3.mk (1 : Int) (1 : Int) (0 : Int)), (T3.mk (-1 : Int) (0 : Int) (0 : Int)), (T3.mk (1 : Int) (-1 : Int) (2 : Int)), (T3.mk (0 : Int) (2 : Int) (1 : Int))].getD z16.toNat (T3.mk (0 : Int) (0 : Int) (0 : Int))).x) : Int) : Rat) (((([(T3.mk (1 : Int) (0 : Int) (0 : Int)), (T3.mk (0 : Int) (1 : Int) (0 : Int)), (T3.mk (0 : Int) (0 : Int) (1 : Int)), (T3.mk (1 : Int) (1 : Int) (0 : Int)), (T3.mk (-1 : Int) (0 : Int) (0 : Int)), (T3.mk (1 : Int) (-1 : Int) (2 : Int)), (T3.mk (0 : Int) (2 : Int) (1 : Int))].getD z16.toNat (T3.mk (0 : Int) (0 : Int) (0 : Int))).y) : Int) : Rat) (((([(T3.mk (1 : Int) (0 : Int) (0 : Int)), (T3.mk (0 : Int) (1 : Int) (0 : Int)), (T3.mk (0 : Int) (0 : Int) (1 : Int)), (T3.mk (1 : Int) (1 : Int) (0 : Int)), (T3.mk (-1 : Int) (0 : Int) (0 : Int)), (T3.mk (1 : Int) (-1 : Int) (2 : Int)), (T3.mk (0 : Int) (2 : Int) (1 : Int))].getD z16.toNat (T3.mk (0 : Int) (0 : Int) (0 : Int))).z) : Int) : Rat)), xR (z26 - (1 : Int)) (2 : Int))) (ox_build (ps' := [(0, _), (1, _)]) underlying34 info34 rfl rfl (places34 underlying34) e4z rfl (zr_p (zr_t (xS (by decide))) (xS (by decide))) (yN rfl (Pc.fst (Pc.here _)) r24 (yN rfl (Pc.snd (Pc.here _)) r28 fx_nil))) mem0 rfl ?_
 intro v29 r29
 replace rb2 := rb2.mono ((((hg5.trans hg16).trans hh1).trans hg26).trans hh2)
 refine xO (A := [_]) (F := fun c_ => (rpP (rpT (rpQ 2)) (rpQ 2)).R h2 c_ ((T3.mk (((([(T3.mk (1 : Int) (0 : Int) (0 : Int)), (T3.mk (0 : Int) (1 : Int) (0 : Int)), (T3.mk (0 : Int) (0 : Int) (1 : Int)), (T3.mk (1 : Int) (1 : Int) (0 : Int)), (T3.mk (-1 : Int) (0 : Int) (0 : Int)), (T3.mk (1 : Int) (-1 : Int) (2 : Int)), (T3.mk (0 : Int) (2 : Int) (1 : Int))].getD z16.toNat (T3.mk (0 : Int) (0 : Int) (0 : Int))).x) : Int) : Rat) (((([(T3.mk (1 : Int) (0 : Int) (0 : Int)), (T3.mk (0 : Int) (1 : Int) (0 : Int)), (T3.mk (0 : Int) (0 : Int) (1 : Int)), (T3.mk (1 : Int) (1 : Int) (0 : Int)), (T3.mk (-1 : Int) (0 : Int) (0 : Int)), (T3.mk (1 : Int) (-1 : Int) (2 : Int)), (T3.mk (0 : Int) (2 : Int) (1 : Int))].getD z16.toNat (T3.mk (0 : Int) (0 : Int) (0 : Int))).y) : Int) : Rat) (((([(T3.mk (1 : Int) (0 : Int) (0 : Int)), (T3.mk (0 : Int) (1 : Int) (0 : Int)), (T3.mk (0 : Int) (0 : Int) (1 : Int)), (T3.mk (1 : Int) (1 : Int) (0 : Int)), (T3.mk (-1 : Int) (0 : Int) (0 : Int)), (T3.mk (1 : Int) (-1 : Int) (2 : Int)), (T3.mk (0 : Int) (2 : Int) (1 : Int))].getD z16.toNat (T3.mk (0 : Int) (0 : Int) (0 : Int))).z) : Int) : Rat)), xR (z26 - (1 : Int)) (2 : Int))) (zX sizeOf34 (Pc.here _) rfl rfl rfl rb2 r29 rfl) ?_
 intro cs_48 rb_49
 refine zD (zK (e' := [(2, _)]) ⟨rfl, trivial⟩ (zB (zR (gq_exv (rv_o (t := 2) ty34 (.tail _ (.head _)) rfl rb_49) ?_))))
 intro w_50 hvw_50 rr_51
 refine gq_res_own (fun E S => yL rfl hvw_50 E S) ?_
 exact ⟨_, (.cons _ (.cons _ (List.Sublist.refl _))), ((((hg5.trans hg16).trans hh1).trans hg26).trans hh2), _, _, rfl, by omega, rr_51⟩
end Go.Proofs.YtghhjjmjpeehdaaGreat
namespace Go.Proofs.YtghhjjmjpeehdaaGreat
open Bk Go Tryz
set_option linter.unusedVariables false
set_option linter.unusedSimpArgs false
set_option maxRecDepth 10000
theorem o_dice_spot {w0 w : World} {h0 h : Mem} {b k : Nat} {vl : Value} {xs : List Int} (hl : Is h vl xs) (hk : k ≤ xs.length) {L : List Res} (hs : St w0 h0 (.var b 65 [vl, vI ↑k] :: L) h w) :
    Calls Tryz.prog 33 #[vP b 0] w (RetMut w0 h0 h L (fun g r q' => ∃ k' : Nat, ∃ m : T3 Rat, q' = .var b 65 [vl, vI ↑k'] ∧ k' ≤ xs.length ∧ (rpT (rpQ 2)).Is g r m)) := by
 have hlen := hl.lt63
 refine calls_begin_st (n := 22) (e := [(0, vP b 0)]) (vs := [vP b 0]) func33 rfl rfl (bL rfl) hs ⟨rfl, trivial⟩ (zC (zA (zJ (yQ (ρ := (rpT (rpQ 2))) (X := (T3.mk (0 : Rat) 0 0)) yI rfl rfl (zr_t (xS (by decide)))) rfl rfl rfl ?_)))
 intro v2 q2 hq2
 obtain ⟨b2, cs2, rfl, rfl, rb2⟩ := hq2
 refine zD (zB (zC (zA (zJ (yQ (ρ := (rpT (rpQ 2))) (X := (T3.mk (0 : Rat) 0 0)) yI rfl rfl (zr_t (xS (by decide)))) rfl rfl rfl ?_))))
 intro v3 q3 hq3
 obtain ⟨b3, cs3, rfl, rfl, rb3⟩ := hq3
 refine zD (zB (zC (zC (zA (asg (v := vI (0)) rfl rfl (zD (zB (zQ (gc_loop1 (zC (zC (zA (mv rfl rfl ?_)))))))))))))
 refine gv (OpV.tr (by decide) (zW (q := 3) rfl rfl)) rfl (zD (zB (xC rfl (zL (zB (zC (zQ (zC (zA (mv rfl rfl (mv rfl rfl ?_)))))))))))
 refine xT (A := [_, _]) (vs := [_, vI (5)]) call22 e2z (fun X w hs => dice_next hl (by first | omega | exact Nat.zero_le _) (by omega) (by omega) hs) rfl ?_
 intro v11u1 g11u1 q11u1 hg11u1 hr11u1
 obtain ⟨k11u1, z11u1, rfl, hk11u1, rfl, hz11u1, hy11u1⟩ := hr11u1
 refine zM (vs := [_]) rfl rfl rfl rfl call45 ⟨rfl, trivial⟩ (fun w hs => o_rref_int hs (by omega) (by omega)) ?_
 intro v12u1 h1 hh1 r12u1
 change (rpQ 2).Is h1 v12u1 ((z11u1 : Int) : Rat) at r12u1
 refine gv ((zF (sz := 3) 0 underlying32 sizeOf30 rfl rfl rfl (by decide)).cv (show _ = vP b3 0 from congrArg (vP b3) (by rfl))) rfl ?_
 replace rb3 := rb3.mono (hg11u1.trans hh1)
 refine xO (A := []) (F := fun c_ => (rpT (rpQ 2)).R h1 c_ (T3.mk ((z11u1 : Int) : Rat) (0 : Rat) (0 : Rat))) (zX sizeOf30 (Pc.tx (Pc.here _)) rfl rfl rfl rb3 r12u1 rfl) ?_
 intro cs_1 rb_2
 refine zD (zB (zC (zA (mv rfl rfl ?_))))
 replace hl := hl.mono (hg11u1.trans hh1)
 refine xT (A := [_, _]) (vs := [_, vI (4)]) call24 e2z (fun X w hs => o_dice_bool hl (by first | omega | exact Nat.zero_le _) (by omega) (by omega) hs) rfl ?_
 intro v15u1 g15u1 q15u1 hg15u1 hr15u1
 obtain ⟨k15u1, P15u1, rfl, hk15u1, rfl⟩ := hr15u1
 refine zD (zB ?_)
 refine zP rfl (fun hc15 => ?_) (fun hc15 => ?_)
 ·
  refine zA (mv rfl rfl (mv rfl rfl ?_))
  replace hl := hl.mono hg15u1
  refine xT (A := [_, _]) (vs := [_, vI (9)]) call22 e2z (fun X w hs => dice_next hl (by first | omega | exact Nat.zero_le _) (by omega) (by omega) hs) rfl ?_
  intro v18u1 g18u1 q18u1 hg18u1 hr18u1
  obtain ⟨k18u1, z18u1, rfl, hk18u1, rfl, hz18u1, hy18u1⟩ := hr18u1
  refine zM (vs := [_, vI (2)]) rfl rfl rfl rfl call46 e2z (fun w hs => o_rref_frac hs (by omega) (by omega) (by decide) (by decide)) ?_
  intro v19u1 h2 hh2 r19u1
  change (rpQ 2).Is h2 v19u1 (xR z18u1 (2 : Int)) at r19u1
  refine gv ((zF (sz := 3) 0 underlying32 sizeOf30 rfl rfl rfl (by decide)).cv (show _ = vP b3 0 from congrArg (vP b3) (by rfl))) rfl ?_
  replace rb_2 := rb_2.mono ((hg15u1.trans hg18u1).trans hh2)
  refine xO (A := []) (F := fun c_ => (rpT (rpQ 2)).R h2 c_ (T3.mk (xR z18u1 (2 : Int)) (0 : Rat) (0 : Rat))) (zX sizeOf30 (Pc.tx (Pc.here _)) rfl rfl rfl rb_2 r19u1 rfl) ?_
  intro cs_3 rb_4
  refine zD (yY (zK (e' := [(0, _), (2, _), (3, _), (4, _)]) e4z (zB (zA (mv rfl rfl (gv ((zS (q := 1) rfl rfl (by omega) (by omega)).cv (show _ = vI (1) from rfl)) rfl (asg rfl rfl (zD (xI (zC (zC (zA (mv rfl rfl ?_)))))))))))))
  refine gv (OpV.tr (by decide) (zW (q := 3) rfl rfl)) rfl (zD (zB (xC rfl (zL (zB (zC (zQ (zC (zA (mv rfl rfl (mv rfl rfl ?_)))))))))))
  replace hl := hl.mono (hg18u1.trans hh2)
  refine xT (A := [_, _]) (vs := [_, vI (5)]) call22 e2z (fun X w hs => dice_next hl (by first | omega | exact Nat.zero_le _) (by omega) (by omega) hs) rfl ?_
  intro v11u2 g11u2 q11u2 hg11u2 hr11u2
  obtain ⟨k11u2, z11u2, rfl, hk11u2, rfl, hz11u2, hy11u2⟩ := hr11u2
  refine zM (vs := [_]) rfl rfl rfl rfl call45 ⟨rfl, trivial⟩ (fun w hs => o_rref_int hs (by omega) (by omega)) ?_
  intro v12u2 h3 hh3 r12u2
  change (rpQ 2).Is h3 v12u2 ((z11u2 : Int) : Rat) at r12u2
  refine gv ((zF (sz := 3) 1 underlying32 sizeOf30 rfl rfl rfl (by decide)).cv (show _ = vP b3 3 from congrArg (vP b3) (by rfl))) rfl ?_
  replace rb_4 := rb_4.mono (hg11u2.trans hh3)
  refine xO (A := []) (F := fun c_ => (rpT (rpQ 2)).R h3 c_ (T3.mk (xR z18u1 (2 : Int)) ((z11u2 : Int) : Rat) (0 : Rat))) (zX sizeOf30 (Pc.ty (Pc.here _)) rfl rfl rfl rb_4 r12u2 rfl) ?_
  intro cs_5 rb_6
  refine zD (zB (zC (zA (mv rfl rfl ?_))))
  replace hl := hl.mono (hg11u2.trans hh3)
  refine xT (A := [_, _]) (vs := [_, vI (4)]) call24 e2z (fun X w hs => o_dice_bool hl (by first | omega | exact Nat.zero_le _) (by omega) (by omega) hs) rfl ?_
  intro v15u2 g15u2 q15u2 hg15u2 hr15u2
  obtain ⟨k15u2, P15u2, rfl, hk15u2, rfl⟩ := hr15u2
  refine zD (zK (e' := [(0, _), (2, _), (3, _), (4, _), (15, _)]) e5 (zB ?_))
  refine zP rfl (fun hc15 => ?_) (fun hc15 => ?_)
  ·
   refine zA (mv rfl rfl (mv rfl rfl ?_))
   replace hl := hl.mono hg15u2
   refine xT (A := [_, _]) (vs := [_, vI (9)]) call22 e2z (fun X w hs => dice_next hl (by first | omega | exact Nat.zero_le _) (by omega) (by omega) hs) rfl ?_
   intro v18u2 g18u2 q18u2 hg18u2 hr18u2
   obtain ⟨k18u2, z18u2, rfl, hk18u2, rfl, hz18u2, hy18u2⟩ := hr18u2
   refine zM (vs := [_, vI (2)]) rfl rfl rfl rfl call46 e2z (fun w hs => o_rref_frac hs (by omega) (by omega) (by decide) (by decide)) ?_
   intro v19u2 h4 hh4 r19u2
   change (rpQ 2).Is h4 v19u2 (xR z18u2 (2 : Int)) at r19u2
   refine gv ((zF (sz := 3) 1 underlying32 sizeOf30 rfl rfl rfl (by decide)).cv (show _ = vP b3 3 from congrArg (vP b3) (by rfl))) rfl ?_
   replace rb_6 := rb_6.mono ((hg15u2.trans hg18u2).trans hh4)
   refine xO (A := []) (F := fun c_ => (rpT (rpQ 2)).R h4 c_ (T3.mk (xR z18u1 (2 : Int)) (xR z18u2 (2 : Int)) (0 : Rat))) (zX sizeOf30 (Pc.ty (Pc.here _)) rfl rfl rfl rb_6 r19u2 rfl) ?_
   intro cs_7 rb_8
   refine zD (yY (zB (zA (mv rfl rfl (gv ((zS (q := 1) rfl rfl (by omega) (by omega)).cv (show _ = vI (2) from rfl)) rfl (asg rfl rfl (zD (xI (zC (zC (zA (mv rfl rfl (gv (OpV.tr (by decide) (zW (q := 3) rfl rfl)) rfl ?_)))))))))))))
   refine zD (zB (xC rfl (zL (zK (e' := [(0, _), (2, _), (3, _), (4, _)]) e4z (zB (zC (zQ (zC (zA (mv rfl rfl (mv rfl rfl ?_)))))))))))
   replace hl := hl.mono (hg18u2.trans hh4)
   refine xT (A := [_, _]) (vs := [_, vI (5)]) call22 e2z (fun X w hs => dice_next hl (by first | omega | exact Nat.zero_le _) (by omega) (by omega) hs) rfl ?_
   intro v11u3 g11u3 q11u3 hg11u3 hr11u3
   obtain ⟨k11u3, z11u3, rfl, hk11u3, rfl, hz11u3, hy11u3⟩ := hr11u3
   refine zM (vs := [_]) rfl rfl rfl rfl call45 ⟨rfl, trivial⟩ (fun w hs => o_rref_int hs (by omega) (by omega)) ?_
   intro v12u3 h5 hh5 r12u3
   change (rpQ 2).Is h5 v12u3 ((z11u3 : Int) : Rat) at r12u3
   refine gv ((zF (sz := 3) 2 underlying32 sizeOf30 rfl rfl rfl (by decide)).cv (show _ = vP b3 6 from congrArg (vP b3) (by rfl))) rfl ?_
   replace rb_8 := rb_8.mono (hg11u3.trans hh5)
   refine xO (A := []) (F := fun c_ => (rpT (rpQ 2)).R h5 c_ (T3.mk (xR z18u1 (2 : Int)) (xR z18u2 (2 : Int)) ((z11u3 : Int) : Rat))) (zX sizeOf30 (Pc.tz (Pc.here _)) rfl rfl rfl rb_8 r12u3 rfl) ?_
   intro cs_9 rb_10
   refine zD (zB (zC (zA (mv rfl rfl ?_))))
   replace hl := hl.mono (hg11u3.trans hh5)
   refine xT (A := [_, _]) (vs := [_, vI (4)]) call24 e2z (fun X w hs => o_dice_bool hl (by first | omega | exact Nat.zero_le _) (by omega) (by omega) hs) rfl ?_
   intro v15u3 g15u3 q15u3 hg15u3 hr15u3
   obtain ⟨k15u3, P15u3, rfl, hk15u3, rfl⟩ := hr15u3
   refine zD (zB ?_)
   refine zP rfl (fun hc15 => ?_) (fun hc15 => ?_)
   ·
    refine zA (mv rfl rfl (mv rfl rfl ?_))
    replace hl := hl.mono hg15u3
    refine xT (A := [_, _]) (vs := [_, vI (9)]) call22 e2z (fun X w hs => dice_next hl (by first | omega | exact Nat.zero_le _) (by omega) (by omega) hs) rfl ?_
    intro v18u3 g18u3 q18u3 hg18u3 hr18u3
    obtain ⟨k18u3, z18u3, rfl, hk18u3, rfl, hz18u3, hy18u3⟩ := hr18u3
    refine zM (vs := [_, vI (2)]) rfl rfl rfl rfl call46 e2z (fun w hs => o_rref_frac hs (by omega) (by omega) (by decide) (by decide)) ?_
    intro v19u3 h6 hh6 r19u3
    change (rpQ 2).Is h6 v19u3 (xR z18u3 (2 : Int)) at r19u3
    refine gv ((zF (sz := 3) 2 underlying32 sizeOf30 rfl rfl rfl (by decide)).cv (show _ = vP b3 6 from congrArg (vP b3) (by rfl))) rfl ?_
    replace rb_10 := rb_10.mono ((hg15u3.trans hg18u3).trans hh6)
    refine xO (A := []) (F := fun c_ => (rpT (rpQ 2)).R h6 c_ (T3.mk (xR z18u1 (2 : Int)) (xR z18u2 (2 : Int)) (xR z18u3 (2 : Int)))) (zX sizeOf30 (Pc.tz (Pc.here _)) rfl rfl rfl rb_10 r19u3 rfl) ?_
    intro cs_11 rb_12
    refine zD (yY (zK (e' := [(0, _), (2, _), (3, _), (4, _)]) e4z (zB (zA (mv rfl rfl (gv ((zS (q := 1) rfl rfl (by omega) (by omega)).cv (show _ = vI (3) from rfl)) rfl (asg rfl rfl (zD (xI (zC (zC (zA (mv rfl rfl ?_)))))))))))))
    refine gv (OpV.fa (by decide) (zW (q := 3) rfl rfl)) rfl (zD (zB (gc_cond_f rfl (xK (yE (yE (xJ (zB (zC (zA (xQ (F := fun v_ => (rpT (rpQ 2)).Is h6 v_ (T3.mk (xR z18u1 (2 : Int)) (xR z18u2 (2 : Int)) (xR z18u3 (2 : Int)))) (zE xF (Pc.here _) rfl rfl rb_12 rfl) (yD (.head _)) rfl ?_)))))))))))
    intro v21u4 r21u4
    replace rb2 := rb2.mono ((((((((((((((hg11u1.trans hh1).trans hg15u1).trans hg18u1).trans hh2).trans hg11u2).trans hh3).trans hg15u2).trans hg18u2).trans hh4).trans hg11u3).trans hh5).trans hg15u3).trans hg18u3).trans hh6)
    refine xO (A := [_]) (F := fun c_ => (rpT (rpQ 2)).R h6 c_ (T3.mk (xR z18u1 (2 : Int)) (xR z18u2 (2 : Int)) (xR z18u3 (2 : Int)))) (zX sizeOf32 (Pc.here _) rfl rfl rfl rb2 r21u4 rfl) ?_
    intro cs_13 rb_14
    refine zD (zB (zR (gq_exv (rv_o (t := 2) xF (.tail _ (.head _)) rfl rb_14) ?_)))
    intro w_15 hvw_15 rr_16
    refine gq_res_own (fun E S => yL rfl hvw_15 E S) ?_
    exact ⟨_, (.cons _ (.cons _ (List.Sublist.refl _))), ((((((((((((((hg11u1.trans hh1).trans hg15u1).trans hg18u1).trans hh2).trans hg11u2).trans hh3).trans hg15u2).trans hg18u2).trans hh4).trans hg11u3).trans hh5).trans hg15u3).trans hg18u3).trans hh6), _, _, rfl, by omega, rr_16⟩
   refine zL (yY (zB (zA (mv rfl rfl (gv ((zS (q := 1) rfl rfl (by omega) (by omega)).cv (show _ = vI (3) from rfl)) rfl (asg rfl rfl (zD (xI (zC (zC (zA (mv rfl rfl (gv (OpV.fa (by decide) (zW (q := 3) rfl rfl)) rfl ?_)))))))))))))
   refine zD (zK (e' := [(0, _), (2, _), (3, _), (4, _), (6, _)]) e5 (zB (gc_cond_f rfl (xK (yE (yE (xJ (zB (zC (zA ?_))))))))))
   replace rb_10 := rb_10.mono hg15u3
   refine xQ (F := fun v_ => (rpT (rpQ 2)).Is g15u3 v_ (T3.mk (xR z18u1 (2 : Int)) (xR z18u2 (2 : Int)) ((z11u3 : Int) : Rat))) (zE xF (Pc.here _) rfl rfl rb_10 rfl) (yD (.head _)) rfl ?_
   intro v21u5 r21u5
   replace rb2 := rb2.mono ((((((((((((hg11u1.trans hh1).trans hg15u1).trans hg18u1).trans hh2).trans hg11u2).trans hh3).trans hg15u2).trans hg18u2).trans hh4).trans hg11u3).trans hh5).trans hg15u3)
   refine xO (A := [_]) (F := fun c_ => (rpT (rpQ 2)).R g15u3 c_ (T3.mk (xR z18u1 (2 : Int)) (xR z18u2 (2 : Int)) ((z11u3 : Int) : Rat))) (zX sizeOf32 (Pc.here _) rfl rfl rfl rb2 r21u5 rfl) ?_
   intro cs_17 rb_18
   refine zD (zB (zR (gq_exv (rv_o (t := 2) xF (.tail _ (.head _)) rfl rb_18) ?_)))
   intro w_19 hvw_19 rr_20
   refine gq_res_own (fun E S => yL rfl hvw_19 E S) ?_
   exact ⟨_, (.cons _ (.cons _ (List.Sublist.refl _))), ((((((((((((hg11u1.trans hh1).trans hg15u1).trans hg18u1).trans hh2).trans hg11u2).trans hh3).trans hg15u2).trans hg18u2).trans hh4).trans hg11u3).trans hh5).trans hg15u3), _, _, rfl, by omega, rr_20⟩
  refine zL (yY (zB (zA (mv rfl rfl (gv ((zS (q := 1) rfl rfl (by omega) (by omega)).cv (show _ = vI (2) from rfl)) rfl (asg rfl rfl (zD (xI (zC (zC (zA (mv rfl rfl (gv (OpV.tr (by decide) (zW (q := 3) rfl rfl)) rfl ?_)))))))))))))
  refine zD (zB (xC rfl (zL (zB (zC (zQ (zC (zA (mv rfl rfl (mv rfl rfl ?_))))))))))
  replace hl := hl.mono hg15u2
  refine xT (A := [_, _]) (vs := [_, vI (5)]) call22 e2z (fun X w hs => dice_next hl (by first | omega | exact Nat.zero_le _) (by omega) (by omega) hs) rfl ?_
  intro v11u6 g11u6 q11u6 hg11u6 hr11u6
  obtain ⟨k11u6, z11u6, rfl, hk11u6, rfl, hz11u6, hy11u6⟩ := hr11u6
  refine zM (vs := [_]) rfl rfl rfl rfl call45 ⟨rfl, trivial⟩ (fun w hs => o_rref_int hs (by omega) (by omega)) ?_
  intro v12u6 h4 hh4 r12u6
  change (rpQ 2).Is h4 v12u6 ((z11u6 : Int) : Rat) at r12u6
  refine gv ((zF (sz := 3) 2 underlying32 sizeOf30 rfl rfl rfl (by decide)).cv (show _ = vP b3 6 from congrArg (vP b3) (by rfl))) rfl ?_
  replace rb_6 := rb_6.mono ((hg15u2.trans hg11u6).trans hh4)
  refine xO (A := []) (F := fun c_ => (rpT (rpQ 2)).R h4 c_ (T3.mk (xR z18u1 (2 : Int)) ((z11u2 : Int) : Rat) ((z11u6 : Int) : Rat))) (zX sizeOf30 (Pc.tz (Pc.here _)) rfl rfl rfl rb_6 r12u6 rfl) ?_
  intro cs_21 rb_22
  refine zD (zK (e' := [(0, _), (2, _), (3, _), (4, _)]) e4z (zB (zC (zA (mv rfl rfl ?_)))))
  replace hl := hl.mono (hg11u6.trans hh4)
  refine xT (A := [_, _]) (vs := [_, vI (4)]) call24 e2z (fun X w hs => o_dice_bool hl (by first | omega | exact Nat.zero_le _) (by omega) (by omega) hs) rfl ?_
  intro v15u6 g15u6 q15u6 hg15u6 hr15u6
  obtain ⟨k15u6, P15u6, rfl, hk15u6, rfl⟩ := hr15u6
  refine zD (zB ?_)
  refine zP rfl (fun hc15 => ?_) (fun hc15 => ?_)
  ·
   refine zA (mv rfl rfl (mv rfl rfl ?_))
   replace hl := hl.mono hg15u6
   refine xT (A := [_, _]) (vs := [_, vI (9)]) call22 e2z (fun X w hs => dice_next hl (by first | omega | exact Nat.zero_le _) (by omega) (by omega) hs) rfl ?_
   intro v18u6 g18u6 q18u6 hg18u6 hr18u6
   obtain ⟨k18u6, z18u6, rfl, hk18u6, rfl, hz18u6, hy18u6⟩ := hr18u6
   refine zM (vs := [_, vI (2)]) rfl rfl rfl rfl call46 e2z (fun w hs => o_rref_frac hs (by omega) (by omega) (by decide) (by decide)) ?_
   intro v19u6 h5 hh5 r19u6
   change (rpQ 2).Is h5 v19u6 (xR z18u6 (2 : Int)) at r19u6
   refine gv ((zF (sz := 3) 2 underlying32 sizeOf30 rfl rfl rfl (by decide)).cv (show _ = vP b3 6 from congrArg (vP b3) (by rfl))) rfl ?_
   replace rb_22 := rb_22.mono ((hg15u6.trans hg18u6).trans hh5)
   refine xO (A := []) (F := fun c_ => (rpT (rpQ 2)).R h5 c_ (T3.mk (xR z18u1 (2 : Int)) ((z11u2 : Int) : Rat) (xR z18u6 (2 : Int)))) (zX sizeOf30 (Pc.tz (Pc.here _)) rfl rfl rfl rb_22 r19u6 rfl) ?_
   intro cs_23 rb_24
   refine zD (yY (zB (zA (mv rfl rfl (gv ((zS (q := 1) rfl rfl (by omega) (by omega)).cv (show _ = vI (3) from rfl)) rfl (asg rfl rfl (zD (xI (zC (zC (zA (mv rfl rfl (gv (OpV.fa (by decide) (zW (q := 3) rfl rfl)) rfl ?_)))))))))))))
   refine zD (zK (e' := [(0, _), (2, _), (3, _), (4, _), (6, _)]) e5 (zB (gc_cond_f rfl (xK (yE (yE (xJ (zB (zC (zA (xQ (F := fun v_ => (rpT (rpQ 2)).Is h5 v_ (T3.mk (xR z18u1 (2 : Int)) ((z11u2 : Int) : Rat) (xR z18u6 (2 : Int)))) (zE xF (Pc.here _) rfl rfl rb_24 rfl) (yD (.head _)) rfl ?_)))))))))))
   intro v21u7 r21u7
   replace rb2 := rb2.mono ((((((((((((hg11u1.trans hh1).trans hg15u1).trans hg18u1).trans hh2).trans hg11u2).trans hh3).trans hg15u2).trans hg11u6).trans hh4).trans hg15u6).trans hg18u6).trans hh5)
   refine xO (A := [_]) (F := fun c_ => (rpT (rpQ 2)).R h5 c_ (T3.mk (xR z18u1 (2 : Int)) ((z11u2 : Int) : Rat) (xR z18u6 (2 : Int)))) (zX sizeOf32 (Pc.here _) rfl rfl rfl rb2 r21u7 rfl) ?_
   intro cs_25 rb_26
   refine zD (zB (zR (gq_exv (rv_o (t := 2) xF (.tail _ (.head _)) rfl rb_26) ?_)))
   intro w_27 hvw_27 rr_28
   refine gq_res_own (fun E S => yL rfl hvw_27 E S) ?_
   exact ⟨_, (.cons _ (.cons _ (List.Sublist.refl _))), ((((((((((((hg11u1.trans hh1).trans hg15u1).trans hg18u1).trans hh2).trans hg11u2).trans hh3).trans hg15u2).trans hg11u6).trans hh4).trans hg15u6).trans hg18u6).trans hh5), _, _, rfl, by omega, rr_28⟩
  refine zL (yY (zB (zA (mv rfl rfl (gv ((zS (q := 1) rfl rfl (by omega) (by omega)).cv (show _ = vI (3) from rfl)) rfl (asg rfl rfl (zD (xI (zC (zC (zA (mv rfl rfl (gv (OpV.fa (by decide) (zW (q := 3) rfl rfl)) rfl ?_)))))))))))))
  refine zD (zB (gc_cond_f rfl (xK (yE (yE (xJ (zB (zC (zA ?_)))))))))
  replace rb_22 := rb_22.mono hg15u6
  refine xQ (F := fun v_ => (rpT (rpQ 2)).Is g15u6 v_ (T3.mk (xR z18u1 (2 : Int)) ((z11u2 : Int) : Rat) ((z11u6 : Int) : Rat))) (zE xF (Pc.here _) rfl rfl rb_22 rfl) (yD (.head _)) rfl ?_
  intro v21u8 r21u8
  replace rb2 := rb2.mono ((((((((((hg11u1.trans hh1).trans hg15u1).trans hg18u1).trans hh2).trans hg11u2).trans hh3).trans hg15u2).trans hg11u6).trans hh4).trans hg15u6)
  refine xO (A := [_]) (F := fun c_ => (rpT (rpQ 2)).R g15u6 c_ (T3.mk (xR z18u1 (2 : Int)) ((z11u2 : Int) : Rat) ((z11u6 : Int) : Rat))) (zX sizeOf32 (Pc.here _) rfl rfl rfl rb2 r21u8 rfl) ?_
  intro cs_29 rb_30
  refine zD (zK (e' := [(2, _)]) ⟨rfl, trivial⟩ (zB (zR (gq_exv (rv_o (t := 2) xF (.tail _ (.head _)) rfl rb_30) ?_))))
  intro w_31 hvw_31 rr_32
  refine gq_res_own (fun E S => yL rfl hvw_31 E S) ?_
  exact ⟨_, (.cons _ (.cons _ (List.Sublist.refl _))), ((((((((((hg11u1.trans hh1).trans hg15u1).trans hg18u1).trans hh2).trans hg11u2).trans hh3).trans hg15u2).trans hg11u6).trans hh4).trans hg15u6), _, _, rfl, by omega, rr_32⟩
 refine zL (yY (zB (zA (mv rfl rfl (gv ((zS (q := 1) rfl rfl (by omega) (by omega)).cv (show _ = vI (1) from rfl)) rfl (asg rfl rfl (zD (zK (e' := [(0, _), (2, _), (3, _), (4, _)]) e4z (xI (zC (zC (zA (mv rfl rfl ?_)))))))))))))
 refine gv (OpV.tr (by decide) (zW (q := 3) rfl rfl)) rfl (zD (zB (xC rfl (zL (zB (zC (zQ (zC (zA (mv rfl rfl (mv rfl rfl ?_)))))))))))
 replace hl := hl.mono hg15u1
 refine xT (A := [_, _]) (vs := [_, vI (5)]) call22 e2z (fun X w hs => dice_next hl (by first | omega | exact Nat.zero_le _) (by omega) (by omega) hs) rfl ?_
 intro v11u9 g11u9 q11u9 hg11u9 hr11u9
 obtain ⟨k11u9, z11u9, rfl, hk11u9, rfl, hz11u9, hy11u9⟩ := hr11u9
 refine zM (vs := [_]) rfl rfl rfl rfl call45 ⟨rfl, trivial⟩ (fun w hs => o_rref_int hs (by omega) (by omega)) ?_
 intro v12u9 h2 hh2 r12u9
 change (rpQ 2).Is h2 v12u9 ((z11u9 : Int) : Rat) at r12u9
 refine gv ((zF (sz := 3) 1 underlying32 sizeOf30 rfl rfl rfl (by decide)).cv (show _ = vP b3 3 from congrArg (vP b3) (by rfl))) rfl ?_
 replace rb_2 := rb_2.mono ((hg15u1.trans hg11u9).trans hh2)
 refine xO (A := []) (F := fun c_ => (rpT (rpQ 2)).R h2 c_ (T3.mk ((z11u1 : Int) : Rat) ((z11u9 : Int) : Rat) (0 : Rat))) (zX sizeOf30 (Pc.ty (Pc.here _)) rfl rfl rfl rb_2 r12u9 rfl) ?_
 intro cs_33 rb_34
 refine zD (zB (zC (zA (mv rfl rfl ?_))))
 replace hl := hl.mono (hg11u9.trans hh2)
 refine xT (A := [_, _]) (vs := [_, vI (4)]) call24 e2z (fun X w hs => o_dice_bool hl (by first | omega | exact Nat.zero_le _) (by omega) (by omega) hs) rfl ?_
 intro v15u9 g15u9 q15u9 hg15u9 hr15u9
 obtain ⟨k15u9, P15u9, rfl, hk15u9, rfl⟩ := hr15u9
 refine zD (zB ?_)
 refine zP rfl (fun hc15 => ?_) (fun hc15 => ?_)
 ·
  refine zA (mv rfl rfl (mv rfl rfl ?_))
  replace hl := hl.mono hg15u9
  refine xT (A := [_, _]) (vs := [_, vI (9)]) call22 e2z (fun X w hs => dice_next hl (by first | omega | exact Nat.zero_le _) (by omega) (by omega) hs) rfl ?_
  intro v18u9 g18u9 q18u9 hg18u9 hr18u9
  obtain ⟨k18u9, z18u9, rfl, hk18u9, rfl, hz18u9, hy18u9⟩ := hr18u9
  refine zM (vs := [_, vI (2)]) rfl rfl rfl rfl call46 e2z (fun w hs => o_rref_frac hs (by omega) (by omega) (by decide) (by decide)) ?_
  intro v19u9 h3 hh3 r19u9
  change (rpQ 2).Is h3 v19u9 (xR z18u9 (2 : Int)) at r19u9
  refine gv ((zF (sz := 3) 1 underlying32 sizeOf30 rfl rfl rfl (by decide)).cv (show _ = vP b3 3 from congrArg (vP b3) (by rfl))) rfl ?_
  replace rb_34 := rb_34.mono ((hg15u9.trans hg18u9).trans hh3)
  refine xO (A := []) (F := fun c_ => (rpT (rpQ 2)).R h3 c_ (T3.mk ((z11u1 : Int) : Rat) (xR z18u9 (2 : Int)) (0 : Rat))) (zX sizeOf30 (Pc.ty (Pc.here _)) rfl rfl rfl rb_34 r19u9 rfl) ?_
  intro cs_35 rb_36
  refine zD (yY (zK (e' := [(0, _), (2, _), (3, _), (4, _)]) e4z (zB (zA (mv rfl rfl (gv ((zS (q := 1) rfl rfl (by omega) (by omega)).cv (show _ = vI (2) from rfl)) rfl (asg rfl rfl (zD (xI (zC (zC (zA (mv rfl rfl ?_)))))))))))))
  refine gv (OpV.tr (by decide) (zW (q := 3) rfl rfl)) rfl (zD (zB (xC rfl (zL (zB (zC (zQ (zC (zA (mv rfl rfl (mv rfl rfl ?_)))))))))))
  replace hl := hl.mono (hg18u9.trans hh3)
  refine xT (A := [_, _]) (vs := [_, vI (5)]) call22 e2z (fun X w hs => dice_next hl (by first | omega | exact Nat.zero_le _) (by omega) (by omega) hs) rfl ?_
  intro v11u10 g11u10 q11u10 hg11u10 hr11u10
  obtain ⟨k11u10, z11u10, rfl, hk11u10, rfl, hz11u10, hy11u10⟩ := hr11u10
  refine zM (vs := [_]) rfl rfl rfl rfl call45 ⟨rfl, trivial⟩ (fun w hs => o_rref_int hs (by omega) (by omega)) ?_
  intro v12u10 h4 hh4 r12u10
  change (rpQ 2).Is h4 v12u10 ((z11u10 : Int) : Rat) at r12u10
  refine gv ((zF (sz := 3) 2 underlying32 sizeOf30 rfl rfl rfl (by decide)).cv (show _ = vP b3 6 from congrArg (vP b3) (by rfl))) rfl ?_
  replace rb_36 := rb_36.mono (hg11u10.trans hh4)
  refine xO (A := []) (F := fun c_ => (rpT (rpQ 2)).R h4 c_ (T3.mk ((z11u1 : Int) : Rat) (xR z18u9 (2 : Int)) ((z11u10 : Int) : Rat))) (zX sizeOf30 (Pc.tz (Pc.here _)) rfl rfl rfl rb_36 r12u10 rfl) ?_
  intro cs_37 rb_38
  refine zD (zB (zC (zA (mv rfl rfl ?_))))
  replace hl := hl.mono (hg11u10.trans hh4)
  refine xT (A := [_, _]) (vs := [_, vI (4)]) call24 e2z (fun X w hs => o_dice_bool hl (by first | omega | exact Nat.zero_le _) (by omega) (by omega) hs) rfl ?_
  intro v15u10 g15u10 q15u10 hg15u10 hr15u10
  obtain ⟨k15u10, P15u10, rfl, hk15u10, rfl⟩ := hr15u10
  refine zD (zK (e' := [(0, _), (2, _), (3, _), (4, _), (15, _)]) e5 (zB ?_))
  refine zP rfl (fun hc15 => ?_) (fun hc15 => ?_)
  ·
   refine zA (mv rfl rfl (mv rfl rfl ?_))
   replace hl := hl.mono hg15u10
   refine xT (A := [_, _]) (vs := [_, vI (9)]) call22 e2z (fun X w hs => dice_next hl (by first | omega | exact Nat.zero_le _) (by omega) (by omega) hs) rfl ?_
   intro v18u10 g18u10 q18u10 hg18u10 hr18u10
   obtain ⟨k18u10, z18u10, rfl, hk18u10, rfl, hz18u10, hy18u10⟩ := hr18u10
   refine zM (vs := [_, vI (2)]) rfl rfl rfl rfl call46 e2z (fun w hs => o_rref_frac hs (by omega) (by omega) (by decide) (by decide)) ?_
   intro v19u10 h5 hh5 r19u10
   change (rpQ 2).Is h5 v19u10 (xR z18u10 (2 : Int)) at r19u10
   refine gv ((zF (sz := 3) 2 underlying32 sizeOf30 rfl rfl rfl (by decide)).cv (show _ = vP b3 6 from congrArg (vP b3) (by rfl))) rfl ?_
   replace rb_38 := rb_38.mono ((hg15u10.trans hg18u10).trans hh5)
   refine xO (A := []) (F := fun c_ => (rpT (rpQ 2)).R h5 c_ (T3.mk ((z11u1 : Int) : Rat) (xR z18u9 (2 : Int)) (xR z18u10 (2 : Int)))) (zX sizeOf30 (Pc.tz (Pc.here _)) rfl rfl rfl rb_38 r19u10 rfl) ?_
   intro cs_39 rb_40
   refine zD (yY (zB (zA (mv rfl rfl (gv ((zS (q := 1) rfl rfl (by omega) (by omega)).cv (show _ = vI (3) from rfl)) rfl (asg rfl rfl (zD (xI (zC (zC (zA (mv rfl rfl (gv (OpV.fa (by decide) (zW (q := 3) rfl rfl)) rfl ?_)))))))))))))
   refine zD (zB (gc_cond_f rfl (xK (yE (yE (xJ (zK (e' := [(2, _), (3, _)]) e2z (zB (zC (zA (xQ (F := fun v_ => (rpT (rpQ 2)).Is h5 v_ (T3.mk ((z11u1 : Int) : Rat) (xR z18u9 (2 : Int)) (xR z18u10 (2 : Int)))) (zE xF (Pc.here _) rfl rfl rb_40 rfl) (yD (.head _)) rfl ?_)))))))))))
   intro v21u11 r21u11
   replace rb2 := rb2.mono ((((((((((((hg11u1.trans hh1).trans hg15u1).trans hg11u9).trans hh2).trans hg15u9).trans hg18u9).trans hh3).trans hg11u10).trans hh4).trans hg15u10).trans hg18u10).trans hh5)
   refine xO (A := [_]) (F := fun c_ => (rpT (rpQ 2)).R h5 c_ (T3.mk ((z11u1 : Int) : Rat) (xR z18u9 (2 : Int)) (xR z18u10 (2 : Int)))) (zX sizeOf32 (Pc.here _) rfl rfl rfl rb2 r21u11 rfl) ?_
   intro cs_41 rb_42
   refine zD (zB (zR (gq_exv (rv_o (t := 2) xF (.tail _ (.head _)) rfl rb_42) ?_)))
   intro w_43 hvw_43 rr_44
   refine gq_res_own (fun E S => yL rfl hvw_43 E S) ?_
   exact ⟨_, (.cons _ (.cons _ (List.Sublist.refl _))), ((((((((((((hg11u1.trans hh1).trans hg15u1).trans hg11u9).trans hh2).trans hg15u9).trans hg18u9).trans hh3).trans hg11u10).trans hh4).trans hg15u10).trans hg18u10).trans hh5), _, _, rfl, by omega, rr_44⟩
  refine zL (yY (zB (zA (mv rfl rfl (gv ((zS (q := 1) rfl rfl (by omega) (by omega)).cv (show _ = vI (3) from rfl)) rfl (asg rfl rfl (zD (xI (zC (zC (zA (mv rfl rfl (gv (OpV.fa (by decide) (zW (q := 3) rfl rfl)) rfl ?_)))))))))))))
  refine zD (zB (gc_cond_f rfl (xK (yE (yE (xJ (zB (zC (zA ?_)))))))))
  replace rb_38 := rb_38.mono hg15u10
  refine xQ (F := fun v_ => (rpT (rpQ 2)).Is g15u10 v_ (T3.mk ((z11u1 : Int) : Rat) (xR z18u9 (2 : Int)) ((z11u10 : Int) : Rat))) (zE xF (Pc.here _) rfl rfl rb_38 rfl) (yD (.head _)) rfl ?_
  intro v21u12 r21u12
  replace rb2 := rb2.mono ((((((((((hg11u1.trans hh1).trans hg15u1).trans hg11u9).trans hh2).trans hg15u9).trans hg18u9).trans hh3).trans hg11u10).trans hh4).trans hg15u10)
  refine xO (A := [_]) (F := fun c_ => (rpT (rpQ 2)).R g15u10 c_ (T3.mk ((z11u1 : Int) : Rat) (xR z18u9 (2 : Int)) ((z11u10 : Int) : Rat))) (zX sizeOf32 (Pc.here _) rfl rfl rfl rb2 r21u12 rfl) ?_
  intro cs_45 rb_46
  refine zD (zB (zR (gq_exv (rv_o (t := 2) xF (.tail _ (.head _)) rfl rb_46) ?_)))
  intro w_47 hvw_47 rr_48
  refine gq_res_own (fun E S => yL rfl hvw_47 E S) ?_
  exact ⟨_, (.cons _ (.cons _ (List.Sublist.refl _))), ((((((((((hg11u1.trans hh1).trans hg15u1).trans hg11u9).trans hh2).trans hg15u9).trans hg18u9).trans hh3).trans hg11u10).trans hh4).trans hg15u10), _, _, rfl, by omega, rr_48⟩
 refine zL (yY (zB (zA (mv rfl rfl (gv ((zS (q := 1) rfl rfl (by omega) (by omega)).cv (show _ = vI (2) from rfl)) rfl (asg rfl rfl (zD (zK (e' := [(0, _), (2, _), (3, _), (4, _)]) e4z (xI (zC (zC (zA (mv rfl rfl ?_)))))))))))))
 refine gv (OpV.tr (by decide) (zW (q := 3) rfl rfl)) rfl (zD (zB (xC rfl (zL (zB (zC (zQ (zC (zA (mv rfl rfl (mv rfl rfl ?_)))))))))))
 replace hl := hl.mono hg15u9
 refine xT (A := [_, _]) (vs := [_, vI (5)]) call22 e2z (fun X w hs => dice_next hl (by first | omega | exact Nat.zero_le _) (by omega) (by omega) hs) rfl ?_
 intro v11u13 g11u13 q11u13 hg11u13 hr11u13
 obtain ⟨k11u13, z11u13, rfl, hk11u13, rfl, hz11u13, hy11u13⟩ := hr11u13
 refine zM (vs := [_]) rfl rfl rfl rfl call45 ⟨rfl, trivial⟩ (fun w hs => o_rref_int hs (by omega) (by omega)) ?_
 intro v12u13 h3 hh3 r12u13
 change (rpQ 2).Is h3 v12u13 ((z11u13 : Int) : Rat) at r12u13
 refine gv ((zF (sz := 3) 2 underlying32 sizeOf30 rfl rfl rfl (by decide)).cv (show _ = vP b3 6 from congrArg (vP b3) (by rfl))) rfl ?_
 replace rb_34 := rb_34.mono ((hg15u9.trans hg11u13).trans hh3)
 refine xO (A := []) (F := fun c_ => (rpT (rpQ 2)).R h3 c_ (T3.mk ((z11u1 : Int) : Rat) ((z11u9 : Int) : Rat) ((z11u13 : Int) : Rat))) (zX sizeOf30 (Pc.tz (Pc.here _)) rfl rfl rfl rb_34 r12u13 rfl) ?_
 intro cs_49 rb_50
 refine zD (zB (zC (zA (mv rfl rfl ?_))))
 replace hl := hl.mono (hg11u13.trans hh3)
 refine xT (A := [_, _]) (vs := [_, vI (4)]) call24 e2z (fun X w hs => o_dice_bool hl (by first | omega | exact Nat.zero_le _) (by omega) (by omega) hs) rfl ?_
 intro v15u13 g15u13 q15u13 hg15u13 hr15u13
 obtain ⟨k15u13, P15u13, rfl, hk15u13, rfl⟩ := hr15u13
 refine zD (zB ?_)
 refine zP rfl (fun hc15 => ?_) (fun hc15 => ?_)
 ·
  refine zA (mv rfl rfl (mv rfl rfl ?_))
  replace hl := hl.mono hg15u13
  refine xT (A := [_, _]) (vs := [_, vI (9)]) call22 e2z (fun X w hs => dice_next hl (by first | omega | exact Nat.zero_le _) (by omega) (by omega) hs) rfl ?_
  intro v18u13 g18u13 q18u13 hg18u13 hr18u13
  obtain ⟨k18u13, z18u13, rfl, hk18u13, rfl, hz18u13, hy18u13⟩ := hr18u13
  refine zM (vs := [_, vI (2)]) rfl rfl rfl rfl call46 e2z (fun w hs => o_rref_frac hs (by omega) (by omega) (by decide) (by decide)) ?_
  intro v19u13 h4 hh4 r19u13
  change (rpQ 2).Is h4 v19u13 (xR z18u13 (2 : Int)) at r19u13
  refine gv ((zF (sz := 3) 2 underlying32 sizeOf30 rfl rfl rfl (by decide)).cv (show _ = vP b3 6 from congrArg (vP b3) (by rfl))) rfl ?_
  replace rb_50 := rb_50.mono ((hg15u13.trans hg18u13).trans hh4)
  refine xO (A := []) (F := fun c_ => (rpT (rpQ 2)).R h4 c_ (T3.mk ((z11u1 : Int) : Rat) ((z11u9 : Int) : Rat) (xR z18u13 (2 : Int)))) (zX sizeOf30 (Pc.tz (Pc.here _)) rfl rfl rfl rb_50 r19u13 rfl) ?_
  intro cs_51 rb_52
  refine zD (yY (zK (e' := [(0, _), (2, _), (3, _), (4, _)]) e4z (zB (zA (mv rfl rfl (gv ((zS (q := 1) rfl rfl (by omega) (by omega)).cv (show _ = vI (3) from rfl)) rfl (asg rfl rfl (zD (xI (zC (zC (zA (mv rfl rfl ?_)))))))))))))
  refine gv (OpV.fa (by decide) (zW (q := 3) rfl rfl)) rfl (zD (zB (gc_cond_f rfl (xK (yE (yE (xJ (zB (zC (zA (xQ (F := fun v_ => (rpT (rpQ 2)).Is h4 v_ (T3.mk ((z11u1 : Int) : Rat) ((z11u9 : Int) : Rat) (xR z18u13 (2 : Int)))) (zE xF (Pc.here _) rfl rfl rb_52 rfl) (yD (.head _)) rfl ?_)))))))))))
  intro v21u14 r21u14
  replace rb2 := rb2.mono ((((((((((hg11u1.trans hh1).trans hg15u1).trans hg11u9).trans hh2).trans hg15u9).trans hg11u13).trans hh3).trans hg15u13).trans hg18u13).trans hh4)
  refine xO (A := [_]) (F := fun c_ => (rpT (rpQ 2)).R h4 c_ (T3.mk ((z11u1 : Int) : Rat) ((z11u9 : Int) : Rat) (xR z18u13 (2 : Int)))) (zX sizeOf32 (Pc.here _) rfl rfl rfl rb2 r21u14 rfl) ?_
  intro cs_53 rb_54
  refine zD (zB (zR (gq_exv (rv_o (t := 2) xF (.tail _ (.head _)) rfl rb_54) ?_)))
  intro w_55 hvw_55 rr_56
  refine gq_res_own (fun E S => yL rfl hvw_55 E S) ?_
  exact ⟨_, (.cons _ (.cons _ (List.Sublist.refl _))), ((((((((((hg11u1.trans hh1).trans hg15u1).trans hg11u9).trans hh2).trans hg15u9).trans hg11u13).trans hh3).trans hg15u13).trans hg18u13).trans hh4), _, _, rfl, by omega, rr_56⟩
 refine zL (yY (zB (zA (mv rfl rfl (gv ((zS (q := 1) rfl rfl (by omega) (by omega)).cv (show _ = vI (3) from rfl)) rfl (asg rfl rfl (zD (zK (e' := [(0, _), (2, _), (3, _), (4, _)]) e4z (xI (zC (zC (zA (mv rfl rfl ?_)))))))))))))
 refine gv (OpV.fa (by decide) (zW (q := 3) rfl rfl)) rfl (zD (zB (gc_cond_f rfl (xK (yE (yE (xJ (zB (zC (zA ?_))))))))))
 replace rb_50 := rb_50.mono hg15u13
 refine xQ (F := fun v_ => (rpT (rpQ 2)).Is g15u13 v_ (T3.mk ((z11u1 : Int) : Rat) ((z11u9 : Int) : Rat) ((z11u13 : Int) : Rat))) (zE xF (Pc.here _) rfl rfl rb_50 rfl) (yD (.head _)) rfl ?_
 intro v21u15 r21u15
 replace rb2 := rb2.mono ((((((((hg11u1.trans hh1).trans hg15u1).trans hg11u9).trans hh2).trans hg15u9).trans hg11u13).trans hh3).trans hg15u13)
 refine xO (A := [_]) (F := fun c_ => (rpT (rpQ 2)).R g15u13 c_ (T3.mk ((z11u1 : Int) : Rat) ((z11u9 : Int) : Rat) ((z11u13 : Int) : Rat))) (zX sizeOf32 (Pc.here _) rfl rfl rfl rb2 r21u15 rfl) ?_
 intro cs_57 rb_58
 refine zD (zB (zR (gq_exv (rv_o (t := 2) xF (.tail _ (.head _)) rfl rb_58) ?_)))
 intro w_59 hvw_59 rr_60
 refine gq_res_own (fun E S => yL rfl hvw_59 E S) ?_
 exact ⟨_, (.cons _ (.cons _ (List.Sublist.refl _))), ((((((((hg11u1.trans hh1).trans hg15u1).trans hg11u9).trans hh2).trans hg15u9).trans hg11u13).trans hh3).trans hg15u13), _, _, rfl, by omega, rr_60⟩
theorem o_r5_axes {w0 : World} {h0 : Mem}  (hs : MLe h0 (mem w0)) {m l : Nat} {vs : Value} {s : ((T3 Rat) × Rat)} (rs : (rpP (rpT (rpQ m)) (rpQ l)).Is h0 vs s) (hcd0 : m ≤ 1000000000)  :
    Calls Tryz.prog 112 #[vs] w0 (Ret w0 h0 (fun h r => r = .tuple #[vI (↑(axI s.1) : Int), vI (↑(axJ s.1) : Int), vI (↑(axK s.1) : Int)])) := by
 refine zO (n := 29) (e := [(0, vs)]) (vs := [vs]) func112 rfl rfl (bL rfl) hs ⟨rfl, trivial⟩ (zC (zA (zJ (yU (ρ := (rpP (rpT (rpQ m)) (rpQ l))) rfl rs) rfl rfl rfl ?_)))
 intro v1 q1 hq1
 obtain ⟨b1, cs1, rfl, rfl, rb1⟩ := hq1
 refine asg (v := vI (0)) rfl rfl (asg (v := vI (0)) rfl rfl (asg (v := vI (0)) rfl rfl (zD (zB (zC (zA (asg (v := vI (0)) rfl rfl (asg (v := vI (1)) rfl rfl (asg (v := vI (2)) rfl rfl (zD (zB (zC (zC ?_)))))))))))))
 refine zA (gv ((zI underlying34 rfl sizeOf32 rfl).cv (show _ = vP b1 0 from congrArg (vP b1) (by rfl))) rfl (gv ((zF (sz := 3) (q := 2) 2 underlying32 sizeOf30 rfl rfl rfl (by decide)).cv (show _ = vP b1 6 from congrArg (vP b1) (by rfl))) rfl (xQ (F := fun v_ => (rpQ m).Is h0 v_ s.1.z) (zE xA (Pc.fst (Pc.tz (Pc.here _))) rfl rfl rb1 rfl) (yD (.head _)) rfl ?_)))
 intro v10 r10
 refine zM (vs := [_]) rfl rfl rfl rfl call50 ⟨rfl, trivial⟩ (fun w hs => o_rref_sign hs r10 (by omega)) ?_
 intro v11 h1 hh1 r11
 obtain rfl : v11 = vI (sgnQ s.1.z) := r11
 have hsr11 := sgnQ_range s.1.z
 refine gv (ov_eql_i (q := 0) rfl rfl) rfl (zD (zB ?_))
 refine zP rfl (fun hc12 => ?_) (fun hc12 => ?_)
 ·
  refine gc_keep (e' := [(1, _)]) ⟨rfl, trivial⟩ (zC (zA (asg (v := vI (2)) rfl rfl (asg (v := vI (0)) rfl rfl (asg (v := vI (1)) rfl rfl (zD (zB (zC (zA (gv ((zI underlying34 rfl sizeOf32 rfl).cv (show _ = vP b1 0 from congrArg (vP b1) (by rfl))) rfl (gv ((zF (sz := 3) (q := 1) 1 underlying32 sizeOf30 rfl rfl rfl (by decide)).cv (show _ = vP b1 3 from congrArg (vP b1) (by rfl))) rfl ?_)))))))))))
  replace rb1 := rb1.mono hh1
  refine xQ (F := fun v_ => (rpQ m).Is h1 v_ s.1.y) (zE xA (Pc.fst (Pc.ty (Pc.here _))) rfl rfl rb1 rfl) (yD (.head _)) rfl ?_
  intro v15 r15
  refine zM (vs := [_]) rfl rfl rfl rfl call50 ⟨rfl, trivial⟩ (fun w hs => o_rref_sign hs r15 (by omega)) ?_
  intro v16 h2 hh2 r16
  obtain rfl : v16 = vI (sgnQ s.1.y) := r16
  have hsr16 := sgnQ_range s.1.y
  refine gv (ov_eql_i (q := 0) rfl rfl) rfl (zD (zB ?_))
  refine zP rfl (fun hc17 => ?_) (fun hc17 => ?_)
  ·
   refine zA (asg (v := vI (1)) rfl rfl (asg (v := vI (2)) rfl rfl (asg (v := vI (0)) rfl rfl (zD (zB (zC (zC (zA (mv rfl rfl (gv ((zI underlying34 rfl sizeOf32 rfl).cv (show _ = vP b1 0 from congrArg (vP b1) (by rfl))) rfl (gv ((zF (sz := 3) 0 underlying32 sizeOf30 rfl rfl rfl (by decide)).cv (show _ = vP b1 0 from congrArg (vP b1) (by rfl))) rfl ?_)))))))))))
   replace rb1 := rb1.mono hh2
   refine xQ (F := fun v_ => (rpQ m).Is h2 v_ s.1.x) (zE xA (Pc.fst (Pc.tx (Pc.here _))) rfl rfl rb1 rfl) (yD (.head _)) rfl ?_
   intro v21 r21
   refine zM (vs := [_]) rfl rfl rfl rfl call50 ⟨rfl, trivial⟩ (fun w hs => o_rref_sign hs r21 (by omega)) ?_
   intro v22 h3 hh3 r22
   obtain rfl : v22 = vI (sgnQ s.1.x) := r22
   have hsr22 := sgnQ_range s.1.x
   refine gv (zW (q := 0) rfl rfl) rfl (zD (zK (e' := [(5, _), (6, _), (7, _), (23, _)]) e4z (zB ?_)))
   refine zP rfl (fun hc23 => ?_) (fun hc23 => ?_)
   ·
    refine zA (mv rfl rfl (mv rfl rfl (asg rfl rfl (asg rfl rfl (zD (zB (zC (zA (mv rfl rfl (mv rfl rfl (mv rfl rfl (asg rfl rfl (asg rfl rfl ?_)))))))))))))
    refine asg rfl rfl (zD (zB (zR (gq_body3 rfl rfl rfl rfl ?_))))
    have eI : axI s.1 = 2 := by unfold axI; simp only [sgn_zero, sgn_neg] at *; grind
    have eJ : axJ s.1 = 1 := by unfold axJ; simp only [sgn_zero, sgn_neg] at *; grind
    have eK : axK s.1 = 0 := by unfold axK; simp only [sgn_zero, sgn_neg] at *; grind
    rw [eI, eJ, eK]; rfl
   refine zL (zB (zC (zA (mv rfl rfl (mv rfl rfl (mv rfl rfl (asg rfl rfl (asg rfl rfl (asg rfl rfl (zD (zB (zR (gq_body3 rfl rfl rfl rfl ?_)))))))))))))
   have eI : axI s.1 = 1 := by unfold axI; simp only [sgn_zero, sgn_neg] at *; grind
   have eJ : axJ s.1 = 2 := by unfold axJ; simp only [sgn_zero, sgn_neg] at *; grind
   have eK : axK s.1 = 0 := by unfold axK; simp only [sgn_zero, sgn_neg] at *; grind
   rw [eI, eJ, eK]; rfl
  refine zL (zB (zC (zC (zA (mv rfl rfl (gv ((zI underlying34 rfl sizeOf32 rfl).cv (show _ = vP b1 0 from congrArg (vP b1) (by rfl))) rfl (gv ((zF (sz := 3) 1 underlying32 sizeOf30 rfl rfl rfl (by decide)).cv (show _ = vP b1 3 from congrArg (vP b1) (by rfl))) rfl ?_)))))))
  replace rb1 := rb1.mono hh2
  refine xQ (F := fun v_ => (rpQ m).Is h2 v_ s.1.y) (zE xA (Pc.fst (Pc.ty (Pc.here _))) rfl rfl rb1 rfl) (yD (.head _)) rfl ?_
  intro v21 r21
  refine zM (vs := [_]) rfl rfl rfl rfl call50 ⟨rfl, trivial⟩ (fun w hs => o_rref_sign hs r21 (by omega)) ?_
  intro v22 h3 hh3 r22
  obtain rfl : v22 = vI (sgnQ s.1.y) := r22
  have hsr22 := sgnQ_range s.1.y
  refine gv (zW (q := 0) rfl rfl) rfl (zD (zK (e' := [(5, _), (6, _), (7, _), (23, _)]) e4z (zB ?_)))
  refine zP rfl (fun hc23 => ?_) (fun hc23 => ?_)
  ·
   refine zA (mv rfl rfl (mv rfl rfl (asg rfl rfl (asg rfl rfl (zD (zB (zC (zA (mv rfl rfl (mv rfl rfl (mv rfl rfl (asg rfl rfl (asg rfl rfl ?_)))))))))))))
   refine asg rfl rfl (zD (zB (zR (gq_body3 rfl rfl rfl rfl ?_))))
   have eI : axI s.1 = 0 := by unfold axI; simp only [sgn_zero, sgn_neg] at *; grind
   have eJ : axJ s.1 = 2 := by unfold axJ; simp only [sgn_zero, sgn_neg] at *; grind
   have eK : axK s.1 = 1 := by unfold axK; simp only [sgn_zero, sgn_neg] at *; grind
   rw [eI, eJ, eK]; rfl
  refine zL (zB (zC (zA (mv rfl rfl (mv rfl rfl (mv rfl rfl (asg rfl rfl (asg rfl rfl (asg rfl rfl (zD (zB (zR (gq_body3 rfl rfl rfl rfl ?_)))))))))))))
  have eI : axI s.1 = 2 := by unfold axI; simp only [sgn_zero, sgn_neg] at *; grind
  have eJ : axJ s.1 = 0 := by unfold axJ; simp only [sgn_zero, sgn_neg] at *; grind
  have eK : axK s.1 = 1 := by unfold axK; simp only [sgn_zero, sgn_neg] at *; grind
  rw [eI, eJ, eK]; rfl
 refine zL (zB (zC (zC (zA (mv rfl rfl (gv ((zI underlying34 rfl sizeOf32 rfl).cv (show _ = vP b1 0 from congrArg (vP b1) (by rfl))) rfl (gv ((zF (sz := 3) 2 underlying32 sizeOf30 rfl rfl rfl (by decide)).cv (show _ = vP b1 6 from congrArg (vP b1) (by rfl))) rfl ?_)))))))
 replace rb1 := rb1.mono hh1
 refine xQ (F := fun v_ => (rpQ m).Is h1 v_ s.1.z) (zE xA (Pc.fst (Pc.tz (Pc.here _))) rfl rfl rb1 rfl) (yD (.head _)) rfl ?_
 intro v21 r21
 refine zM (vs := [_]) rfl rfl rfl rfl call50 ⟨rfl, trivial⟩ (fun w hs => o_rref_sign hs r21 (by omega)) ?_
 intro v22 h2 hh2 r22
 obtain rfl : v22 = vI (sgnQ s.1.z) := r22
 have hsr22 := sgnQ_range s.1.z
 refine gv (zW (q := 0) rfl rfl) rfl (zD (zK (e' := [(5, _), (6, _), (7, _), (23, _)]) e4z (zB ?_)))
 refine zP rfl (fun hc23 => ?_) (fun hc23 => ?_)
 ·
  refine zA (mv rfl rfl (mv rfl rfl (asg rfl rfl (asg rfl rfl (zD (zB (zC (zA (mv rfl rfl (mv rfl rfl (mv rfl rfl (asg rfl rfl (asg rfl rfl ?_)))))))))))))
  refine asg rfl rfl (zD (zB (zR (gq_body3 rfl rfl rfl rfl ?_))))
  have eI : axI s.1 = 1 := by unfold axI; simp only [sgn_zero, sgn_neg] at *; grind
  have eJ : axJ s.1 = 0 := by unfold axJ; simp only [sgn_zero, sgn_neg] at *; grind
  have eK : axK s.1 = 2 := by unfold axK; simp only [sgn_zero, sgn_neg] at *; grind
  rw [eI, eJ, eK]; rfl
 refine zL (zB (zC (zA (mv rfl rfl (mv rfl rfl (mv rfl rfl (asg rfl rfl (asg rfl rfl (asg rfl rfl (zD (zB (zR (gq_body3 rfl rfl rfl rfl ?_)))))))))))))
 have eI : axI s.1 = 0 := by unfold axI; simp only [sgn_zero, sgn_neg] at *; grind
 have eJ : axJ s.1 = 1 := by unfold axJ; simp only [sgn_zero, sgn_neg] at *; grind
 have eK : axK s.1 = 2 := by unfold axK; simp only [sgn_zero, sgn_neg] at *; grind
 rw [eI, eJ, eK]; rfl
theorem o_r5_flatten {w0 : World} {h0 : Mem}  (hs : MLe h0 (mem w0)) {m l k : Nat} {vs : Value} {s : ((T3 Rat) × Rat)} (rs : (rpP (rpT (rpQ m)) (rpQ l)).Is h0 vs s) {vp : Value} {p : (T3 Rat)} (rp : (rpT (rpQ k)).Is h0 vp p) (hcd0 : k ≤ 1000000000) (hcd1 : m ≤ 1000000000)  :
    Calls Tryz.prog 73 #[vs, vp] w0 (Ret w0 h0 (fun h r => (rpT (rpQ (k + 1))).Is h r (flatZ s p))) := by
 refine zO (n := 21) (e := [(0, vs), (1, vp)]) (vs := [vs, vp]) func73 rfl rfl (bL rfl) hs e2z (zC (zA (zJ (yU (ρ := (rpP (rpT (rpQ m)) (rpQ l))) rfl rs) rfl rfl rfl ?_)))
 intro v2 q2 hq2
 obtain ⟨b2, cs2, rfl, rfl, rb2⟩ := hq2
 refine zJ (yU (ρ := (rpT (rpQ k))) rfl rp) rfl rfl rfl ?_
 intro v3 q3 hq3
 obtain ⟨b3, cs3, rfl, rfl, rb3⟩ := hq3
 refine zJ (yQ (ρ := (rpT (rpQ (k + 1)))) (X := (T3.mk (0 : Rat) 0 0)) yI rfl rfl (zr_t (xS (by omega)))) rfl rfl rfl ?_
 intro v4 q4 hq4
 obtain ⟨b4, cs4, rfl, rfl, rb4⟩ := hq4
 refine zD (zB (zC (zA (xQ (F := fun v_ => (rpP (rpT (rpQ m)) (rpQ l)).Is h0 v_ s) (zE ty34 (Pc.here _) rfl rfl rb2 rfl) (yD (.tail _ (.tail _ (.head _)))) rfl ?_))))
 intro v9 r9
 refine zM (vs := [_]) rfl rfl rfl rfl call112 ⟨rfl, trivial⟩ (fun w hs => o_r5_axes hs r9 (by omega)) ?_
 intro v10 h1 hh1 r10
 obtain rfl := r10
 refine mv rfl rfl (gv (zN (vs := [_, _, _]) rfl rfl) rfl (gv (zN (vs := [_, _, _]) rfl rfl) rfl (gv (zN (vs := [_, _, _]) rfl rfl) rfl (asg rfl rfl (asg rfl rfl (asg rfl rfl (zD (zK (e' := [(3, _), (4, _), (5, _), (6, _)]) e4z (zB (zC ?_))))))))))
 refine yG 7 _ [] [(0, .q), (1, .q), (2, .q), (3, .q), (4, .q), (5, .q), (6, .q), (7, .t)] xG nX (by kernel_rfl) nX (fun r hr => hr) (w_q rfl (fun h' L' hh hR => zH rfl) rfl (w_q rfl (fun h' L' hh hR => (zF (sz := 3) (axI s.1) underlying32 sizeOf30 rfl rfl (by rfl) (by exact axI_lt _)).cv (show _ = vP b3 (((axI s.1) * 3 + 0)) from congrArg (vP b3) (by omega))) rfl ?_))
 replace rb3 := rb3.mono hh1
 refine yO (F := fun v_ => (rpQ k).Is h1 v_ (p.at (axI s.1))) rfl (zE xA (Pc.ta (Pc.here _) (axI s.1) (by exact axI_lt _)) rfl rfl rb3 rfl) (yD (.tail _ (.head _))) rfl ?_
 intro v16 r16
 refine w_q rfl (fun h' L' hh hR => zH rfl) rfl (w_q rfl (fun h' L' hh hR => (zF (sz := 3) (axJ s.1) underlying32 sizeOf30 rfl rfl (by rfl) (by exact axJ_lt _)).cv (show _ = vP b3 (((axJ s.1) * 3 + 0)) from congrArg (vP b3) (by omega))) rfl (yO (F := fun v_ => (rpQ k).Is h1 v_ (p.at (axJ s.1))) rfl (zE xA (Pc.ta (Pc.here _) (axJ s.1) (by exact axJ_lt _)) rfl rfl rb3 rfl) (yD (.tail _ (.head _))) rfl ?_))
 intro v19 r19
 refine yO (F := fun v_ => (rpT (rpQ (k + 1))).Is h1 v_ (T3.mk (p.at (axI s.1)) (p.at (axJ s.1)) (0 : Rat))) rfl (ox_build_arr (ps' := [(0, _), (1, _)]) underlying32 yI rfl rfl sizeOf30 e4z rfl (zr_t (xS (by omega))) (yN rfl (Pc.tx (Pc.here _)) (r16.le (Le.q (l := k + 1) (by omega))) (yN rfl (Pc.ty (Pc.here _)) (r19.le (Le.q (l := k + 1) (by omega))) fx_nil))) mem0 rfl ?_
 intro v20 r20
 replace rb4 := rb4.mono hh1
 refine yV (A := []) (F := fun c_ => (rpT (rpQ (k + 1))).R h1 c_ (T3.mk (p.at (axI s.1)) (p.at (axJ s.1)) (0 : Rat))) rfl (zX sizeOf32 (Pc.here _) rfl rfl rfl rb4 r20 rfl) ?_
 intro cs_61 rb_62
 refine yZ (zK (e' := [(4, _)]) ⟨rfl, trivial⟩ (zB (zR (gq_exv (rv_o (t := 4) xF (.head _) rfl rb_62) ?_))))
 intro w_63 hvw_63 rr_64
 refine xM (fun E S => yL rfl hvw_63 E S) ?_
 exact rr_64
theorem o_r5_lift {w0 : World} {h0 : Mem}  (hs : MLe h0 (mem w0)) {m l k : Nat} {vs : Value} {s : ((T3 Rat) × Rat)} (rs : (rpP (rpT (rpQ m)) (rpQ l)).Is h0 vs s) {vq : Value} {q : (T3 Rat)} (rq : (rpT (rpQ k)).Is h0 vq q) (hcd0 : k ≤ 1000000) (hcd1 : l ≤ 1000000) (hcd2 : m ≤ 1000000)  :
    Calls Tryz.prog 114 #[vs, vq] w0 (Ret w0 h0 (fun h r => ∃ u0, r = .tuple #[u0, vB (¬ s.1.at (axK s.1) = 0)] ∧ (rpT (rpQ (3 * k + l + 4 * m + 30))).Is h u0 (liftZ s q))) := by
 have hax := ax_sum s.1
 refine zO (n := 46) (e := [(0, vs), (1, vq)]) (vs := [vs, vq]) func114 rfl rfl (bL rfl) hs e2z (zC (zA (zJ (yU (ρ := (rpP (rpT (rpQ m)) (rpQ l))) rfl rs) rfl rfl rfl ?_)))
 intro v2 q2 hq2
 obtain ⟨b2, cs2, rfl, rfl, rb2⟩ := hq2
 refine zJ (yU (ρ := (rpT (rpQ k))) rfl rq) rfl rfl rfl ?_
 intro v3 q3 hq3
 obtain ⟨b3, cs3, rfl, rfl, rb3⟩ := hq3
 refine zJ (yQ (ρ := (rpT (rpQ (3 * k + l + 4 * m + 30)))) (X := (T3.mk (0 : Rat) 0 0)) yI rfl rfl (zr_t (xS (by omega)))) rfl rfl rfl ?_
 intro v4 q4 hq4
 obtain ⟨b4, cs4, rfl, rfl, rb4⟩ := hq4
 refine asg rfl rfl (zD (zB (zC (zC (zA (gv ((zI underlying34 rfl sizeOf32 rfl).cv (show _ = vP b2 0 from congrArg (vP b2) (by rfl))) rfl (xQ (F := fun v_ => (rpT (rpQ m)).Is h0 v_ s.1) (zE xF (Pc.fst (Pc.here _)) rfl rfl rb2 rfl) (yD (.tail _ (.tail _ (.head _)))) rfl ?_)))))))
 intro v11 r11
 refine zM (vs := [_]) rfl rfl rfl rfl call41 ⟨rfl, trivial⟩ (fun w hs => o_r4_zero hs r11 (by omega)) ?_
 intro v12 h1 hh1 r12
 obtain rfl : v12 = vB (s.1 = (T3.mk (0 : Rat) 0 0)) := r12
 refine zD (zB ?_)
 refine zP rfl (fun hc12 => ?_) (fun hc12 => ?_)
 ·
  have hz := (ax_zero s.1).2 hc12
  refine zC (zA (xQ (F := fun v_ => (rpT (rpQ 1)).Is h1 v_ (T3.mk (0 : Rat) 0 0)) (ox_build_arr (ps' := []) underlying32 yI rfl rfl sizeOf30 trivial rfl (zr_t (xS (by decide))) fx_nil) mem0 rfl ?_))
  intro v13 r13
  replace rb4 := rb4.mono hh1
  refine xO (A := []) (F := fun c_ => (rpT (rpQ (3 * k + l + 4 * m + 30))).R h1 c_ (T3.mk (0 : Rat) 0 0)) (zX sizeOf32 (Pc.here _) rfl rfl rfl rb4 (r13.le (Le.t (Le.q (l := 3 * k + l + 4 * m + 30) (by omega)))) rfl) ?_
  intro cs_65 rb_66
  refine asg rfl rfl (zD (zB (zR (yA (gq_exv (rv_o (t := 4) xF (.head _) rfl rb_66) ?_)))))
  intro w_67 hvw_67 rr_68
  refine xM (fun E S => run_res2 rfl hvw_67 (rv_tmp rfl) E S) ?_
  refine ⟨_, ?_, (Rp.Is.cast rr_68 (by exact (if_pos hz).symm))⟩
  rw [xD (fun e => e hz)]
 have hz : ¬ s.1.at (axK s.1) = 0 := fun e => hc12 ((ax_zero s.1).1 e)
 refine zL (zB (zC (zA ?_)))
 replace rb2 := rb2.mono hh1
 refine xQ (F := fun v_ => (rpP (rpT (rpQ m)) (rpQ l)).Is h1 v_ s) (zE ty34 (Pc.here _) rfl rfl rb2 rfl) (yD (.tail _ (.tail _ (.head _)))) rfl ?_
 intro v15 r15
 refine zM (vs := [_]) rfl rfl rfl rfl call112 ⟨rfl, trivial⟩ (fun w hs => o_r5_axes hs r15 (by omega)) ?_
 intro v16 h2 hh2 r16
 obtain rfl := r16
 refine mv rfl rfl (gv (zN (vs := [_, _, _]) rfl rfl) rfl (gv (zN (vs := [_, _, _]) rfl rfl) rfl (gv (zN (vs := [_, _, _]) rfl rfl) rfl (asg rfl rfl (asg rfl rfl (asg rfl rfl (zD (zK (e' := [(2, _), (3, _), (4, _), (6, _), (7, _), (8, _)]) e6 (zB (zC (zA (zJ (yQ (ρ := (rpT (rpQ (k + 1)))) (X := (T3.mk (0 : Rat) 0 0)) yI rfl rfl (zr_t (xS (by omega)))) rfl rfl rfl ?_))))))))))))
 intro v9 q9 hq9
 obtain ⟨b9, cs9, rfl, rfl, rb9⟩ := hq9
 refine zD (zB (zC ?_))
 refine gc_draw1 (A := []) 10 [] [(0, .q), (1, .q), (2, .q), (3, .q), (4, .q), (5, .q), (6, .q), (7, .c), (8, .q), (9, .c)] xG nX (by kernel_rfl) nX (w_q rfl (fun h' L' hh hR => zH rfl) rfl (w_q rfl (fun h' L' hh hR => zH rfl) rfl (w_q rfl (fun h' L' hh hR => (zF (sz := 3) (q := 0) 0 underlying32 sizeOf30 rfl rfl rfl (by decide)).cv (show _ = vP b3 0 from congrArg (vP b3) (by rfl))) rfl ?_)))
 replace rb3 := rb3.mono (hh1.trans hh2)
 refine yO (F := fun v_ => (rpQ k).Is h2 v_ q.x) rfl (zE xA (Pc.tx (Pc.here _)) rfl rfl rb3 rfl) (yD (.tail _ (.head _))) rfl ?_
 intro v23 r23
 refine w_q rfl (fun h' L' hh hR => (zF (sz := 3) (q := 1) 1 underlying32 sizeOf30 rfl rfl rfl (by decide)).cv (show _ = vP b3 3 from congrArg (vP b3) (by rfl))) rfl (yO (F := fun v_ => (rpQ k).Is h2 v_ q.y) rfl (zE xA (Pc.ty (Pc.here _)) rfl rfl rb3 rfl) (yD (.tail _ (.head _))) rfl ?_)
 intro v25 r25
 refine w_q rfl (fun h' L' hh hR => (zF (sz := 3) (axI s.1) underlying32 sizeOf30 rfl rfl (by rfl) (by exact axI_lt _)).cv (show _ = vP b9 (((axI s.1) * 3 + 0)) from congrArg (vP b9) (by omega))) rfl ?_
 refine w_c rfl (s_updx (A := []) (F := fun c_ => (rpT (rpQ (k + 1))).R h2 c_ ((T3.mk (0 : Rat) 0 0).set (axI s.1) q.x)) (zX sizeOf30 (Pc.ta (Pc.here _) (axI s.1) (by exact axI_lt _)) rfl rfl rfl rb9 (r23.le (Le.q (l := k + 1) (by omega))) rfl) (mem_kept (by first | (simp; done) | grind)) ?_)
 intro cs_69 rb_70
 refine w_q rfl (fun h' L' hh hR => (zF (sz := 3) (axJ s.1) underlying32 sizeOf30 rfl rfl (by rfl) (by exact axJ_lt _)).cv (show _ = vP b9 (((axJ s.1) * 3 + 0)) from congrArg (vP b9) (by omega))) rfl ?_
 refine w_c rfl (s_updx (A := []) (F := fun c_ => (rpT (rpQ (k + 1))).R h2 c_ (((T3.mk (0 : Rat) 0 0).set (axI s.1) q.x).set (axJ s.1) q.y)) (zX sizeOf30 (Pc.ta (Pc.here _) (axJ s.1) (by exact axJ_lt _)) rfl rfl rfl rb_70 (r25.le (Le.q (l := k + 1) (by omega))) rfl) (mem_kept (by first | (simp; done) | grind)) ?_)
 intro cs_71 rb_72
 refine yZ (zK (e' := [(2, _), (4, _), (8, _), (9, _)]) e4z (zB (zC ?_)))
 refine gc_draw1 (A := []) 18 [] [(0, .q), (1, .q), (2, .q), (3, .q), (4, .q), (8, .q), (9, .q), (10, .q), (11, .q), (5, .c), (6, .c), (7, .c), (12, .c), (13, .q), (14, .q), (15, .q), (16, .q), (17, .c)] xG nX (chk_of [0, 0, 2, 0, 8, 0, 48, 68, 0, 0, 768, 1024, 2176, 4096, 8192, 8192, 32767, 98303] [262143, 262143, 262141, 262143, 262135, 262143, 262095, 262075, 262143, 262143, 261375, 261119, 259967, 258047, 253951, 253951, 262142, 180223] (by kernel_rfl)) nX (w_q rfl (fun h' L' hh hR => zH rfl) rfl (w_q rfl (fun h' L' hh hR => (zI underlying34 rfl sizeOf30 rfl).cv (show _ = vP b2 9 from congrArg (vP b2) (by rfl))) rfl ?_))
 replace rb2 := rb2.mono hh2
 refine yO (F := fun v_ => (rpQ l).Is h2 v_ s.2) rfl (zE xA (Pc.snd (Pc.here _)) rfl rfl rb2 rfl) (yD (.tail _ (.tail _ (.head _)))) rfl ?_
 intro v31 r31
 refine w_q rfl (fun h' L' hh hR => (zI underlying34 rfl sizeOf32 rfl).cv (show _ = vP b2 0 from congrArg (vP b2) (by rfl))) rfl (yO (F := fun v_ => (rpT (rpQ m)).Is h2 v_ s.1) rfl (zE xF (Pc.fst (Pc.here _)) rfl rfl rb2 rfl) (yD (.tail _ (.tail _ (.head _)))) rfl ?_)
 intro v33 r33
 refine w_q rfl (fun h' L' hh hR => zH rfl) rfl (w_q rfl (fun h' L' hh hR => (zI underlying34 rfl sizeOf32 rfl).cv (show _ = vP b2 0 from congrArg (vP b2) (by rfl))) rfl (w_q rfl (fun h' L' hh hR => (zF (sz := 3) (axK s.1) underlying32 sizeOf30 rfl rfl (by rfl) (by exact axK_lt _)).cv (show _ = vP b2 (((axK s.1) * 3 + 0)) from congrArg (vP b2) (by omega))) rfl (yO (F := fun v_ => (rpQ m).Is h2 v_ (s.1.at (axK s.1))) rfl (zE xA (Pc.fst (Pc.ta (Pc.here _) (axK s.1) (by exact axK_lt _))) rfl rfl rb2 rfl) (yD (.tail _ (.tail _ (.head _)))) rfl ?_)))
 intro v40 r40
 refine w_c rfl (s_x (F := fun v_ => (rpT (rpQ (k + 1))).Is h2 v_ (((T3.mk (0 : Rat) 0 0).set (axI s.1) q.x).set (axJ s.1) q.y)) (zE xF (Pc.here _) rfl rfl rb_72 rfl) (yD (.head _)) rfl ?_)
 intro v34 r34
 refine w_c rfl ?_
 refine zY (vs := [_, _]) call57 e2z (fun w hs => o_r4_dot hs r33 r34 (by omega)) rfl ?_
 intro v35 h3 hh3 r35
 change (rpQ (3 * m + 3 * (k + 1) + 9)).Is h3 v35 (dotT s.1 (((T3.mk (0 : Rat) 0 0).set (axI s.1) q.x).set (axJ s.1) q.y)) at r35
 replace r35 := Rp.Is.le r35 (Le.q (l := 3 * k + 3 * m + 12) (by omega))
 refine w_c rfl ?_
 replace r31 := r31.mono hh3
 refine zY (vs := [_, _]) call56 e2z (fun w hs => o_rref_sub hs r31 r35 (by omega)) rfl ?_
 intro v36 h4 hh4 r36
 change (rpQ (l + (3 * k + 3 * m + 12) + 1)).Is h4 v36 (s.2 - (dotT s.1 (((T3.mk (0 : Rat) 0 0).set (axI s.1) q.x).set (axJ s.1) q.y))) at r36
 replace r36 := Rp.Is.le r36 (Le.q (l := 3 * k + l + 3 * m + 13) (by omega))
 refine w_c rfl ?_
 replace r40 := r40.mono (hh3.trans hh4)
 refine zY (vs := [_, _]) call88 e2z (fun w hs => o_rref_quo hs r36 r40 (by omega)) rfl ?_
 intro v41 h5 hh5 r41
 obtain ⟨v41_0, rfl, r41_0⟩ := r41
 change (rpQ ((3 * k + l + 3 * m + 13) + m)).Is h5 v41_0 (if (s.1.at (axK s.1)) = 0 then 0 else (s.2 - (dotT s.1 (((T3.mk (0 : Rat) 0 0).set (axI s.1) q.x).set (axJ s.1) q.y))) / (s.1.at (axK s.1))) at r41_0
 replace r41_0 := Rp.Is.le r41_0 (Le.q (l := 3 * k + l + 4 * m + 13) (by omega))
 refine w_q rfl (fun h' L' hh hR => zH rfl) rfl (w_q rfl (fun h' L' hh hR => zN (vs := [_, _]) rfl rfl) rfl (w_q rfl (fun h' L' hh hR => zN (vs := [_, _]) rfl rfl) rfl (w_q rfl (fun h' L' hh hR => (zF (sz := 3) (axK s.1) underlying32 sizeOf30 rfl rfl (by rfl) (by exact axK_lt _)).cv (show _ = vP b9 (((axK s.1) * 3 + 0)) from congrArg (vP b9) (by omega))) rfl ?_)))
 refine w_c rfl ?_
 replace rb_72 := rb_72.mono ((hh3.trans hh4).trans hh5)
 have rw_73 := (Le.t (Le.q (l := 3 * k + l + 4 * m + 13) (by omega))).R rb_72
 refine s_updx (A := []) (F := fun c_ => (rpT (rpQ (3 * k + l + 4 * m + 13))).R h5 c_ ((((T3.mk (0 : Rat) 0 0).set (axI s.1) q.x).set (axJ s.1) q.y).set (axK s.1) (if (s.1.at (axK s.1)) = 0 then 0 else (s.2 - (dotT s.1 (((T3.mk (0 : Rat) 0 0).set (axI s.1) q.x).set (axJ s.1) q.y))) / (s.1.at (axK s.1))))) (zX sizeOf30 (Pc.ta (Pc.here _) (axK s.1) (by exact axK_lt _)) rfl rfl rfl rw_73 r41_0 rfl) (mem_kept (by first | (simp; done) | grind)) ?_
 intro cs_74 rb_75
 refine yZ (zK (e' := [(4, _), (9, _)]) e2z (zB (zC (zA (xQ (F := fun v_ => (rpT (rpQ (3 * k + l + 4 * m + 13))).Is h5 v_ ((((T3.mk (0 : Rat) 0 0).set (axI s.1) q.x).set (axJ s.1) q.y).set (axK s.1) (if (s.1.at (axK s.1)) = 0 then 0 else (s.2 - (dotT s.1 (((T3.mk (0 : Rat) 0 0).set (axI s.1) q.x).set (axJ s.1) q.y))) / (s.1.at (axK s.1))))) (zE xF (Pc.here _) rfl rfl rb_75 rfl) (yD (.head _)) rfl ?_)))))
 intro v45 r45
 replace rb4 := rb4.mono ((((hh1.trans hh2).trans hh3).trans hh4).trans hh5)
 refine xO (A := [_]) (F := fun c_ => (rpT (rpQ (3 * k + l + 4 * m + 30))).R h5 c_ ((((T3.mk (0 : Rat) 0 0).set (axI s.1) q.x).set (axJ s.1) q.y).set (axK s.1) (if (s.1.at (axK s.1)) = 0 then 0 else (s.2 - (dotT s.1 (((T3.mk (0 : Rat) 0 0).set (axI s.1) q.x).set (axJ s.1) q.y))) / (s.1.at (axK s.1))))) (zX sizeOf32 (Pc.here _) rfl rfl rfl rb4 (r45.le (Le.t (Le.q (l := 3 * k + l + 4 * m + 30) (by omega)))) rfl) ?_
 intro cs_76 rb_77
 refine asg rfl rfl (zD (zB (zR (gq_exv (rv_o (t := 4) xF (.tail _ (.head _)) rfl rb_77) ?_))))
 intro w_78 hvw_78 rr_79
 refine xM (fun E S => run_res2 rfl hvw_78 (rv_tmp rfl) E S) ?_
 refine ⟨_, ?_, (Rp.Is.cast rr_79 (by exact ref_lift hc12))⟩
 rw [vB_true hz]
end Go.Proofs.YtghhjjmjpeehdaaGreat
namespace Bk
set_option linter.unusedVariables false
open Classical
def pairsTo (R : Nat → Nat → Prop) (n a : Nat) : Prop := ∀ p q, p < a → p < q → q < n → R p q
def rowTo (R : Nat → Nat → Prop) (a b : Nat) : Prop := ∀ q, a < q → q < b → R a q
def difR (l : List Pt) (i j p q : Nat) : Prop := ¬ pr (gp l p) i j = pr (gp l q) i j
noncomputable def wantZ (n p q : Nat) : Int := if q = p + 1 ∨ (p = 0 ∧ q + 1 = n) then 1 else 0
def okT (l : List Pt) (i j p q : Nat) : Prop := touch2 (edgeA l i j p) (edgeB l i j p) (edgeA l i j q) (edgeB l i j q) = wantZ l.length p q
def simP (l : List Pt) (i j : Nat) : Prop := 3 ≤ l.length ∧ pairsTo (difR l i j) l.length l.length ∧ pairsTo (okT l i j) l.length l.length
end Bk
namespace Bk
set_option linter.unusedVariables false
set_option linter.unusedSimpArgs false
open Classical
def addT (a b : Pt) : Pt := T3.mk (a.x + b.x) (a.y + b.y) (a.z + b.z)
def moved (l l' : List Pt) (v : Pt) : Prop := l'.length = l.length ∧ ∀ q, q < l.length → gp l' q = addT (gp l q) v
def sh (a v : P2) : P2 := (a.1 + v.1, a.2 + v.2)
end Bk
namespace Bk
set_option linter.unusedVariables false
set_option linter.unusedSimpArgs false
open Classical
def reved (l z : List Pt) : Prop := z.length = l.length ∧ ∀ q, q < l.length → gp z q = gp l (l.length - 1 - q)
def sN (n m : Nat) : Nat := if m + 1 = n then m else n - 2 - m
def movTo (l y : List Pt) (v : Pt) (m : Nat) : Prop := y.length = m ∧ ∀ q, q < m → gp y q = addT (gp l q) v
def revTo (l z : List Pt) (m : Nat) : Prop := z.length = m ∧ ∀ q, q < m → gp z q = gp l (l.length - 1 - q)
end Bk
namespace Bk
set_option linter.unusedVariables false
set_option linter.unusedSimpArgs false
open Classical
def hgt (pl : Pl) (p : Pt) : Rat := dotT pl.1 p - pl.2
noncomputable def sdZ (pl : Pl) (p : Pt) : Int := sgnQ (hgt pl p)
theorem sd_range (pl : Pl) (p : Pt) : -1 ≤ sdZ pl p ∧ sdZ pl p ≤ 1 := sgnQ_range _
def lerp (t : Rat) (a b : Pt) : Pt := T3.mk (a.x + t * (b.x - a.x)) (a.y + t * (b.y - a.y)) (a.z + t * (b.z - a.z))
noncomputable def cutT (pl : Pl) (a b : Pt) : Rat := if hgt pl a - hgt pl b = 0 then 0 else hgt pl a / (hgt pl a - hgt pl b)
noncomputable def btw (pl : Pl) (a b : Pt) : Pt := lerp (cutT pl a b) a b
abbrev nx (l : List Pt) (m : Nat) : Pt := gp l ((m + 1) % l.length)
def xP (pl : Pl) (l : List Pt) (m : Nat) : Prop := sdZ pl (gp l m) * sdZ pl (nx l m) < 0
noncomputable def bkTo (pl : Pl) (l : List Pt) : Nat → List Pt
  | 0 => []
  | m + 1 => bkTo pl l m ++ (if sdZ pl (gp l m) ≤ 0 then [gp l m] else []) ++ (if xP pl l m then [btw pl (gp l m) (nx l m)] else [])
noncomputable def frTo (pl : Pl) (l : List Pt) : Nat → List Pt
  | 0 => []
  | m + 1 => frTo pl l m ++ (if 0 ≤ sdZ pl (gp l m) then [gp l m] else []) ++ (if xP pl l m then [btw pl (gp l m) (nx l m)] else [])
def behTo (pl : Pl) (l : List Pt) : Nat → Prop
  | 0 => False
  | m + 1 => behTo pl l m ∨ sdZ pl (gp l m) < 0
def aheTo (pl : Pl) (l : List Pt) : Nat → Prop
  | 0 => False
  | m + 1 => aheTo pl l m ∨ 0 < sdZ pl (gp l m)
noncomputable def cutB (pl : Pl) (l : List Pt) : List Pt := if behTo pl l l.length ∨ ¬ aheTo pl l l.length then bkTo pl l l.length else []
noncomputable def cutF (pl : Pl) (l : List Pt) : List Pt := if aheTo pl l l.length then frTo pl l l.length else []
section
variable {pl : Pl} {l B : List Pt} {m : Nat}
theorem bk_n (hB : B = bkTo pl l m) (h1 : ¬ sdZ pl (gp l m) ≤ 0) (h2 : ¬ xP pl l m) : B = bkTo pl l (m + 1) := by
  show _ = _ ++ _ ++ _; rw [if_neg h1, if_neg h2, hB, List.append_nil, List.append_nil]
theorem bk_a (hB : B = bkTo pl l m) (h1 : sdZ pl (gp l m) ≤ 0) (h2 : ¬ xP pl l m) : B ++ [gp l m] = bkTo pl l (m + 1) := by
  show _ = _ ++ _ ++ _; rw [if_pos h1, if_neg h2, hB, List.append_nil]
theorem bk_x (hB : B = bkTo pl l m) (h1 : ¬ sdZ pl (gp l m) ≤ 0) (h2 : xP pl l m) : B ++ [btw pl (gp l m) (nx l m)] = bkTo pl l (m + 1) := by
  show _ = _ ++ _ ++ _; rw [if_neg h1, if_pos h2, hB, List.append_nil]
theorem bk_ax (hB : B = bkTo pl l m) (h1 : sdZ pl (gp l m) ≤ 0) (h2 : xP pl l m) : B ++ [gp l m] ++ [btw pl (gp l m) (nx l m)] = bkTo pl l (m + 1) := by
  show _ = _ ++ _ ++ _; rw [if_pos h1, if_pos h2, hB]
theorem fr_n (hB : B = frTo pl l m) (h1 : ¬ 0 ≤ sdZ pl (gp l m)) (h2 : ¬ xP pl l m) : B = frTo pl l (m + 1) := by
  show _ = _ ++ _ ++ _; rw [if_neg h1, if_neg h2, hB, List.append_nil, List.append_nil]
theorem fr_a (hB : B = frTo pl l m) (h1 : 0 ≤ sdZ pl (gp l m)) (h2 : ¬ xP pl l m) : B ++ [gp l m] = frTo pl l (m + 1) := by
  show _ = _ ++ _ ++ _; rw [if_pos h1, if_neg h2, hB, List.append_nil]
theorem fr_x (hB : B = frTo pl l m) (h1 : ¬ 0 ≤ sdZ pl (gp l m)) (h2 : xP pl l m) : B ++ [btw pl (gp l m) (nx l m)] = frTo pl l (m + 1) := by
  show _ = _ ++ _ ++ _; rw [if_neg h1, if_pos h2, hB, List.append_nil]
theorem fr_ax (hB : B = frTo pl l m) (h1 : 0 ≤ sdZ pl (gp l m)) (h2 : xP pl l m) : B ++ [gp l m] ++ [btw pl (gp l m) (nx l m)] = frTo pl l (m + 1) := by
  show _ = _ ++ _ ++ _; rw [if_pos h1, if_pos h2, hB]
noncomputable def bkH (pl : Pl) (l : List Pt) (m : Nat) : List Pt := bkTo pl l m ++ (if sdZ pl (gp l m) ≤ 0 then [gp l m] else [])
noncomputable def frH (pl : Pl) (l : List Pt) (m : Nat) : List Pt := frTo pl l m ++ (if 0 ≤ sdZ pl (gp l m) then [gp l m] else [])
theorem bk_h1 (hB : B = bkTo pl l m) (h1 : sdZ pl (gp l m) ≤ 0) : B ++ [gp l m] = bkH pl l m := by unfold bkH; rw [if_pos h1, hB]
theorem bk_h0 (hB : B = bkTo pl l m) (h1 : ¬ sdZ pl (gp l m) ≤ 0) : B = bkH pl l m := by unfold bkH; rw [if_neg h1, hB, List.append_nil]
theorem fr_h1 (hB : B = frTo pl l m) (h1 : 0 ≤ sdZ pl (gp l m)) : B ++ [gp l m] = frH pl l m := by unfold frH; rw [if_pos h1, hB]
theorem fr_h0 (hB : B = frTo pl l m) (h1 : ¬ 0 ≤ sdZ pl (gp l m)) : B = frH pl l m := by unfold frH; rw [if_neg h1, hB, List.append_nil]
theorem bk_y (hB : B = bkH pl l m) (h : xP pl l m) : B ++ [btw pl (gp l m) (nx l m)] = bkTo pl l (m + 1) := by show _ = bkH pl l m ++ _; rw [if_pos h, hB]
theorem bk_z (hB : B = bkH pl l m) (h : ¬ xP pl l m) : B = bkTo pl l (m + 1) := by show _ = bkH pl l m ++ _; rw [if_neg h, hB, List.append_nil]
theorem fr_y (hB : B = frH pl l m) (h : xP pl l m) : B ++ [btw pl (gp l m) (nx l m)] = frTo pl l (m + 1) := by show _ = frH pl l m ++ _; rw [if_pos h, hB]
theorem fr_z (hB : B = frH pl l m) (h : ¬ xP pl l m) : B = frTo pl l (m + 1) := by show _ = frH pl l m ++ _; rw [if_neg h, hB, List.append_nil]
theorem beh_iff : ∀ m, behTo pl l m ↔ ∃ q, q < m ∧ sdZ pl (gp l q) < 0
  | 0 => ⟨False.elim, fun ⟨q, h, _⟩ => by omega⟩
  | m + 1 => by
    show (_ ∨ _) ↔ _
    rw [beh_iff m]
    constructor
    · rintro (⟨q, h1, h2⟩ | h)
      · exact ⟨q, by omega, h2⟩
      · exact ⟨m, by omega, h⟩
    · rintro ⟨q, h1, h2⟩
      rcases Nat.lt_succ_iff_lt_or_eq.1 h1 with h3 | h3
      · exact .inl ⟨q, h3, h2⟩
      · subst h3; exact .inr h2
theorem ahe_iff : ∀ m, aheTo pl l m ↔ ∃ q, q < m ∧ 0 < sdZ pl (gp l q)
  | 0 => ⟨False.elim, fun ⟨q, h, _⟩ => by omega⟩
  | m + 1 => by
    show (_ ∨ _) ↔ _
    rw [ahe_iff m]
    constructor
    · rintro (⟨q, h1, h2⟩ | h)
      · exact ⟨q, by omega, h2⟩
      · exact ⟨m, by omega, h⟩
    · rintro ⟨q, h1, h2⟩
      rcases Nat.lt_succ_iff_lt_or_eq.1 h1 with h3 | h3
      · exact .inl ⟨q, h3, h2⟩
      · subst h3; exact .inr h2
end
theorem take_gp {l : List Pt} {m : Nat} (h : m < l.length) : l.take m ++ [gp l m] = l.take (m + 1) := by
  unfold gp
  rw [List.getD_eq_getElem?_getD, List.getElem?_eq_getElem h]
  exact (List.take_succ_eq_append_getElem h).symm
theorem no_x {pl : Pl} {l : List Pt} {m : Nat} (h : ∀ q, q < l.length → sdZ pl (gp l q) ≤ 0) (hm : m < l.length) : ¬ xP pl l m := fun e => by
  have h1 := h m hm
  have h2 := h _ (Nat.mod_lt (m + 1) (show 0 < l.length by omega))
  have h3 := Int.mul_nonneg_of_nonpos_of_nonpos h1 h2
  exact absurd e (Int.not_lt.2 h3)
theorem no_x' {pl : Pl} {l : List Pt} {m : Nat} (h : ∀ q, q < l.length → 0 ≤ sdZ pl (gp l q)) (hm : m < l.length) : ¬ xP pl l m := fun e => by
  have h1 := h m hm
  have h2 := h _ (Nat.mod_lt (m + 1) (show 0 < l.length by omega))
  have h3 := Int.mul_nonneg h1 h2
  exact absurd e (Int.not_lt.2 h3)
theorem bk_same {pl : Pl} {l : List Pt} (h : ∀ q, q < l.length → sdZ pl (gp l q) ≤ 0) : ∀ m, m ≤ l.length → bkTo pl l m = l.take m
  | 0, _ => by rw [List.take_zero]; rfl
  | m + 1, hm => by
    rw [← bk_a rfl (h m (by omega)) (no_x h (by omega)), bk_same h m (by omega), take_gp (by omega)]
theorem fr_same {pl : Pl} {l : List Pt} (h : ∀ q, q < l.length → 0 ≤ sdZ pl (gp l q)) : ∀ m, m ≤ l.length → frTo pl l m = l.take m
  | 0, _ => by rw [List.take_zero]; rfl
  | m + 1, hm => by
    rw [← fr_a rfl (h m (by omega)) (no_x' h (by omega)), fr_same h m (by omega), take_gp (by omega)]
theorem cutB_all {pl : Pl} {l : List Pt} (h : ¬ aheTo pl l l.length) : cutB pl l = l ∧ cutF pl l = [] := by
  have h1 : ∀ q, q < l.length → sdZ pl (gp l q) ≤ 0 := fun q hq => Int.not_lt.1 fun e => h ((ahe_iff _).2 ⟨q, hq, e⟩)
  unfold cutB cutF
  rw [if_pos (.inr h), if_neg h, bk_same h1 _ (Nat.le_refl _), List.take_length]
  exact ⟨rfl, rfl⟩
theorem cutF_all {pl : Pl} {l : List Pt} (h : aheTo pl l l.length) (hb : ¬ behTo pl l l.length) : cutB pl l = [] ∧ cutF pl l = l := by
  have h1 : ∀ q, q < l.length → 0 ≤ sdZ pl (gp l q) := fun q hq => Int.not_lt.1 fun e => hb ((beh_iff _).2 ⟨q, hq, e⟩)
  unfold cutB cutF
  rw [if_neg (fun e => e.elim hb fun e => e h), if_pos h, fr_same h1 _ (Nat.le_refl _), List.take_length]
  exact ⟨rfl, rfl⟩
theorem cut_both {pl : Pl} {l : List Pt} (h : aheTo pl l l.length) (hb : behTo pl l l.length) : cutB pl l = bkTo pl l l.length ∧ cutF pl l = frTo pl l l.length := by
  unfold cutB cutF
  rw [if_pos (.inl hb), if_pos h]
  exact ⟨rfl, rfl⟩
theorem bk_len (pl : Pl) (l : List Pt) : ∀ m, (bkTo pl l m).length ≤ 2 * m
  | 0 => Nat.le_refl _
  | m + 1 => by
    have h := bk_len pl l m
    show List.length (_ ++ _ ++ _) ≤ _
    rw [lAz, lAz]
    have h1 : (if sdZ pl (gp l m) ≤ 0 then [gp l m] else []).length ≤ 1 := by split <;> simp
    have h2 : (if xP pl l m then [btw pl (gp l m) (nx l m)] else []).length ≤ 1 := by split <;> simp
    omega
theorem fr_len (pl : Pl) (l : List Pt) : ∀ m, (frTo pl l m).length ≤ 2 * m
  | 0 => Nat.le_refl _
  | m + 1 => by
    have h := fr_len pl l m
    show List.length (_ ++ _ ++ _) ≤ _
    rw [lAz, lAz]
    have h1 : (if 0 ≤ sdZ pl (gp l m) then [gp l m] else []).length ≤ 1 := by split <;> simp
    have h2 : (if xP pl l m then [btw pl (gp l m) (nx l m)] else []).length ≤ 1 := by split <;> simp
    omega
theorem bkh_len (pl : Pl) (l : List Pt) (m : Nat) : (bkH pl l m).length ≤ 2 * m + 1 := by
  have h := bk_len pl l m
  unfold bkH
  rw [lAz]
  have h1 : (if sdZ pl (gp l m) ≤ 0 then [gp l m] else []).length ≤ 1 := by split <;> simp
  omega
theorem frh_len (pl : Pl) (l : List Pt) (m : Nat) : (frH pl l m).length ≤ 2 * m + 1 := by
  have h := fr_len pl l m
  unfold frH
  rw [lAz]
  have h1 : (if 0 ≤ sdZ pl (gp l m) then [gp l m] else []).length ≤ 1 := by split <;> simp
  omega
theorem cutB_len (pl : Pl) (l : List Pt) : (cutB pl l).length ≤ 2 * l.length := by
  unfold cutB; split
  · exact bk_len pl l _
  · exact Nat.zero_le _
theorem cutF_len (pl : Pl) (l : List Pt) : (cutF pl l).length ≤ 2 * l.length := by
  unfold cutF; split
  · exact fr_len pl l _
  · exact Nat.zero_le _
end Bk
namespace Bk
set_option linter.unusedVariables false
set_option linter.unusedSimpArgs false
open Classical
theorem cr_rot (a b c : P2) : cr b c a = cr a b c := by unfold cr; grind
theorem cr_dup (a b : P2) : cr a b b = 0 := by unfold cr; grind
def triT (P : Nat → P2) (n : Nat) : Prop := ∀ i j k, i < j → j < k → k < n → 0 < cr (P i) (P j) (P k)
def edgeT (P : Nat → P2) (n : Nat) : Prop := ∀ i k, i < n → 2 ≤ k → k < n → 0 < cr (P i) (P ((i + 1) % n)) (P ((i + k) % n))
theorem plucker {o a b c d : P2} : cr o a c * cr o b d = cr o a b * cr o c d + cr o a d * cr o b c := by unfold cr; grind
theorem pos_div {x y : Rat} (hx : 0 < x) (h : 0 < x * y) : 0 < y := by
  refine Rat.not_le.1 fun e => ?_
  have := Rat.mul_nonneg (a := x) (b := -y) (by grind) (by grind)
  grind
theorem tri_of_edge {P : Nat → P2} {n : Nat} (h3 : 3 ≤ n) (h : edgeT P n) : triT P n := by
  intro i j k hij hjk hk
  have key : ∀ b, b < n → ∀ a, 1 ≤ a → a < b → 0 < cr (P i) (P ((i + a) % n)) (P ((i + b) % n)) := by
    intro b
    induction b with
    | zero => intro _ a h1 h2; omega
    | succ b ih =>
      intro hb a ha hab
      have hedge : 1 ≤ b → 0 < cr (P i) (P ((i + b) % n)) (P ((i + (b + 1)) % n)) := fun hb1 => by
        have h1 := h ((i + b) % n) (n - b) (Nat.mod_lt _ (by omega)) (by omega) (by omega)
        have e1 : ((i + b) % n + 1) % n = (i + (b + 1)) % n := by rw [Nat.mod_add_mod]; congr 1
        have e2 : ((i + b) % n + (n - b)) % n = i := by
          rw [Nat.mod_add_mod, show i + b + (n - b) = i + n by omega, Nat.add_mod_right, Nat.mod_eq_of_lt (by omega)]
        rw [e1, e2, ← cr_rot] at h1
        rw [cr_rot] at h1
        rw [← cr_rot]
        exact h1
      rcases Nat.lt_succ_iff_lt_or_eq.1 hab with hlt | heq
      · have h1 := ih (by omega) a ha hlt
        rcases Nat.lt_or_ge 1 a with h2 | h2
        · have e1 := h i b (by omega) (by omega) (by omega)
          have e2 := h i (b + 1) (by omega) (by omega) (by omega)
          have e3 := h i a (by omega) (by omega) (by omega)
          have e4 := hedge (by omega)
          have pl := plucker (o := P i) (a := P ((i + 1) % n)) (b := P ((i + a) % n)) (c := P ((i + b) % n)) (d := P ((i + (b + 1)) % n))
          refine pos_div e1 ?_
          rw [pl]
          have := Rat.mul_pos e3 e4
          have := Rat.mul_pos e2 h1
          grind
        · have e : a = 1 := by omega
          subst e
          exact h i (b + 1) (by omega) (by omega) (by omega)
      · subst heq; exact hedge ha
  have := key (k - i) (by omega) (j - i) (by omega) (by omega)
  rw [show i + (j - i) = j by omega, show i + (k - i) = k by omega, Nat.mod_eq_of_lt (show j < n by omega), Nat.mod_eq_of_lt hk] at this
  exact this
theorem edge_of_tri {P : Nat → P2} {n : Nat} (h : triT P n) : edgeT P n := by
  intro i k hi hk hkn
  by_cases h1 : i + 1 = n
  · rw [h1, Nat.mod_self, show (i + k) % n = k - 1 by rw [show i + k = (k - 1) + n by omega, Nat.add_mod_right, Nat.mod_eq_of_lt (by omega)]]
    rw [cr_rot, cr_rot]
    exact h 0 (k - 1) i (by omega) (by omega) hi
  · rw [Nat.mod_eq_of_lt (show i + 1 < n by omega)]
    by_cases h2 : i + k < n
    · rw [Nat.mod_eq_of_lt h2]; exact h i (i + 1) (i + k) (by omega) (by omega) h2
    · rw [show (i + k) % n = i + k - n by rw [show i + k = (i + k - n) + n by omega, Nat.add_mod_right, Nat.mod_eq_of_lt (by omega)]; omega]
      rw [cr_rot]
      exact h (i + k - n) i (i + 1) (by omega) (by omega) (by omega)
def lp (t : Rat) (a b : P2) : P2 := (a.1 + t * (b.1 - a.1), a.2 + t * (b.2 - a.2))
theorem lp_zero (a b : P2) : lp 0 a b = a := by unfold lp; obtain ⟨a1, a2⟩ := a; rw [Prod.mk.injEq]; grind
theorem cr_lp1 (t : Rat) (a b c d : P2) : cr (lp t a b) c d = (1 - t) * cr a c d + t * cr b c d := by unfold cr lp; grind
theorem cr_lp2 (t : Rat) (a b c d : P2) : cr c (lp t a b) d = (1 - t) * cr c a d + t * cr c b d := by unfold cr lp; grind
theorem cr_lp3 (t : Rat) (a b c d : P2) : cr c d (lp t a b) = (1 - t) * cr c d a + t * cr c d b := by unfold cr lp; grind
def ex (P : Nat → P2) (n m : Nat) : P2 := P (m % n)
theorem ex_pos {P : Nat → P2} {n i j k : Nat} (h : triT P n) (hij : i < j) (hjk : j < k) (hk : k ≤ n) (hno : ¬ (i = 0 ∧ k = n)) : 0 < cr (ex P n i) (ex P n j) (ex P n k) := by
  unfold ex
  rw [Nat.mod_eq_of_lt (show i < n by omega), Nat.mod_eq_of_lt (show j < n by omega)]
  by_cases e : k = n
  · rw [e, Nat.mod_self, cr_rot]
    exact h 0 i j (by omega) hij (by omega)
  · rw [Nat.mod_eq_of_lt (by omega)]
    exact h i j k hij hjk (by omega)
theorem ex_nonneg {P : Nat → P2} {n i j k : Nat} (h : triT P n) (hij : i ≤ j) (hjk : j ≤ k) (hk : k ≤ n) : 0 ≤ cr (ex P n i) (ex P n j) (ex P n k) := by
  by_cases e1 : i = j
  · rw [e1, cr_self]; exact Rat.le_refl
  · by_cases e2 : j = k
    · rw [e2, cr_dup]; exact Rat.le_refl
    · by_cases e3 : i = 0 ∧ k = n
      · rw [e3.1, e3.2]
        have : ex P n 0 = ex P n n := by unfold ex; rw [Nat.mod_self, Nat.zero_mod]
        rw [this, cr_end']; exact Rat.le_refl
      · exact Rat.le_of_lt (ex_pos h (by omega) (by omega) hk e3)
abbrev Mk := Nat × Bool
def mkP (P : Nat → P2) (n : Nat) (t : Nat → Rat) (M : Mk) : P2 := if M.2 then lp (t M.1) (ex P n M.1) (ex P n (M.1 + 1)) else ex P n M.1
def mkLt (A B : Mk) : Prop := A.1 < B.1 ∨ (A.1 = B.1 ∧ A.2 = false ∧ B.2 = true)
def chg (s : Nat → Int) (n m : Nat) : Prop := s m * s ((m + 1) % n) < 0
noncomputable def mks (s : Nat → Int) (n : Nat) : Nat → List Mk
  | 0 => []
  | m + 1 => mks s n m ++ (if s m ≤ 0 then [(m, false)] else []) ++ (if chg s n m then [(m, true)] else [])
theorem mks_mem {s : Nat → Int} {n : Nat} {M : Mk} : ∀ {m}, M ∈ mks s n m ↔ M.1 < m ∧ if M.2 then chg s n M.1 else s M.1 ≤ 0
  | 0 => ⟨fun h => absurd h List.not_mem_nil, fun h => by omega⟩
  | m + 1 => by
    obtain ⟨i, b⟩ := M
    show (i, b) ∈ _ ++ _ ++ _ ↔ _
    rw [List.mem_append, List.mem_append, mks_mem]
    constructor
    · rintro ((⟨h1, h2⟩ | h) | h)
      · exact ⟨by omega, h2⟩
      · split at h
        · rename_i h3
          rw [List.mem_singleton, Prod.mk.injEq] at h
          obtain ⟨rfl, rfl⟩ := h
          exact ⟨by omega, h3⟩
        · exact absurd h List.not_mem_nil
      · split at h
        · rename_i h3
          rw [List.mem_singleton, Prod.mk.injEq] at h
          obtain ⟨rfl, rfl⟩ := h
          exact ⟨by omega, h3⟩
        · exact absurd h List.not_mem_nil
    · rintro ⟨h1, h2⟩
      rcases Nat.lt_succ_iff_lt_or_eq.1 h1 with h3 | h3
      · exact .inl (.inl ⟨h3, h2⟩)
      · have h3' : i = m := h3
        subst h3'
        cases b with
        | false => have h2' : s i ≤ 0 := h2; refine .inl (.inr ?_); rw [if_pos h2']; exact List.mem_singleton.2 rfl
        | true => have h2' : chg s n i := h2; refine .inr ?_; rw [if_pos h2']; exact List.mem_singleton.2 rfl
theorem mks_sorted {s : Nat → Int} {n : Nat} : ∀ m, (mks s n m).Pairwise mkLt
  | 0 => List.Pairwise.nil
  | m + 1 => by
    show (_ ++ _ ++ _ : List Mk).Pairwise mkLt
    rw [List.pairwise_append, List.pairwise_append]
    refine ⟨⟨mks_sorted m, by split <;> simp, ?_⟩, by split <;> simp, ?_⟩
    · intro a ha b hb
      split at hb
      · rw [List.mem_singleton] at hb; subst hb; exact .inl (mks_mem.1 ha).1
      · exact absurd hb List.not_mem_nil
    · intro a ha b hb
      split at hb
      · rw [List.mem_singleton] at hb; subst hb
        rcases List.mem_append.1 ha with h | h
        · exact .inl (mks_mem.1 h).1
        · split at h
          · rw [List.mem_singleton] at h; subst h; exact .inr ⟨rfl, rfl, rfl⟩
          · exact absurd h List.not_mem_nil
      · exact absurd hb List.not_mem_nil
theorem sgn_opp {a b : Int} (ha : a ≤ 0) (h : a * b < 0) : a < 0 ∧ 0 < b := by
  have h1 : a ≠ 0 := fun e => by rw [e, Int.zero_mul] at h; omega
  refine ⟨by omega, Int.not_le.1 fun e => ?_⟩
  have := Int.mul_nonneg_of_nonpos_of_nonpos ha e
  omega
theorem mk_tri {P : Nat → P2} {n : Nat} {t : Nat → Rat} {s : Nat → Int} (h3 : 3 ≤ n) (h : triT P n) (ht : ∀ m, m < n → chg s n m → 0 < t m ∧ t m < 1) {A B C : Mk} (hA : A ∈ mks s n n) (hB : B ∈ mks s n n) (hC : C ∈ mks s n n) (hAB : mkLt A B) (hBC : mkLt B C) : 0 < cr (mkP P n t A) (mkP P n t B) (mkP P n t C) := by
  obtain ⟨i, a⟩ := A; obtain ⟨j, b⟩ := B; obtain ⟨k, c⟩ := C
  obtain ⟨hi, hA⟩ := mks_mem.1 hA; obtain ⟨hj, hB⟩ := mks_mem.1 hB; obtain ⟨hk, hC⟩ := mks_mem.1 hC
  simp only at hi hj hk
  -- weights
  have wt : ∀ (i : Nat) (a : Bool), i < n → (if a then chg s n i else s i ≤ 0) → ∃ w, mkP P n t (i, a) = lp w (ex P n i) (ex P n (i + 1)) ∧ 0 ≤ w ∧ w < 1 ∧ (a = true → 0 < w) ∧ (a = false → w = 0) := by
    intro i a hi h1
    cases a with
    | false => exact ⟨0, (lp_zero _ _).symm, Rat.le_refl, by decide, fun e => absurd e (by decide), fun _ => rfl⟩
    | true => have := ht i hi h1; exact ⟨t i, rfl, Rat.le_of_lt this.1, this.2, fun _ => this.1, fun e => absurd e (by decide)⟩
  obtain ⟨u, eA, u0, u1, up, uz⟩ := wt i a hi hA
  obtain ⟨v, eB, v0, v1, vp, vz⟩ := wt j b hj hB
  obtain ⟨w, eC, w0, w1, wp, wz⟩ := wt k c hk hC
  rw [eA, eB, eC]
  have F0 : ∀ {x y z : Nat}, x ≤ y → y ≤ z → z ≤ n → 0 ≤ cr (ex P n x) (ex P n y) (ex P n z) := fun a b c => ex_nonneg h a b c
  have nn : ∀ {x y : Rat}, 0 ≤ x → 0 ≤ y → 0 ≤ x * y := Rat.mul_nonneg
  have pp : ∀ {x y : Rat}, 0 < x → 0 < y → 0 < x * y := Rat.mul_pos
  have u1' : 0 < 1 - u := by grind
  have v1' : 0 < 1 - v := by grind
  have w1' : 0 < 1 - w := by grind
  have u1n := Rat.le_of_lt u1'
  have v1n := Rat.le_of_lt v1'
  have w1n := Rat.le_of_lt w1'
  rcases hAB with hij | ⟨hij, hab⟩
  · rcases hBC with hjk | ⟨hjk, hbc⟩
    · -- all on edges of their own
      have hij' : i < j := hij
      have hjk' : j < k := hjk
      have x1 : 0 < cr (lp u (ex P n i) (ex P n (i + 1))) (ex P n j) (ex P n k) := by
        rw [cr_lp1]
        have a1 := pp u1' (ex_pos h hij' hjk' (by omega) (by omega))
        have a2 := nn u0 (F0 (show i + 1 ≤ j by omega) (show j ≤ k by omega) (by omega))
        grind
      have x2 : ∀ {y z : Nat}, j ≤ y → y ≤ z → z ≤ n → 0 ≤ cr (lp u (ex P n i) (ex P n (i + 1))) (ex P n y) (ex P n z) := fun {y z} h1 h2 h3 => by
        rw [cr_lp1]
        have a1 := nn u1n (F0 (show i ≤ y by omega) h2 h3)
        have a2 := nn u0 (F0 (show i + 1 ≤ y by omega) h2 h3)
        grind
      rw [cr_lp2, cr_lp3, cr_lp3]
      have a1 := pp v1' (pp w1' x1)
      have a2 := nn v1n (nn w0 (x2 (Nat.le_refl j) (show j ≤ k + 1 by omega) (by omega)))
      have a3 := nn v0 (nn w1n (x2 (show j ≤ j + 1 by omega) (show j + 1 ≤ k by omega) (by omega)))
      have a4 := nn v0 (nn w0 (x2 (show j ≤ j + 1 by omega) (show j + 1 ≤ k + 1 by omega) (by omega)))
      grind
    · -- a vertex and a point on the edge behind it
      have hjk' : j = k := hjk
      obtain ⟨hb, hc⟩ := hbc
      simp only at hb hc
      subst hjk' hb hc
      have hij' : i < j := hij
      rw [vz rfl, lp_zero, cr_lp3, cr_dup]
      have hs := sgn_opp hB hC
      have w2 := wp rfl
      have x : 0 < cr (lp u (ex P n i) (ex P n (i + 1))) (ex P n j) (ex P n (j + 1)) := by
        rw [cr_lp1]
        by_cases e : i = 0 ∧ j + 1 = n
        · have ua : a = true := by
            cases a with
            | true => rfl
            | false =>
              have h1 : s i ≤ 0 := hA
              have h2 := hs.2
              rw [e.2, Nat.mod_self, ← e.1] at h2
              omega
          have a1 := nn u1n (F0 (show i ≤ j by omega) (show j ≤ j + 1 by omega) (by omega))
          have a2 := pp (up ua) (ex_pos h (show i + 1 < j by omega) (show j < j + 1 by omega) (by omega) (by omega))
          grind
        · have a1 := pp u1' (ex_pos h hij' (show j < j + 1 by omega) (by omega) e)
          have a2 := nn u0 (F0 (show i + 1 ≤ j by omega) (show j ≤ j + 1 by omega) (by omega))
          grind
      have := pp w2 x
      grind
  · have hij' : i = j := hij
    obtain ⟨ha, hb⟩ := hab
    simp only at ha hb
    subst hij' ha hb
    rcases hBC with hjk | ⟨hjk, hbc⟩
    · have hjk' : i < k := hjk
      rw [uz rfl, lp_zero, cr_lp2, cr_self]
      have hs := sgn_opp hA hB
      have v2 := vp rfl
      have x : 0 < cr (ex P n i) (ex P n (i + 1)) (lp w (ex P n k) (ex P n (k + 1))) := by
        rw [cr_lp3]
        by_cases e : k = i + 1
        · have wc : c = true := by
            cases c with
            | true => rfl
            | false =>
              have h1 : s k ≤ 0 := hC
              have h2 := hs.2
              rw [Nat.mod_eq_of_lt (show i + 1 < n by omega), ← e] at h2
              omega
          have a1 := nn w1n (F0 (show i ≤ i + 1 by omega) (show i + 1 ≤ k by omega) (by omega))
          have a2 := pp (wp wc) (ex_pos h (show i < i + 1 by omega) (show i + 1 < k + 1 by omega) (by omega) (by omega))
          grind
        · have a1 := pp w1' (ex_pos h (show i < i + 1 by omega) (show i + 1 < k by omega) (by omega) (by omega))
          have a2 := nn w0 (F0 (show i ≤ i + 1 by omega) (show i + 1 ≤ k + 1 by omega) (by omega))
          grind
      have := pp v2 x
      grind
    · exact absurd hbc.1 (by simp)
theorem mks_tri {P : Nat → P2} {n : Nat} {t : Nat → Rat} {s : Nat → Int} (h3 : 3 ≤ n) (h : triT P n) (ht : ∀ m, m < n → chg s n m → 0 < t m ∧ t m < 1) : triT (fun q => mkP P n t ((mks s n n).getD q (0, false))) (mks s n n).length := by
  intro a b c hab hbc hc
  have g : ∀ q (hq : q < (mks s n n).length), (mks s n n).getD q (0, false) = (mks s n n)[q] := fun q hq => by
    rw [List.getD_eq_getElem?_getD, List.getElem?_eq_getElem hq]; rfl
  have hp := List.pairwise_iff_getElem.1 (mks_sorted (s := s) (n := n) n)
  simp only [g a (by omega), g b (by omega), g c hc]
  exact mk_tri h3 h ht (List.getElem_mem _) (List.getElem_mem _) (List.getElem_mem _) (hp a b _ _ hab) (hp b c _ _ hbc)
theorem up_x {S : Nat → Int} {i : Nat} : ∀ d, S i < 0 → 0 < S (i + d) → ∃ p, i ≤ p ∧ p < i + d ∧ (S p * S (p + 1) < 0 ∨ (i < p ∧ S p = 0))
  | 0, h1, h2 => by rw [Nat.add_zero] at h2; omega
  | d + 1, h1, h2 => by
    rcases Int.lt_trichotomy (S (i + d)) 0 with h | h | h
    · exact ⟨i + d, by omega, by omega, .inl (Int.mul_neg_of_neg_of_pos h h2)⟩
    · refine ⟨i + d, by omega, by omega, .inr ⟨?_, h⟩⟩
      rcases Nat.eq_zero_or_pos d with e | e
      · subst e; rw [Nat.add_zero] at h; omega
      · omega
    · obtain ⟨p, a, b, c⟩ := up_x d h1 h
      exact ⟨p, a, by omega, c⟩
theorem down_x {S : Nat → Int} {i : Nat} : ∀ d, 0 < S i → S (i + d) < 0 → ∃ p, i ≤ p ∧ p < i + d ∧ (S p * S (p + 1) < 0 ∨ (i < p ∧ S p = 0))
  | 0, h1, h2 => by rw [Nat.add_zero] at h2; omega
  | d + 1, h1, h2 => by
    rcases Int.lt_trichotomy (S (i + d)) 0 with h | h | h
    · obtain ⟨p, a, b, c⟩ := down_x d h1 h
      exact ⟨p, a, by omega, c⟩
    · refine ⟨i + d, by omega, by omega, .inr ⟨?_, h⟩⟩
      rcases Nat.eq_zero_or_pos d with e | e
      · subst e; rw [Nat.add_zero] at h; omega
      · omega
    · exact ⟨i + d, by omega, by omega, .inl (Int.mul_neg_of_pos_of_neg h h2)⟩
theorem three_le {α : Type} {l : List α} {a b c : α} (ha : a ∈ l) (hb : b ∈ l) (hc : c ∈ l) (h1 : a ≠ b) (h2 : b ≠ c) (h3 : a ≠ c) : 3 ≤ l.length := by
  obtain ⟨i, hi, ei⟩ := List.mem_iff_getElem.1 ha
  obtain ⟨j, hj, ej⟩ := List.mem_iff_getElem.1 hb
  obtain ⟨k, hk, ek⟩ := List.mem_iff_getElem.1 hc
  have n1 : i ≠ j := fun e => by subst e; exact h1 (ei.symm.trans ej)
  have n2 : j ≠ k := fun e => by subst e; exact h2 (ej.symm.trans ek)
  have n3 : i ≠ k := fun e => by subst e; exact h3 (ei.symm.trans ek)
  omega
theorem mks_len {s : Nat → Int} {n i j : Nat} (hi : i < n) (hj : j < n) (h1 : s i < 0) (h2 : 0 < s j) : 3 ≤ (mks s n n).length := by
  have hn : 0 < n := by omega
  let S := fun m => s (m % n)
  have hSi : S i = s i := by show s (i % n) = _; rw [Nat.mod_eq_of_lt hi]
  -- j behind i
  obtain ⟨d, hd, hSd⟩ : ∃ d, d < n ∧ 0 < S (i + d) := by
    rcases Nat.lt_or_ge i j with h | h
    · refine ⟨j - i, by omega, ?_⟩
      show 0 < s ((i + (j - i)) % n)
      rw [show i + (j - i) = j by omega, Nat.mod_eq_of_lt hj]; exact h2
    · refine ⟨j + n - i, by have : i ≠ j := fun e => by subst e; omega
                            omega, ?_⟩
      show 0 < s ((i + (j + n - i)) % n)
      rw [show i + (j + n - i) = j + n by omega, Nat.add_mod_right, Nat.mod_eq_of_lt hj]; exact h2
  obtain ⟨p, p1, p2, p3⟩ := up_x d (by rw [hSi]; exact h1) hSd
  have hSn : S (i + d + (n - d)) < 0 := by
    show s ((i + d + (n - d)) % n) < 0
    rw [show i + d + (n - d) = i + n by omega, Nat.add_mod_right, Nat.mod_eq_of_lt hi]; exact h1
  obtain ⟨q, q1, q2, q3⟩ := down_x (n - d) hSd hSn
  have mm : ∀ {r : Nat}, (S r * S (r + 1) < 0 → ((r % n, true) : Mk) ∈ mks s n n) ∧ (S r = 0 → ((r % n, false) : Mk) ∈ mks s n n) := fun {r} => by
    have hr := Nat.mod_lt r hn
    refine ⟨fun e => mks_mem.2 ⟨hr, ?_⟩, fun e => mks_mem.2 ⟨hr, ?_⟩⟩
    · show s (r % n) * s ((r % n + 1) % n) < 0
      rw [Nat.mod_add_mod]; exact e
    · show s (r % n) ≤ 0
      have : s (r % n) = 0 := e
      omega
  have hI : ((i, false) : Mk) ∈ mks s n n := mks_mem.2 ⟨hi, Int.le_of_lt h1⟩
  have modne : ∀ {x y : Nat}, x < y → y < x + n → x % n ≠ y % n := fun {x y} h h' e => by
    have h4 : (y - x) % n = 0 := by
      have := Nat.sub_mod_eq_zero_of_mod_eq e.symm
      exact this
    rw [Nat.mod_eq_of_lt (by omega)] at h4
    omega
  have hpq : p % n ≠ q % n := modne (by omega) (by omega)
  have ii : i % n = i := Nat.mod_eq_of_lt hi
  have hp : ∃ b, ((p % n, b) : Mk) ∈ mks s n n ∧ ((p % n, b) : Mk) ≠ (i, false) := by
    rcases p3 with h | ⟨h, h'⟩
    · exact ⟨true, mm.1 h, fun e => by rw [Prod.mk.injEq] at e; exact absurd e.2 (by decide)⟩
    · refine ⟨false, mm.2 h', fun e => ?_⟩
      rw [Prod.mk.injEq] at e
      exact modne h (by omega) (by rw [ii]; exact e.1.symm)
  have hq : ∃ b, ((q % n, b) : Mk) ∈ mks s n n ∧ ((q % n, b) : Mk) ≠ (i, false) := by
    rcases q3 with h | ⟨h, h'⟩
    · exact ⟨true, mm.1 h, fun e => by rw [Prod.mk.injEq] at e; exact absurd e.2 (by decide)⟩
    · refine ⟨false, mm.2 h', fun e => ?_⟩
      rw [Prod.mk.injEq] at e
      exact modne (show i < q by omega) (by omega) (by rw [ii]; exact e.1.symm)
  obtain ⟨b, hb, hb'⟩ := hp
  obtain ⟨c, hc, hc'⟩ := hq
  exact three_le hI hb hc (fun e => hb' e.symm) (fun e => hpq (Prod.mk.inj e).1) (fun e => hc' e.symm)
end Bk
namespace Bk
set_option linter.unusedVariables false
set_option linter.unusedSimpArgs false
open Classical
def inC (P : Nat → P2) (n : Nat) (p : P2) : Prop := ∀ m, m < n → 0 ≤ cr (P m) (P ((m + 1) % n)) p
def afZ (w : Rat × Rat × Rat) (p : P2) : Rat := w.1 + w.2.1 * p.1 + w.2.2 * p.2
def mkS (S : Nat → Int) (M : Mk) : Prop := if M.2 then S M.1 * S (M.1 + 1) < 0 else S M.1 ≤ 0
def nxM (L : List Mk) (n q : Nat) : Mk := if q + 1 < L.length then L.getD (q + 1) (0, false) else ((L.getD 0 (0, false)).1 + n, (L.getD 0 (0, false)).2)
section
variable {s : Nat → Int} {n : Nat}
end
structure Cfg (P : Nat → P2) (n : Nat) (t : Nat → Rat) (s : Nat → Int) (w : Rat × Rat × Rat) : Prop where
  h3 : 3 ≤ n
  tri : triT P n
  per : ∀ m, t (m % n) = t m
  cross : ∀ m, m < n → chg s n m → (0 < t m ∧ t m < 1) ∧ afZ w (lp (t m) (P m) (P ((m + 1) % n))) = 0
  neg : ∀ m, m < n → (s m < 0 ↔ afZ w (P m) < 0)
  zero : ∀ m, m < n → (s m = 0 ↔ afZ w (P m) = 0)
section
variable {P : Nat → P2} {n : Nat} {t : Nat → Rat} {s : Nat → Int} {w : Rat × Rat × Rat}
def cx (u v : P2) : Rat := u.1 * v.2 - v.1 * u.2
def arC (P : Nat → P2) (n : Nat) : Nat → Rat
  | 0 => 0
  | m + 1 => arC P n m + cx (P m) (P ((m + 1) % n))
def arO (P : Nat → P2) (n : Nat) (o : P2) : Nat → Rat
  | 0 => 0
  | m + 1 => arO P n o m + cr o (P m) (P ((m + 1) % n))
noncomputable def om (S : Nat → Int) (t : Nat → Rat) (e : Nat) : Rat :=
  if S e ≤ 0 ∧ S (e + 1) ≤ 0 then 1 else if S e < 0 ∧ 0 < S (e + 1) then t e else if 0 < S e ∧ S (e + 1) < 0 then 1 - t e else 0
noncomputable def usum (S : Nat → Int) (t : Nat → Rat) (k : Nat → Rat) : Nat → Rat
  | 0 => 0
  | e + 1 => usum S t k e + om S t e * k e
noncomputable def uM (S : Nat → Int) (t : Nat → Rat) (k : Nat → Rat) (M : Mk) : Rat := usum S t k M.1 + if M.2 = true ∧ S M.1 < 0 then t M.1 * k M.1 else 0
end
def ngW (w : Rat × Rat × Rat) : Rat × Rat × Rat := (-w.1, -w.2.1, -w.2.2)
section
variable {P : Nat → P2} {n : Nat} {t : Nat → Rat} {s : Nat → Int} {w : Rat × Rat × Rat}
end
end Bk
