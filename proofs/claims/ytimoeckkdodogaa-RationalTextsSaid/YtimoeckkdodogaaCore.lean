/- The walking logic: symbolic frames, own memory, a ghost memory that only grows, and rules that step through the code of a function. It holds for any program P. -/
import Derived.WalkKit
namespace Bk
set_option linter.unusedVariables false
set_option linter.unusedSimpArgs false
open Go Go.RowKit

/-! ### Memory views -/

/-- A memory by its blocks. -/
abbrev Mem := Nat → Option Obj

/-- The memory of a world. -/
def mem (w : World) : Mem := fun b => w.heap[b]?

/-- Every block of the first memory is in the second one. -/
def MLe (h h' : Mem) : Prop := ∀ b o, h b = some o → h' b = some o

theorem MLe.refl (h : Mem) : MLe h h := fun _ _ x => x
theorem MLe.trans {a b c : Mem} (h : MLe a b) (k : MLe b c) : MLe a c := fun i o x => k i o (h i o x)

/-- The cell of a memory. -/
def cell (h : Mem) (b i : Nat) : Option Value :=
  match h b with
  | some (.cells c _ _) => c[i]?
  | _ => none

theorem cell_mono {h h' : Mem} (e : MLe h h') {b i : Nat} {v : Value} (hc : cell h b i = some v) : cell h' b i = some v := by
  unfold cell at *
  cases hb : h b with
  | none => simp [hb] at hc
  | some o => rw [e b o hb]; rw [hb] at hc; exact hc

theorem cell_world {h : Mem} {w : World} (e : MLe h (mem w)) {b i : Nat} {v : Value} (hc : cell h b i = some v) : w.cell? ⟨b, i, none⟩ = some v := by
  have := cell_mono e hc
  unfold cell mem at this
  unfold World.cell?
  exact this

theorem cell_of_world {w : World} {b i : Nat} {v : Value} (hc : w.cell? ⟨b, i, none⟩ = some v) : cell (mem w) b i = some v := by
  unfold World.cell? at hc
  unfold cell mem
  exact hc

/-! ### Own memory -/

/-- What a call owns: a block whose contents are known, or a slice that is nil or heads a block of its own. -/
inductive Res where
  | blk (b : Nat) (o : Obj)
  | gs (E k : Nat) (v : Value) (n : Nat) (cs : List Value)

def Res.ok (base : Nat) (w : World) : Res → Prop
  | .blk b o => w.heap[b]? = some o
  | .gs E k v n cs => w.ownsRow base E k v n cs

def Res.fp : Res → Option Nat
  | .blk b _ => some b
  | .gs _ _ v _ _ => v.ownBlock

/-- The state of a call: what the world became since the call began (w0), the ghost memory since then (h0), what the call owns. -/
structure St (w0 : World) (h0 : Mem) (L : List Res) (h : Mem) (w : World) : Prop where
  below : Below w0.heap.size w0 w
  le : MLe h0 h
  sub : MLe h (mem w)
  fresh : ∀ b, b < w0.heap.size → h b = h0 b
  ok : ∀ r ∈ L, r.ok w0.heap.size w
  own : ∀ r ∈ L, ∀ b, r.fp = some b → h b = none ∧ w0.heap.size ≤ b
  apart : L.Pairwise fun r s => ∀ b, r.fp = some b → s.fp ≠ some b

theorem St.begin {w : World} {h : Mem} (hs : MLe h (mem w)) : St w h [] h w :=
  ⟨Below.refl _ _, MLe.refl h, hs, fun _ _ => rfl, fun _ hr => by simp at hr, fun _ hr => by simp at hr, by simp⟩

theorem Res.fp_lt {base : Nat} {w : World} {r : Res} (h : r.ok base w) {b : Nat} (hb : r.fp = some b) : b < w.heap.size := by
  cases r with
  | blk b' o =>
    simp only [Res.fp, Option.some.injEq] at hb
    subst hb
    exact (Array.getElem?_eq_some_iff.1 h).1
  | gs E k v n cs => exact (World.ownsRow.lt h b hb).2

/-- What is owned stays so, in a world in which its block is as it was. -/
theorem Res.kept {base : Nat} {w w' : World} {r : Res} (h : r.ok base w) (hb : ∀ b, r.fp = some b → w'.heap[b]? = w.heap[b]?) : r.ok base w' := by
  cases r with
  | blk b o => exact (hb b rfl).trans h
  | gs E k v n cs =>
    refine ⟨h.1, ?_⟩
    rcases h.2 with hn | ⟨g, cap, cur, rfl, hbg, hg, rest⟩
    · exact .inl hn
    · exact .inr ⟨g, cap, cur, rfl, hbg, (hb g rfl).trans hg, rest⟩

theorem Res.base_le {base base' : Nat} {w : World} {r : Res} (h : r.ok base' w) (hb : base ≤ base') : r.ok base w := by
  cases r with
  | blk b o => exact h
  | gs E k v n cs =>
    refine ⟨h.1, ?_⟩
    rcases h.2 with hn | ⟨g, cap, cur, hv, hbg, rest⟩
    · exact .inl hn
    · exact .inr ⟨g, cap, cur, hv, Nat.le_trans hb hbg, rest⟩

/-- A step into a callee and back: the callee's state, seen from the caller. -/
theorem St.call {w0 w w' : World} {h0 h h' : Mem} {L L' : List Res} (s : St w0 h0 L h w) (c : St w h L' h' w') : St w0 h0 (L' ++ L) h' w' := by
  have hsz : w0.heap.size ≤ w.heap.size := s.below.size
  have hlt : ∀ r ∈ L, ∀ b, r.fp = some b → b < w.heap.size := fun r hr b hb => Res.fp_lt (s.ok r hr) hb
  refine ⟨s.below.trans (c.below.mono hsz), s.le.trans c.le, c.sub, fun b hb => (c.fresh b (by omega)).trans (s.fresh b hb), ?_, ?_, ?_⟩
  · intro r hr
    rcases List.mem_append.1 hr with hr | hr
    · exact Res.base_le (c.ok r hr) hsz
    · exact Res.kept (s.ok r hr) fun b hb => c.below.block b (hlt r hr b hb)
  · intro r hr b hb
    rcases List.mem_append.1 hr with hr | hr
    · have := c.own r hr b hb
      exact ⟨this.1, by omega⟩
    · have := s.own r hr b hb
      exact ⟨(c.fresh b (hlt r hr b hb)).trans this.1, this.2⟩
  · refine List.pairwise_append.2 ⟨c.apart, s.apart, fun r hr r' hr' b hb hb' => ?_⟩
    have h1 := (c.own r hr b hb).2
    have h2 := hlt r' hr' b hb'
    omega

/-- A new block of the call's own. -/
theorem St.alloc {w0 w : World} {h0 h : Mem} {L : List Res} (s : St w0 h0 L h w) (o : Obj) : St w0 h0 (.blk w.heap.size o :: L) h (w.alloc o) := by
  have hsz : w0.heap.size ≤ w.heap.size := s.below.size
  have hold : ∀ b, b < w.heap.size → (w.alloc o).heap[b]? = w.heap[b]? := fun b hb => heap_alloc_old w o hb
  have hlt : ∀ r ∈ L, ∀ b, r.fp = some b → b < w.heap.size := fun r hr b hb => Res.fp_lt (s.ok r hr) hb
  refine ⟨s.below.alloc hsz o, s.le, ?_, s.fresh, ?_, ?_, ?_⟩
  · intro b o' hb
    have := s.sub b o' hb
    unfold mem at *
    rw [hold b (Array.getElem?_eq_some_iff.1 this).1]
    exact this
  · intro r hr
    rcases List.mem_cons.1 hr with rfl | hr
    · exact heap_alloc_new w o
    · exact Res.kept (s.ok r hr) fun b hb => hold b (hlt r hr b hb)
  · intro r hr b hb
    rcases List.mem_cons.1 hr with rfl | hr
    · simp only [Res.fp, Option.some.injEq] at hb
      subst hb
      refine ⟨?_, hsz⟩
      cases hh : h w.heap.size with
      | none => rfl
      | some o' =>
        have := s.sub _ o' hh
        unfold mem at this
        exact absurd (Array.getElem?_eq_some_iff.1 this).1 (Nat.lt_irrefl _)
    · exact s.own r hr b hb
  · refine List.pairwise_cons.2 ⟨fun r hr b hb hb' => ?_, s.apart⟩
    simp only [Res.fp, Option.some.injEq] at hb
    have := hlt r hr b hb'
    omega

/-- The world changes in the block of one of the things that are owned, or in new blocks; that thing is then another one with the same block or a new one. -/
theorem St.grown {w0 w w' : World} {h0 h : Mem} {A B : List Res} {r r' : Res} (s : St w0 h0 (A ++ r :: B) h w) (hg : w.grownBy w' r.fp) (hok : r'.ok w0.heap.size w')
    (hfp : ∀ b, r'.fp = some b → r.fp = some b ∨ w.heap.size ≤ b) : St w0 h0 (A ++ r' :: B) h w' := by
  have hsz : w0.heap.size ≤ w.heap.size := s.below.size
  have hlt : ∀ x ∈ A ++ r :: B, ∀ b, x.fp = some b → b < w.heap.size := fun x hx b hb => Res.fp_lt (s.ok x hx) hb
  have hap := s.apart
  have hrm : r ∈ A ++ r :: B := by simp
  have hne : ∀ x, (x ∈ A ∨ x ∈ B) → ∀ b, x.fp = some b → r.fp ≠ some b := by
    intro x hx b hb hr
    rw [List.pairwise_append, List.pairwise_cons] at hap
    rcases hx with hx | hx
    · exact hap.2.2 x hx r (by simp) b hb hr
    · exact hap.2.1.1 x hx b hr hb
  have hkeep : ∀ x, (x ∈ A ∨ x ∈ B) → ∀ b, x.fp = some b → w'.heap[b]? = w.heap[b]? := by
    intro x hx b hb
    refine hg.block b (hlt x ?_ b hb) (fun e => hne x hx b hb e.symm)
    rcases hx with hx | hx <;> simp [hx]
  have hnone : ∀ b, w.heap.size ≤ b → h b = none := by
    intro b hb
    cases hh : h b with
    | none => rfl
    | some o =>
      have := s.sub b o hh
      unfold mem at this
      have := (Array.getElem?_eq_some_iff.1 this).1
      omega
  refine ⟨s.below.grown hg hsz (fun b hb => (s.own r hrm b hb).2), s.le, ?_, s.fresh, ?_, ?_, ?_⟩
  · intro b o hb
    have h1 := s.sub b o hb
    unfold mem at *
    refine (hg.block b (Array.getElem?_eq_some_iff.1 h1).1 (fun e => ?_)).trans h1
    have := (s.own r hrm b e.symm).1
    rw [this] at hb
    cases hb
  · intro x hx
    rcases List.mem_append.1 hx with hx | hx
    · exact Res.kept (s.ok x (by simp [hx])) (hkeep x (.inl hx))
    · rcases List.mem_cons.1 hx with rfl | hx
      · exact hok
      · exact Res.kept (s.ok x (by simp [hx])) (hkeep x (.inr hx))
  · intro x hx b hb
    rcases List.mem_append.1 hx with hx | hx
    · exact s.own x (by simp [hx]) b hb
    · rcases List.mem_cons.1 hx with rfl | hx
      · rcases hfp b hb with h1 | h1
        · exact s.own r hrm b h1
        · exact ⟨hnone b h1, by omega⟩
      · exact s.own x (by simp [hx]) b hb
  · have hx' : ∀ x, (x ∈ A ∨ x ∈ B) → ∀ b, x.fp = some b → r'.fp ≠ some b := by
      intro x hx b hb hr'
      rcases hfp b hr' with h1 | h1
      · exact hne x hx b hb h1
      · have := hlt x (by rcases hx with hx | hx <;> simp [hx]) b hb
        omega
    rw [List.pairwise_append, List.pairwise_cons] at hap ⊢
    refine ⟨hap.1, ⟨fun x hx b hb hb' => hx' x (.inr hx) b hb' hb, hap.2.1.2⟩, fun x hx y hy b hb => ?_⟩
    rcases List.mem_cons.1 hy with rfl | hy
    · exact hx' x (.inl hx) b hb
    · exact hap.2.2 x hx y (by simp [hy]) b hb

/-- Something is no longer owned. -/
theorem St.drop {w0 w : World} {h0 h : Mem} {A B : List Res} {r : Res} (s : St w0 h0 (A ++ r :: B) h w) : St w0 h0 (A ++ B) h w := by
  refine ⟨s.below, s.le, s.sub, s.fresh, fun x hx => s.ok x ?_, fun x hx => s.own x ?_, ?_⟩
  · rcases List.mem_append.1 hx with hx | hx <;> simp [hx]
  · rcases List.mem_append.1 hx with hx | hx <;> simp [hx]
  · have hap := s.apart
    rw [List.pairwise_append, List.pairwise_cons] at hap
    rw [List.pairwise_append]
    exact ⟨hap.1, hap.2.1.2, fun x hx y hy => hap.2.2 x hx y (by simp [hy])⟩

/-- Less is owned. -/
theorem St.sublist {w0 w : World} {h0 h : Mem} {L L' : List Res} (s : St w0 h0 L h w) (hl : L'.Sublist L) : St w0 h0 L' h w :=
  ⟨s.below, s.le, s.sub, s.fresh, fun r hr => s.ok r (hl.subset hr), fun r hr => s.own r (hl.subset hr), s.apart.sublist hl⟩

/-- A block that is owned becomes part of the ghost memory: nobody writes to it any more. -/
theorem St.freeze {w0 w : World} {h0 h : Mem} {A B : List Res} {b : Nat} {o : Obj} {r : Res} (s : St w0 h0 (A ++ r :: B) h w) (hr : r.fp = some b) (ho : w.heap[b]? = some o) :
    St w0 h0 (A ++ B) (fun i => if i = b then some o else h i) w ∧ MLe h (fun i => if i = b then some o else h i) := by
  have hrm : r ∈ A ++ r :: B := by simp
  have hb := s.own r hrm b hr
  have hle : MLe h (fun i => if i = b then some o else h i) := by
    intro i o' hi
    by_cases e : i = b
    · rw [e, hb.1] at hi; cases hi
    · simp [e, hi]
  have hap := s.apart
  have hne : ∀ x, x ∈ A ++ B → x.fp ≠ some b := by
    intro x hx hxb
    rw [List.pairwise_append, List.pairwise_cons] at hap
    rcases List.mem_append.1 hx with hx | hx
    · exact hap.2.2 x hx r (by simp) b hxb hr
    · exact hap.2.1.1 x hx b hr hxb
  have s' := s.drop
  refine ⟨⟨s'.below, s'.le.trans hle, ?_, ?_, s'.ok, ?_, s'.apart⟩, hle⟩
  · intro i o' hi
    by_cases e : i = b
    · simp only [e, if_true, Option.some.injEq] at hi
      subst hi
      rw [e]; exact ho
    · simp only [e, if_false] at hi
      exact s.sub i o' hi
  · intro i hi
    have : i ≠ b := by omega
    simp only [this, if_false]
    exact s.fresh i hi
  · intro x hx i hi
    have h1 := s'.own x hx i hi
    have : i ≠ b := fun e => hne x hx (e ▸ hi)
    simp only [this, if_false]
    exact h1

/-- What a call hands back: a value of which R holds, in a state without anything of its own. -/
def Ret (w0 : World) (h0 : Mem) (R : Mem → Value → Prop) : Ending → World → Prop := fun e w => ∃ v h, e = .returned v ∧ R h v ∧ St w0 h0 [] h w

/-- The same with own memory, which is handed over. -/
def RetOwn (w0 : World) (h0 : Mem) (R : Mem → Value → List Res → Prop) : Ending → World → Prop := fun e w => ∃ v h L, e = .returned v ∧ R h v L ∧ St w0 h0 L h w

/-! ### Frames -/

/-- What is known of a frame: 'e' lists values of temporaries (the first entry of each counts). -/
structure Env (n : Nat) (e : List (Nat × Value)) (a : Act) : Prop where
  defers : a.defers = []
  size : a.tmps.size = n
  get : ∀ t v, e.lookup t = some v → a.tmps[t]? = some v

def evalO (e : List (Nat × Value)) : Operand → Option Value
  | .tmp t => e.lookup t
  | .const v => some v
  | .global g => some (.pointer (some ⟨g, 0, none⟩))
  | .func f => some (.func (.func f) #[] #[])

theorem Env.eval {n : Nat} {e : List (Nat × Value)} {a : Act} (E : Env n e a) {x : Operand} {v : Value} (h : evalO e x = some v) : a.eval x = v := by
  cases x with
  | tmp t =>
    have := E.get t v h
    simp only [Act.eval, Array.getD_eq_getD_getElem?, this, Option.getD_some]
  | const u => exact Option.some.inj h
  | global g => exact Option.some.inj h
  | func f => exact Option.some.inj h

theorem Env.put {n : Nat} {e : List (Nat × Value)} {a : Act} (E : Env n e a) {d : Nat} {v : Value} (hd : d < n) : Env n ((d, v) :: e) (a.put (some d) v) := by
  refine ⟨E.defers, by simp [Act.put, E.size], fun t u h => ?_⟩
  simp only [List.lookup_cons] at h
  by_cases ht : t = d
  · subst ht
    simp at h
    subst h
    simp [Act.put, E.size, hd]
  · have : (t == d) = false := by simpa using ht
    rw [this] at h
    simp only [Act.put]
    rw [Array.getElem?_setIfInBounds_ne (Ne.symm ht)]
    exact E.get t u h

/-- The entries of the first list are known by the second one. -/
@[reducible] def Sub : List (Nat × Value) → List (Nat × Value) → Prop
  | [], _ => True
  | (t, v) :: r, e => e.lookup t = some v ∧ Sub r e

theorem Sub.lookup {e : List (Nat × Value)} : ∀ {e' : List (Nat × Value)}, Sub e' e → ∀ t v, e'.lookup t = some v → e.lookup t = some v
  | [], _, t, v, h => by simp at h
  | (k, u) :: r, hs, t, v, h => by
    simp only [List.lookup_cons] at h
    by_cases ht : t = k
    · subst ht
      simp at h
      subst h
      exact hs.1
    · have : (t == k) = false := by simpa using ht
      rw [this] at h
      exact Sub.lookup hs.2 t v h

theorem Env.sub {n : Nat} {e e' : List (Nat × Value)} {a : Act} (E : Env n e a) (h : Sub e' e) : Env n e' a := ⟨E.defers, E.size, fun t v ht => E.get t v (h.lookup t v ht)⟩

/-- Values of several operands. -/
@[reducible] def Evals (e : List (Nat × Value)) : List Operand → List Value → Prop
  | [], [] => True
  | x :: xs, v :: vs => evalO e x = some v ∧ Evals e xs vs
  | _, _ => False

theorem Env.evals {n : Nat} {e : List (Nat × Value)} {a : Act} (E : Env n e a) : ∀ {xs : List Operand} {vs : List Value}, Evals e xs vs → xs.map a.eval = vs
  | [], [], _ => rfl
  | x :: xs, v :: vs, h => by rw [List.map_cons, E.eval h.1, E.evals h.2]
  | [], _ :: _, h => h.elim
  | _ :: _, [], h => h.elim

/-! ### Goals -/

section goals
variable (P : Program) (n : Nat) (w0 : World) (h0 : Mem)

/-- The rest of a region. -/
def GL (ops : Array Oper) (Q : Exit → Act → World → Prop) (l : List Oper) (e : List (Nat × Value)) (L : List Res) (h : Mem) : Prop :=
  ∀ a w, Env n e a → St w0 h0 L h w → wpList P ops Q l a w

/-- A piece of code. -/
def GC (c : Code) (Q : Exit → Act → World → Prop) (e : List (Nat × Value)) (L : List Res) (h : Mem) : Prop :=
  ∀ a w, Env n e a → St w0 h0 L h w → c.wp P Q a w

/-- What stands behind an exit. -/
def GQ (Q : Exit → Act → World → Prop) (x : Exit) (e : List (Nat × Value)) (L : List Res) (h : Mem) : Prop :=
  ∀ a w, Env n e a → St w0 h0 L h w → Q x a w

/-- An operation yields a value and leaves the world as it is. -/
def OpV (o : Oper) (e : List (Nat × Value)) (L : List Res) (h : Mem) (v : Value) : Prop :=
  ∀ a w, Env n e a → St w0 h0 L h w → (execOp a.eval o).run P w = .ok (.value v) w

/-- An operation changes something that is owned, and nothing else. -/
def Upd (o : Oper) (e : List (Nat × Value)) (A : List Res) (r : Res) (B : List Res) (h : Mem) (r' : Res) : Prop :=
  ∀ a w, Env n e a → St w0 h0 (A ++ r :: B) h w → ∃ w', (execOp a.eval o).run P w = .ok .skip w' ∧ w.grownBy w' r.fp ∧ r'.ok w0.heap.size w'
end goals

section rules
variable {P : Program} {n : Nat} {w0 : World} {h0 : Mem} {e : List (Nat × Value)} {L : List Res} {h : Mem} {Q : Exit → Act → World → Prop}

/-- A call's proof begins. -/
theorem calls_begin {f : FuncId} {fn : Func} {c : Code} {vs : List Value} {R : Ending → World → Prop} {w0 : World} (hf : P.funcs[f]? = some fn) (hb : fn.body = some c) (hn : fn.ntmps = n) (hl : vs.length ≤ n)
    (hs : MLe h0 (mem w0)) (he : Sub e (vs.zipIdx.map fun p => (p.2, p.1))) (k : GC P n w0 h0 c (bodyPost P fn R) e [] h0) : Calls P f vs.toArray w0 R := by
  refine calls_of_wp hf hb (k _ _ ?_ (St.begin hs))
  subst hn
  refine Env.sub ⟨rfl, by simp; omega, ?_⟩ he
  intro t v ht
  have key : ∀ (l : List Value) (k t : Nat), ((l.zipIdx k).map fun p => (p.2, p.1)).lookup t = some v → k ≤ t ∧ l[t - k]? = some v := by
    intro l
    induction l with
    | nil => intro k t h; simp at h
    | cons x l ih =>
      intro k t h
      simp only [List.zipIdx_cons, List.map_cons, List.lookup_cons] at h
      by_cases hk : t = k
      · subst hk
        simp at h
        exact ⟨Nat.le_refl _, by simp [h]⟩
      · have : (t == k) = false := by simpa using hk
        rw [this] at h
        have := ih (k + 1) t h
        refine ⟨by omega, ?_⟩
        have e1 : t - k = (t - (k + 1)) + 1 := by omega
        rw [e1, List.getElem?_cons_succ]
        exact this.2
  have := (key vs 0 t ht).2
  simp only [Nat.sub_zero] at this
  simp only [List.size_toArray]
  rw [Array.getElem?_append_left (by simpa using (List.getElem?_eq_some_iff.1 this).1)]
  simpa using this

/-- The same from a state in which something is owned already. -/
theorem calls_begin_st {f : FuncId} {fn : Func} {c : Code} {vs : List Value} {R : Ending → World → Prop} {w0 w : World} {L : List Res} {h : Mem} (hf : P.funcs[f]? = some fn) (hb : fn.body = some c) (hn : fn.ntmps = n) (hl : vs.length ≤ n)
    (S : St w0 h0 L h w) (he : Sub e (vs.zipIdx.map fun p => (p.2, p.1))) (k : GC P n w0 h0 c (bodyPost P fn R) e L h) : Calls P f vs.toArray w R := by
  refine calls_of_wp hf hb (k _ _ ?_ S)
  subst hn
  refine Env.sub ⟨rfl, by simp; omega, ?_⟩ he
  intro t v ht
  have key : ∀ (l : List Value) (k t : Nat), ((l.zipIdx k).map fun p => (p.2, p.1)).lookup t = some v → k ≤ t ∧ l[t - k]? = some v := by
    intro l
    induction l with
    | nil => intro k t h; simp at h
    | cons x l ih =>
      intro k t h
      simp only [List.zipIdx_cons, List.map_cons, List.lookup_cons] at h
      by_cases hk : t = k
      · subst hk
        simp at h
        exact ⟨Nat.le_refl _, by simp [h]⟩
      · have : (t == k) = false := by simpa using hk
        rw [this] at h
        have := ih (k + 1) t h
        refine ⟨by omega, ?_⟩
        have e1 : t - k = (t - (k + 1)) + 1 := by omega
        rw [e1, List.getElem?_cons_succ]
        exact this.2
  have := (key vs 0 t ht).2
  simp only [Nat.sub_zero] at this
  simp only [List.size_toArray]
  rw [Array.getElem?_append_left (by simpa using (List.getElem?_eq_some_iff.1 this).1)]
  simpa using this

/-! Code -/

theorem gc_seq {x y : Code} (k : GC P n w0 h0 x (Exit.then (y.wp P Q) Q) e L h) : GC P n w0 h0 (.seq x y) Q e L h :=
  fun a w E S => wp_seq (k a w E S)

theorem gc_skip (k : GQ n w0 h0 Q .normal e L h) : GC P n w0 h0 .skip Q e L h := fun a w E S => wp_skip (k a w E S)
theorem gc_ret (k : GQ n w0 h0 Q .ret e L h) : GC P n w0 h0 .ret Q e L h := fun a w E S => wp_ret (k a w E S)
theorem gc_exit {i : Nat} (k : GQ n w0 h0 Q (.exit i) e L h) : GC P n w0 h0 (.exit i) Q e L h := fun a w E S => wp_exit (k a w E S)
theorem gc_block {i : Nat} {c : Code} (k : GC P n w0 h0 c (Exit.inBlock i Q) e L h) : GC P n w0 h0 (.block i c) Q e L h := fun a w E S => wp_block (k a w E S)
theorem gc_region {i : Nat} {l : List Oper} (k : GL P n w0 h0 l.toArray Q l e L h) : GC P n w0 h0 (.region i l.toArray false) Q e L h := fun a w E S => wp_region_lit (k a w E S)
theorem gl_nil {ops : Array Oper} (k : GQ n w0 h0 Q .normal e L h) : GL P n w0 h0 ops Q [] e L h := fun a w E S => wpList_nil (k a w E S)

theorem gq_then {y : Code} (k : GC P n w0 h0 y Q e L h) : GQ n w0 h0 (Exit.then (y.wp P Q) Q) .normal e L h := k
theorem gq_in {i : Nat} (k : GQ n w0 h0 Q .normal e L h) : GQ n w0 h0 (Exit.inBlock i Q) .normal e L h := k
theorem gx_then {N : Act → World → Prop} {i : Nat} (k : GQ n w0 h0 Q (.exit i) e L h) : GQ n w0 h0 (Exit.then N Q) (.exit i) e L h := k
theorem gx_here {i : Nat} (k : GQ n w0 h0 Q .normal e L h) : GQ n w0 h0 (Exit.inBlock i Q) (.exit i) e L h := by
  intro a w E S
  simp only [Exit.inBlock, if_true]
  exact k a w E S
theorem gx_past {i j : Nat} (hij : (j == i) = false) (k : GQ n w0 h0 Q (.exit j) e L h) : GQ n w0 h0 (Exit.inBlock i Q) (.exit j) e L h := by
  intro a w E S
  have : j ≠ i := by simpa using hij
  simp only [Exit.inBlock, this, if_false]
  exact k a w E S
theorem gr_then {N : Act → World → Prop} (k : GQ n w0 h0 Q .ret e L h) : GQ n w0 h0 (Exit.then N Q) .ret e L h := k
theorem gr_in {i : Nat} (k : GQ n w0 h0 Q .ret e L h) : GQ n w0 h0 (Exit.inBlock i Q) .ret e L h := k

/-- Less is known of the frame. -/
theorem gq_keep {x : Exit} {e' : List (Nat × Value)} (hs : Sub e' e) (k : GQ n w0 h0 Q x e' L h) : GQ n w0 h0 Q x e L h := fun a w E S => k a w (E.sub hs) S
theorem gl_keep {ops : Array Oper} {l : List Oper} {e' : List (Nat × Value)} (hs : Sub e' e) (k : GL P n w0 h0 ops Q l e' L h) : GL P n w0 h0 ops Q l e L h := fun a w E S => k a w (E.sub hs) S
theorem gc_keep {c : Code} {e' : List (Nat × Value)} (hs : Sub e' e) (k : GC P n w0 h0 c Q e' L h) : GC P n w0 h0 c Q e L h := fun a w E S => k a w (E.sub hs) S

/-- Less is owned. -/
theorem gq_drop {x : Exit} {A B : List Res} {r : Res} (k : GQ n w0 h0 Q x e (A ++ B) h) : GQ n w0 h0 Q x e (A ++ r :: B) h := fun a w E S => k a w E S.drop
theorem gl_drop {ops : Array Oper} {l : List Oper} {A B : List Res} {r : Res} (k : GL P n w0 h0 ops Q l e (A ++ B) h) : GL P n w0 h0 ops Q l e (A ++ r :: B) h := fun a w E S => k a w E S.drop

/-- A truth value of a proposition. -/
noncomputable def vB (p : Prop) : Value := .bool (@decide p (Classical.propDecidable p))

theorem vB_dec {p : Prop} [Decidable p] : Value.bool (decide p) = vB p := by
  unfold vB; congr 1
  exact decide_eq_decide.2 Iff.rfl
theorem vB_iff {p q : Prop} (hpq : p ↔ q) : vB p = vB q := by rw [propext hpq]
theorem vB_bool (b : Bool) : Value.bool b = vB (b = true) := by
  unfold vB; cases b <;> simp
theorem vB_true {p : Prop} (hp : p) : vB p = .bool true := by unfold vB; simp [hp]
theorem vB_false {p : Prop} (hp : ¬ p) : vB p = .bool false := by unfold vB; simp [hp]

theorem vB_and_t {p q : Prop} (hp : p) : vB q = vB (p ∧ q) := vB_iff ⟨fun h => ⟨hp, h⟩, fun h => h.2⟩
theorem vB_and_f {p q : Prop} (hp : ¬ p) : Value.bool false = vB (p ∧ q) := (vB_false fun h => hp h.1).symm
theorem vB_or_t {p q : Prop} (hp : p) : Value.bool true = vB (p ∨ q) := (vB_true (.inl hp)).symm
theorem vB_or_f {p q : Prop} (hp : ¬ p) : vB q = vB (p ∨ q) := vB_iff ⟨.inr, fun h => h.resolve_left hp⟩

theorem gc_cond {c : Operand} {x y : Code} {p : Prop} (hc : evalO e c = some (vB p)) (kt : p → GC P n w0 h0 x Q e L h) (kf : ¬ p → GC P n w0 h0 y Q e L h) : GC P n w0 h0 (.cond c x y) Q e L h := by
  intro a w E S
  by_cases hp : p
  · exact wp_cond_true (by rw [E.eval hc, vB_true hp]) (kt hp a w E S)
  · exact wp_cond_false (by rw [E.eval hc, vB_false hp]) (kf hp a w E S)
theorem gc_cond_t {c : Operand} {x y : Code} (hc : evalO e c = some (.bool true)) (k : GC P n w0 h0 x Q e L h) : GC P n w0 h0 (.cond c x y) Q e L h :=
  fun a w E S => wp_cond_true (E.eval hc) (k a w E S)
theorem gc_cond_f {c : Operand} {x y : Code} (hc : evalO e c = some (.bool false)) (k : GC P n w0 h0 y Q e L h) : GC P n w0 h0 (.cond c x y) Q e L h :=
  fun a w E S => wp_cond_false (E.eval hc) (k a w E S)

/-- A piece of code, then the next one, with a state between them that is stated. -/
theorem gc_cut {ι : Type} {x y : Code} (inv : ι → Prop) (ev : ι → List (Nat × Value)) (Lv : ι → List Res) (hv : ι → Mem)
    (kx : GC P n w0 h0 x (Exit.then (fun a w => ∃ i, inv i ∧ Env n (ev i) a ∧ St w0 h0 (Lv i) (hv i) w) Q) e L h)
    (ky : ∀ i, inv i → GC P n w0 h0 y Q (ev i) (Lv i) (hv i)) : GC P n w0 h0 (.seq x y) Q e L h := by
  intro a w E S
  refine wp_seq (wp_mono (kx a w E S) ?_)
  intro x a w hq
  cases x with
  | normal => obtain ⟨i, hi, E, S⟩ := hq; exact ky i hi a w E S
  | _ => exact hq

/-- The end of the first piece of a cut. -/
theorem gq_cut {ι : Type} {inv : ι → Prop} {ev : ι → List (Nat × Value)} {Lv : ι → List Res} {hv : ι → Mem} (i : ι) (hi : inv i) (he : Sub (ev i) e) (hL : Lv i = L) (hh : hv i = h) :
    GQ n w0 h0 (Exit.then (fun a w => ∃ i, inv i ∧ Env n (ev i) a ∧ St w0 h0 (Lv i) (hv i) w) Q) .normal e L h :=
  fun a w E S => ⟨i, hi, E.sub he, by rw [hL, hh]; exact S⟩

/-- A loop: a family of states, with a measure that every round lowers. -/
theorem gc_loop {ι : Type} {c : Code} (inv : ι → Prop) (ev : ι → List (Nat × Value)) (Lv : ι → List Res) (hv : ι → Mem) (μ : ι → Nat) (i0 : ι) (hi0 : inv i0) (he : Sub (ev i0) e) (hL : Lv i0 = L) (hh : hv i0 = h)
    (round : ∀ i, inv i → GC P n w0 h0 c (Exit.then (fun a w => ∃ j, (inv j ∧ μ j < μ i) ∧ Env n (ev j) a ∧ St w0 h0 (Lv j) (hv j) w) Q) (ev i) (Lv i) (hv i)) : GC P n w0 h0 (.loop c) Q e L h := by
  have key : ∀ m i, μ i = m → inv i → ∀ a w, Env n (ev i) a → St w0 h0 (Lv i) (hv i) w → ∀ (b : Frame) (k : List Item) (cs : List Frame),
      ∃ x a' w', Q x a' w' ∧ Arrives P (lone (b.at a (.code c :: .inLoop c :: k)) cs w) b k cs x a' w' := by
    intro m
    induction m using Nat.strongRecOn with
    | _ m ih =>
      intro i hm hi a w E S b k cs
      obtain ⟨x, a1, w1, hq, harr⟩ := round i hi a w E S b (.inLoop c :: k) cs
      cases x with
      | normal =>
        obtain ⟨j, ⟨hj, hlt⟩, E1, S1⟩ := hq
        obtain ⟨x2, a2, w2, hq2, harr2⟩ := ih (μ j) (hm ▸ hlt) j rfl hj a1 w1 E1 S1 b k cs
        exact ⟨x2, a2, w2, hq2, .of_steps (Steps.trans harr (.one step_inLoop)) harr2⟩
      | exit id => exact ⟨_, a1, w1, hq, .pass (x := .inLoop c) rfl (fun _ _ => .inl (by simp)) harr⟩
      | goto l => exact ⟨_, a1, w1, hq, .pass (x := .inLoop c) rfl (fun _ _ => .inl (by simp)) harr⟩
      | ret => exact ⟨_, a1, w1, hq, .pass (x := .inLoop c) rfl (fun _ _ => .inl (by simp)) harr⟩
      | panic ch => exact ⟨_, a1, w1, hq, .pass (x := .inLoop c) rfl (fun _ _ => .inl (by simp)) harr⟩
      | outgrown => exact ⟨_, a1, w1, hq, .pass (x := .inLoop c) rfl (fun _ _ => .inl (by simp)) harr⟩
  intro a w E S b k cs
  obtain ⟨x, a', w', hq, harr⟩ := key _ i0 rfl hi0 a w (E.sub he) (by rw [hL, hh]; exact S) b k cs
  exact ⟨x, a', w', hq, .of_steps (.one step_loop) harr⟩

/-- The end of a round. -/
theorem gq_round {ι : Type} {inv : ι → Prop} {ev : ι → List (Nat × Value)} {Lv : ι → List Res} {hv : ι → Mem} {μ : ι → Nat} {m : Nat} (i : ι) (hi : inv i) (hm : μ i < m) (he : Sub (ev i) e) (hL : Lv i = L) (hh : hv i = h) :
    GQ n w0 h0 (Exit.then (fun a w => ∃ j, (inv j ∧ μ j < m) ∧ Env n (ev j) a ∧ St w0 h0 (Lv j) (hv j) w) Q) .normal e L h :=
  fun a w E S => ⟨i, ⟨hi, hm⟩, E.sub he, by rw [hL, hh]; exact S⟩

/-! The end of a function -/

theorem gq_body1 {fn : Func} {t : Nat} {v : Value} {R : Mem → Value → Prop} (hr : fn.results = #[.tmp t]) (hv : evalO e (.tmp t) = some v) (hR : R h v) : GQ n w0 h0 (bodyPost P fn (Ret w0 h0 R)) .ret e L h := by
  intro a w E S
  refine bodyPost_ret (results_tmp hr _ _ _) E.defers ?_
  have := E.eval hv
  simp only [Act.eval] at this
  rw [this]
  exact ⟨v, h, rfl, hR, S.sublist (List.nil_sublist _)⟩

theorem gq_body1_own {fn : Func} {t : Nat} {v : Value} {R : Mem → Value → List Res → Prop} (hr : fn.results = #[.tmp t]) (hv : evalO e (.tmp t) = some v) (hR : R h v L) : GQ n w0 h0 (bodyPost P fn (RetOwn w0 h0 R)) .ret e L h := by
  intro a w E S
  refine bodyPost_ret (results_tmp hr _ _ _) E.defers ?_
  have := E.eval hv
  simp only [Act.eval] at this
  rw [this]
  exact ⟨v, h, L, rfl, hR, S⟩

theorem gq_body2 {fn : Func} {t u : Nat} {v x : Value} {R : Mem → Value → Prop} (hr : fn.results = #[.tmp t, .tmp u]) (hv : evalO e (.tmp t) = some v) (hx : evalO e (.tmp u) = some x) (hR : R h (.tuple #[v, x])) :
    GQ n w0 h0 (bodyPost P fn (Ret w0 h0 R)) .ret e L h := by
  intro a w E S
  refine bodyPost_ret (results_tmp2 hr _ _ _) E.defers ?_
  have h1 := E.eval hv
  have h2 := E.eval hx
  simp only [Act.eval] at h1 h2
  rw [h1, h2]
  exact ⟨_, h, rfl, hR, S.sublist (List.nil_sublist _)⟩

theorem gq_body3 {fn : Func} {t u s : Nat} {v x y : Value} {R : Mem → Value → Prop} (hr : fn.results = #[.tmp t, .tmp u, .tmp s]) (hv : evalO e (.tmp t) = some v) (hx : evalO e (.tmp u) = some x) (hy : evalO e (.tmp s) = some y)
    (hR : R h (.tuple #[v, x, y])) : GQ n w0 h0 (bodyPost P fn (Ret w0 h0 R)) .ret e L h := by
  intro a w E S
  have h1 := E.eval hv
  have h2 := E.eval hx
  have h3 := E.eval hy
  simp only [Act.eval] at h1 h2 h3
  refine bodyPost_ret (v := .tuple #[v, x, y]) ?_ E.defers ⟨_, h, rfl, hR, S.sublist (List.nil_sublist _)⟩
  simp only [Array.getD_eq_getD_getElem?] at h1 h2 h3
  simp [results, hr, h1, h2, h3]

/-- A function without results comes to its end. -/
theorem gq_body0_own {fn : Func} {R : Mem → Value → List Res → Prop} (hr : fn.results = #[]) (hR : R h (.tuple #[]) L) : GQ n w0 h0 (bodyPost P fn (RetOwn w0 h0 R)) .normal e L h := by
  intro a w E S
  refine bodyPost_end (results_none hr _ _ _) E.defers ?_
  exact ⟨_, h, L, rfl, hR, S⟩
theorem gq_body0r_own {fn : Func} {R : Mem → Value → List Res → Prop} (hr : fn.results = #[]) (hR : R h (.tuple #[]) L) : GQ n w0 h0 (bodyPost P fn (RetOwn w0 h0 R)) .ret e L h := by
  intro a w E S
  refine bodyPost_ret (results_none hr _ _ _) E.defers ?_
  exact ⟨_, h, L, rfl, hR, S⟩

/-! Operations -/

/-- An operation that yields a value and leaves the world alone. -/
theorem gl_val {ops : Array Oper} {rest : List Oper} {o : Oper} {d : Nat} {v : Value} (hv : OpV P n w0 h0 o e L h v) (hg : o.guard = none) (hd : o.dst = some d) (hn : Nat.ble (d + 1) n = true)
    (k : GL P n w0 h0 ops Q rest ((d, v) :: e) L h) : GL P n w0 h0 ops Q (o :: rest) e L h := by
  intro a w E S
  refine wpList_plain hg fun K hK => ?_
  unfold Oper.wp
  rw [hv a w E S, Oper.upon_value, hd]
  exact hK _ _ (k _ _ (E.put (Nat.le_of_ble_eq_true hn)) S)

/-- A guarded operation whose guard is met. -/
theorem gl_on {ops : Array Oper} {rest : List Oper} {o : Oper} {g t : Nat} {b : Bool} (hg : o.guard = some (g, b)) (ht : (ops[g]?).bind (·.dst) = some t) (he : e.lookup t = some (.bool b))
    (k : GL P n w0 h0 ops Q ({ o with guard := none } :: rest) e L h) : GL P n w0 h0 ops Q (o :: rest) e L h := by
  intro a w E S
  have hk := k a w E S
  have hw : Region.wanted o (yielded ops a.tmps) = true := by
    have := E.get t _ he
    simp [Region.wanted, hg, yielded, ht, this]
  unfold wpList at hk ⊢
  rw [if_pos hw]
  rw [if_pos (by simp [Region.wanted])] at hk
  exact hk

/-- A guarded operation whose guard is not met. -/
theorem gl_off {ops : Array Oper} {rest : List Oper} {o : Oper} {g t d : Nat} {b c : Bool} (hg : o.guard = some (g, b)) (ht : (ops[g]?).bind (·.dst) = some t) (he : e.lookup t = some (.bool c)) (hbc : (c == b) = false)
    (hd : o.dst = some d) (hn : Nat.ble (d + 1) n = true) (k : GL P n w0 h0 ops Q rest ((d, undef) :: e) L h) : GL P n w0 h0 ops Q (o :: rest) e L h := by
  intro a w E S
  have hw : Region.wanted o (yielded ops a.tmps) = false := by
    have := E.get t _ he
    simp only [Region.wanted, hg, yielded, ht, this, Option.bind_some]
    simpa using hbc
  unfold wpList
  rw [if_neg (by simp [hw]), hd]
  exact k _ _ (E.put (Nat.le_of_ble_eq_true hn)) S

theorem OpV.tr {o : Oper} {p : Prop} (hp : p) (hv : OpV P n w0 h0 o e L h (vB p)) : OpV P n w0 h0 o e L h (.bool true) := vB_true hp ▸ hv
theorem OpV.fa {o : Oper} {p : Prop} (hp : ¬ p) (hv : OpV P n w0 h0 o e L h (vB p)) : OpV P n w0 h0 o e L h (.bool false) := vB_false hp ▸ hv

theorem gl_offu {ops : Array Oper} {rest : List Oper} {o : Oper} {g t d : Nat} {b : Bool} (hg : o.guard = some (g, b)) (ht : (ops[g]?).bind (·.dst) = some t) (he : e.lookup t = some undef)
    (hd : o.dst = some d) (hn : Nat.ble (d + 1) n = true) (k : GL P n w0 h0 ops Q rest ((d, undef) :: e) L h) : GL P n w0 h0 ops Q (o :: rest) e L h := by
  intro a w E S
  have hw : Region.wanted o (yielded ops a.tmps) = false := by
    have := E.get t _ he
    simp [Region.wanted, hg, yielded, ht, this, undef]
  unfold wpList
  rw [if_neg (by simp [hw]), hd]
  exact k _ _ (E.put (Nat.le_of_ble_eq_true hn)) S

/-- A piece of a region, then the next one, with a state between them that is stated. -/
theorem gl_cut {ops : Array Oper} {ι : Type} (j : Nat) {l : List Oper} (inv : ι → Prop) (ev : ι → List (Nat × Value)) (Lv : ι → List Res) (hv : ι → Mem)
    (kx : GL P n w0 h0 ops (Exit.then (fun a w => ∃ i, inv i ∧ Env n (ev i) a ∧ St w0 h0 (Lv i) (hv i) w) Q) (l.take j) e L h)
    (ky : ∀ i, inv i → GL P n w0 h0 ops Q (l.drop j) (ev i) (Lv i) (hv i)) : GL P n w0 h0 ops Q l e L h := by
  intro a w E S
  have key : ∀ (l1 : List Oper) a w, wpList P ops (Exit.then (fun a w => ∃ i, inv i ∧ Env n (ev i) a ∧ St w0 h0 (Lv i) (hv i) w) Q) l1 a w → wpList P ops Q (l1 ++ l.drop j) a w := by
    intro l1
    induction l1 with
    | nil => intro a w hq; obtain ⟨i, hi, E, S⟩ := hq; exact ky i hi a w E S
    | cons o l1 ih =>
      intro a w hq
      simp only [List.cons_append]
      unfold wpList at hq ⊢
      split
      · rename_i hw
        rw [if_pos hw] at hq
        refine hq.imp (fun hq => ?_) (fun hq => ⟨hq.1, ?_⟩)
        · unfold Oper.wp at *
          generalize (execOp a.eval o).run P w = r at *
          cases r with
          | ok x w' =>
            cases x <;> simp only [Oper.upon] at hq ⊢ <;>
              first
                | exact ih _ _ hq
                | exact Calls.mono hq (fun e w'' he => by cases e <;> first | exact ih _ _ he | exact he)
                | exact Rows.mono hq (fun _ _ he => ih _ _ he)
          | halt x w' => cases x <;> simp only [Oper.upon] at hq ⊢ <;> exact hq
        · obtain ⟨a, w, hq⟩ := hq.2; exact ⟨a, w, hq⟩
      · rename_i hw
        rw [if_neg hw] at hq
        exact ih _ _ hq
  have := key (l.take j) a w (kx a w E S)
  rwa [List.take_append_drop] at this

/-- The two ways at a test are walked apart. -/
theorem gl_cases {ops : Array Oper} {l : List Oper} (p : Prop) (kt : p → GL P n w0 h0 ops Q l e L h) (kf : ¬ p → GL P n w0 h0 ops Q l e L h) : GL P n w0 h0 ops Q l e L h := by
  by_cases hp : p
  · exact kt hp
  · exact kf hp

/-- The two ways at a test are walked apart. -/
theorem gc_cases {c : Code} (p : Prop) (kt : p → GC P n w0 h0 c Q e L h) (kf : ¬ p → GC P n w0 h0 c Q e L h) : GC P n w0 h0 c Q e L h := by
  by_cases hp : p
  · exact kt hp
  · exact kf hp

/-- A call of a function of the program, by its contract; nothing of the callee's own is handed over. -/
theorem gl_call {ops : Array Oper} {rest : List Oper} {o : Oper} {d f : Nat} {xs : List Operand} {ts : Array TypeId} {vs : List Value} {R : Mem → Value → Prop} (hop : o.op = .call { callee := .value (.func f), args := xs.toArray, argTypes := ts })
    (hg : o.guard = none) (hd : o.dst = some d) (hn : Nat.ble (d + 1) n = true) (hcall : ∀ args w, (callFunc f args).run P w = .ok (.enter f args) w) (hvs : Evals e xs vs)
    (hc : ∀ w, MLe h (mem w) → Calls P f vs.toArray w (Ret w h R)) (k : ∀ v h', MLe h h' → R h' v → GL P n w0 h0 ops Q rest ((d, v) :: e) L h') : GL P n w0 h0 ops Q (o :: rest) e L h := by
  intro a w E S
  refine wpList_plain hg fun K hK => ?_
  have hargs : xs.toArray.map a.eval = vs.toArray := by rw [List.map_toArray, E.evals hvs]
  have hr : (execOp a.eval o).run P w = .ok (.enter f vs.toArray) w := by
    obtain ⟨dst, op, ty, pos, after, guard⟩ := o
    simp only at hop
    subst hop
    simp only [execOp, resolve, Act.eval]
    simp [Deferred.ofValue, invoke, hcall, hargs]
  unfold Oper.wp
  rw [hr, Oper.upon_enter]
  refine (hc w S.sub).mono ?_
  rintro e' w' ⟨v, h', rfl, hR, S'⟩
  have S2 := S.call S'
  rw [hd]
  exact hK _ _ (k v h' S'.le hR _ _ (E.put (Nat.le_of_ble_eq_true hn)) S2)

/-- The same; what the callee hands over is owned from then on. -/
theorem gl_call_own {ops : Array Oper} {rest : List Oper} {o : Oper} {d f : Nat} {xs : List Operand} {ts : Array TypeId} {vs : List Value} {R : Mem → Value → List Res → Prop} (hop : o.op = .call { callee := .value (.func f), args := xs.toArray, argTypes := ts })
    (hg : o.guard = none) (hd : o.dst = some d) (hn : Nat.ble (d + 1) n = true) (hcall : ∀ args w, (callFunc f args).run P w = .ok (.enter f args) w) (hvs : Evals e xs vs)
    (hc : ∀ w, MLe h (mem w) → Calls P f vs.toArray w (RetOwn w h R)) (k : ∀ v h' L', MLe h h' → R h' v L' → GL P n w0 h0 ops Q rest ((d, v) :: e) (L' ++ L) h') : GL P n w0 h0 ops Q (o :: rest) e L h := by
  intro a w E S
  refine wpList_plain hg fun K hK => ?_
  have hargs : xs.toArray.map a.eval = vs.toArray := by rw [List.map_toArray, E.evals hvs]
  have hr : (execOp a.eval o).run P w = .ok (.enter f vs.toArray) w := by
    obtain ⟨dst, op, ty, pos, after, guard⟩ := o
    simp only at hop
    subst hop
    simp only [execOp, resolve, Act.eval]
    simp [Deferred.ofValue, invoke, hcall, hargs]
  unfold Oper.wp
  rw [hr, Oper.upon_enter]
  refine (hc w S.sub).mono ?_
  rintro e' w' ⟨v, h', L', rfl, hR, S'⟩
  have S2 := S.call S'
  rw [hd]
  exact hK _ _ (k v h' L' S'.le hR _ _ (E.put (Nat.le_of_ble_eq_true hn)) S2)

/-- A call of a function that only reads, on whatever memory: also on what is owned. -/
theorem gl_call_read {ops : Array Oper} {rest : List Oper} {o : Oper} {d f : Nat} {xs : List Operand} {ts : Array TypeId} {vs : List Value} {R : Mem → Value → Prop} (hop : o.op = .call { callee := .value (.func f), args := xs.toArray, argTypes := ts })
    (hg : o.guard = none) (hd : o.dst = some d) (hn : Nat.ble (d + 1) n = true) (hcall : ∀ args w, (callFunc f args).run P w = .ok (.enter f args) w) (hvs : Evals e xs vs)
    (hc : ∀ w, St w0 h0 L h w → Calls P f vs.toArray w (Ret w (mem w) R)) (k : ∀ v, (∃ h', R h' v) → GL P n w0 h0 ops Q rest ((d, v) :: e) L h) : GL P n w0 h0 ops Q (o :: rest) e L h := by
  intro a w E S
  refine wpList_plain hg fun K hK => ?_
  have hargs : xs.toArray.map a.eval = vs.toArray := by rw [List.map_toArray, E.evals hvs]
  have hr : (execOp a.eval o).run P w = .ok (.enter f vs.toArray) w := by
    obtain ⟨dst, op, ty, pos, after, guard⟩ := o
    simp only at hop
    subst hop
    simp only [execOp, resolve, Act.eval]
    simp [Deferred.ofValue, invoke, hcall, hargs]
  unfold Oper.wp
  rw [hr, Oper.upon_enter]
  refine (hc w S).mono ?_
  rintro e' w' ⟨v, h', rfl, hR, S'⟩
  have hlt : ∀ r ∈ L, ∀ b, r.fp = some b → b < w.heap.size := fun r hr b hb => Res.fp_lt (S.ok r hr) hb
  have S2 : St w0 h0 L h w' := ⟨S.below.trans (S'.below.mono S.below.size), S.le, (S.sub.trans S'.le).trans S'.sub, S.fresh, fun r hr => Res.kept (S.ok r hr) fun b hb => S'.below.block b (hlt r hr b hb), S.own, S.apart⟩
  rw [hd]
  exact hK _ _ (k v ⟨h', hR⟩ _ _ (E.put (Nat.le_of_ble_eq_true hn)) S2)

/-- A call of a function that changes what is owned, by a contract about the whole state. -/
theorem gl_call_mut {ops : Array Oper} {rest : List Oper} {o : Oper} {d f : Nat} {xs : List Operand} {ts : Array TypeId} {vs : List Value} {R : Mem → Value → List Res → Prop} (hop : o.op = .call { callee := .value (.func f), args := xs.toArray, argTypes := ts })
    (hg : o.guard = none) (hd : o.dst = some d) (hn : Nat.ble (d + 1) n = true) (hcall : ∀ args w, (callFunc f args).run P w = .ok (.enter f args) w) (hvs : Evals e xs vs)
    (hc : ∀ w, St w0 h0 L h w → Calls P f vs.toArray w (RetOwn w0 h0 R)) (k : ∀ v h' L', R h' v L' → GL P n w0 h0 ops Q rest ((d, v) :: e) L' h') : GL P n w0 h0 ops Q (o :: rest) e L h := by
  intro a w E S
  refine wpList_plain hg fun K hK => ?_
  have hargs : xs.toArray.map a.eval = vs.toArray := by rw [List.map_toArray, E.evals hvs]
  have hr : (execOp a.eval o).run P w = .ok (.enter f vs.toArray) w := by
    obtain ⟨dst, op, ty, pos, after, guard⟩ := o
    simp only at hop
    subst hop
    simp only [execOp, resolve, Act.eval]
    simp [Deferred.ofValue, invoke, hcall, hargs]
  unfold Oper.wp
  rw [hr, Oper.upon_enter]
  refine (hc w S).mono ?_
  rintro e' w' ⟨v, h', L', rfl, hR, S'⟩
  rw [hd]
  exact hK _ _ (k v h' L' hR _ _ (E.put (Nat.le_of_ble_eq_true hn)) S')

/-- A block is made. -/
theorem gl_new {ops : Array Oper} {rest : List Oper} {o : Oper} {d : Nat} {ob : Obj} (hv : ∀ a w, Env n e a → St w0 h0 L h w → (execOp a.eval o).run P w = .ok (.value (.pointer (some ⟨w.heap.size, 0, none⟩))) (w.alloc ob)) (hg : o.guard = none) (hd : o.dst = some d)
    (hn : Nat.ble (d + 1) n = true) (k : ∀ b, GL P n w0 h0 ops Q rest ((d, .pointer (some ⟨b, 0, none⟩)) :: e) (.blk b ob :: L) h) : GL P n w0 h0 ops Q (o :: rest) e L h := by
  intro a w E S
  refine wpList_plain hg fun K hK => ?_
  unfold Oper.wp
  rw [hv a w E S, Oper.upon_value, hd]
  exact hK _ _ (k _ _ _ (E.put (Nat.le_of_ble_eq_true hn)) (S.alloc ob))

/-- The world changes in something that is owned; nothing is yielded. -/
theorem gl_upd {ops : Array Oper} {rest : List Oper} {o : Oper} {A B : List Res} {r r' : Res} (hv : Upd P n w0 h0 o e A r B h r')
    (hfp : r'.fp = r.fp) (hg : o.guard = none) (hd : o.dst = none) (k : GL P n w0 h0 ops Q rest e (A ++ r' :: B) h) : GL P n w0 h0 ops Q (o :: rest) e (A ++ r :: B) h := by
  intro a w E S
  refine wpList_plain hg fun K hK => ?_
  obtain ⟨w', hr, hgr, hok⟩ := hv a w E S
  unfold Oper.wp
  rw [hr, Oper.upon_skip, hd]
  exact hK _ _ (k _ _ E (S.grown hgr hok fun b hb => .inl (hfp ▸ hb)))

end rules

/-- From a call that hands back true to what a law's frame asks. -/
theorem law_true {P : Program} {f : FuncId} {args : Array Value} {w : World} {h : Mem} (hc : Calls P f args w (Ret w h fun _ v => v = .bool true)) : Calls P f args w fun e w' => e = .returned (.bool true) ∧ Below w.heap.size w w' :=
  hc.mono fun _ _ ⟨_, _, he, hv, S⟩ => ⟨by rw [he, hv], S.below⟩

end Bk
