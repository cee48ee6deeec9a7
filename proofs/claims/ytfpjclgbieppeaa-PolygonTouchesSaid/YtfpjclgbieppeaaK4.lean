/- Texts that the proof needs, part 4. -/
import Derived.Test.YtfpjclgbieppeaaK3

namespace Bk
set_option linter.unusedVariables false
set_option linter.unusedSimpArgs false
open Go Go.RowKit
open Classical

theorem cells_one {v : Value} (h : v.oneCell' = true) : v.cells = #[v] := by cases v <;> simp [Value.oneCell'] at h <;> rfl

/-- How values of a type stand for things: n cells each; one value of many cells, or a single cell. -/
structure Rp (α : Type) where
  n : Nat
  agg : Bool
  R : Mem → List Value → α → Prop
  len : ∀ {h cs x}, R h cs x → cs.length = n
  mono : ∀ {h h' cs x}, MLe h h' → R h cs x → R h' cs x
  one : ∀ {h cs x}, R h cs x → cs.all (·.oneCell') = true
  cell : agg = false → n = 1

section
variable {α β γ δ : Type}

def Rp.val (ρ : Rp α) (cs : List Value) : Value := if ρ.agg then .agg cs.toArray else cs.headD undef
/-- The value stands for x. -/
def Rp.Is (ρ : Rp α) (h : Mem) (v : Value) (x : α) : Prop := ∃ cs, ρ.R h cs x ∧ v = ρ.val cs
theorem Rp.Is.mono {ρ : Rp α} {h h' : Mem} {v : Value} {x : α} (s : ρ.Is h v x) (hh : MLe h h') : ρ.Is h' v x := by
  obtain ⟨cs, r, e⟩ := s
  exact ⟨cs, ρ.mono hh r, e⟩
theorem Rp.single {ρ : Rp α} {h : Mem} {cs : List Value} {x : α} (r : ρ.R h cs x) (ha : ρ.agg = false) : ∃ c, cs = [c] ∧ c.oneCell' = true := by
  have h1 := ρ.len r
  have h2 := ρ.one r
  rw [ρ.cell ha] at h1
  match cs, h1 with
  | [c], _ => exact ⟨c, rfl, by simpa using h2⟩
theorem Rp.cells_val {ρ : Rp α} {h : Mem} {cs : List Value} {x : α} (r : ρ.R h cs x) : (ρ.val cs).cells = cs.toArray := by
  unfold Rp.val
  split
  · rfl
  · rename_i ha
    obtain ⟨c, rfl, hc⟩ := Rp.single r (by simpa using ha)
    exact cells_one hc
theorem Rp.Is.cells {ρ : Rp α} {h : Mem} {v : Value} {x : α} (s : ρ.Is h v x) : ∃ cs, ρ.R h cs x ∧ v.cells = cs.toArray := by
  obtain ⟨cs, r, rfl⟩ := s
  exact ⟨cs, r, Rp.cells_val r⟩
theorem Rp.Is.cast {ρ : Rp α} {h : Mem} {v : Value} {x y : α} (s : ρ.Is h v x) (e : x = y) : ρ.Is h v y := e ▸ s

/-! ### One after another -/

/-- The cells of the things of a list. -/
def RL (ρ : Rp α) (h : Mem) : List Value → List α → Prop
  | cs, [] => cs = []
  | cs, x :: xs => ∃ a b, cs = a ++ b ∧ ρ.R h a x ∧ RL ρ h b xs
theorem RL.len {ρ : Rp α} {h : Mem} : ∀ {xs : List α} {cs : List Value}, RL ρ h cs xs → cs.length = xs.length * ρ.n
  | [], _, r => by rw [r]; simp
  | x :: xs, _, ⟨a, b, e, r, s⟩ => by rw [e, List.length_append, ρ.len r, s.len, List.length_cons, Nat.add_mul]; omega
theorem RL.mono {ρ : Rp α} {h h' : Mem} (hh : MLe h h') : ∀ {xs : List α} {cs : List Value}, RL ρ h cs xs → RL ρ h' cs xs
  | [], _, r => r
  | _ :: _, _, ⟨a, b, e, r, s⟩ => ⟨a, b, e, ρ.mono hh r, s.mono hh⟩
theorem RL.one {ρ : Rp α} {h : Mem} : ∀ {xs : List α} {cs : List Value}, RL ρ h cs xs → cs.all (·.oneCell') = true
  | [], _, r => by rw [r]; rfl
  | _ :: _, _, ⟨a, b, e, r, s⟩ => by rw [e, List.all_append, ρ.one r, s.one]; rfl
theorem RL.append {ρ : Rp α} {h : Mem} : ∀ {xs ys : List α} {cs ds : List Value}, RL ρ h cs xs → RL ρ h ds ys → RL ρ h (cs ++ ds) (xs ++ ys)
  | [], _, _, _, r, s => by rw [r]; exact s
  | _ :: _, _, _, _, ⟨a, b, e, r, s⟩, t => ⟨a, _, by rw [e, List.append_assoc], r, s.append t⟩
theorem RL.of {ρ : Rp α} {h : Mem} {a : List Value} {x : α} (r : ρ.R h a x) : RL ρ h a [x] := ⟨a, [], by simp, r, rfl⟩
theorem RL.nil {ρ : Rp α} {h : Mem} : RL ρ h [] [] := rfl
theorem RL.drop {ρ : Rp α} {h : Mem} : ∀ {xs : List α} {cs : List Value} (i : Nat), RL ρ h cs xs → RL ρ h (cs.drop (i * ρ.n)) (xs.drop i)
  | _, _, 0, r => by simpa using r
  | [], _, i + 1, r => by rw [r]; simp [RL]
  | _ :: xs, _, i + 1, ⟨a, b, e, r, s⟩ => by
    rw [e, show (i + 1) * ρ.n = a.length + i * ρ.n by rw [ρ.len r, Nat.add_mul]; omega, ← List.drop_drop, List.drop_left]
    exact s.drop i
theorem RL.take {ρ : Rp α} {h : Mem} : ∀ {xs : List α} {cs : List Value} (i : Nat), RL ρ h cs xs → RL ρ h (cs.take (i * ρ.n)) (xs.take i)
  | _, _, 0, r => by simp [RL]
  | [], _, i + 1, r => by rw [r]; simp [RL]
  | _ :: xs, _, i + 1, ⟨a, b, e, r, s⟩ => by
    rw [e, show (i + 1) * ρ.n = a.length + i * ρ.n by rw [ρ.len r, Nat.add_mul]; omega, List.take_length_add_append]
    exact ⟨a, _, rfl, r, s.take i⟩
theorem RL.get {ρ : Rp α} {h : Mem} {xs : List α} {cs : List Value} {i : Nat} {x : α} (r : RL ρ h cs xs) (hx : xs[i]? = some x) : ρ.R h ((cs.drop (i * ρ.n)).take ρ.n) x := by
  have h1 := r.drop i
  obtain ⟨hi, e⟩ := List.getElem?_eq_some_iff.1 hx
  rw [List.drop_eq_getElem_cons hi, e] at h1
  obtain ⟨a, b, e1, ra, _⟩ := h1
  rw [e1, ← ρ.len ra, List.take_left]
  exact ra
theorem RL.set {ρ : Rp α} {h : Mem} {xs : List α} {cs ds : List Value} {i : Nat} {y : α} (r : RL ρ h cs xs) (hi : i < xs.length) (hd : ρ.R h ds y) : RL ρ h (cs.take (i * ρ.n) ++ ds ++ cs.drop (i * ρ.n + ρ.n)) (xs.set i y) := by
  have h1 := r.take i
  have h2 := r.drop (i + 1)
  rw [Nat.add_mul, Nat.one_mul] at h2
  rw [List.set_eq_take_append_cons_drop, if_pos hi, List.append_assoc]
  exact h1.append ⟨ds, _, rfl, hd, h2⟩

/-! ### Representations -/

/-- A rational number of at most k limbs. -/
def rpQ (k : Nat) : Rp Rat where
  n := 3
  agg := true
  R h cs q := (∃ vn vd, cs = [vB (q.num < 0), vn, vd] ∧ Us .u32 h vn (limbs q.num.natAbs) ∧ Us .u32 h vd (limbs (denN q.den))) ∧ lq q ≤ k
  len := by rintro h cs q ⟨⟨vn, vd, rfl, _⟩, _⟩; rfl
  mono := by
    rintro h h' cs q hh ⟨⟨vn, vd, rfl, h1, h2⟩, h3⟩
    exact ⟨⟨vn, vd, rfl, h1.mono hh, h2.mono hh⟩, h3⟩
  one := by
    rintro h cs q ⟨⟨vn, vd, rfl, h1, h2⟩, h3⟩
    exact ocr rfl (ocu h1 (ocu h2 oc0))
  cell := by simp
/-- An int. -/
def rpI : Rp Int where
  n := 1
  agg := false
  R _ cs z := cs = [vI z] ∧ -9223372036854775808 ≤ z ∧ z < 9223372036854775808
  len := by rintro h cs z ⟨rfl, _⟩; rfl
  mono := fun _ r => r
  one := by rintro h cs z ⟨rfl, _⟩; rfl
  cell := fun _ => rfl
/-- A truth value. -/
def rpB : Rp Prop where
  n := 1
  agg := false
  R _ cs p := cs = [vB p]
  len := by rintro h cs p rfl; rfl
  mono := fun _ r => r
  one := by rintro h cs p rfl; rfl
  cell := fun _ => rfl
/-- Two things. -/
def rpP (ρ : Rp α) (σ : Rp β) : Rp (α × β) where
  n := ρ.n + σ.n
  agg := true
  R h cs x := ∃ a b, cs = a ++ b ∧ ρ.R h a x.1 ∧ σ.R h b x.2
  len := by rintro h cs x ⟨a, b, rfl, h1, h2⟩; rw [List.length_append, ρ.len h1, σ.len h2]
  mono := by rintro h h' cs x hh ⟨a, b, rfl, h1, h2⟩; exact ⟨a, b, rfl, ρ.mono hh h1, σ.mono hh h2⟩
  one := by rintro h cs x ⟨a, b, rfl, h1, h2⟩; rw [List.all_append, ρ.one h1, σ.one h2]; rfl
  cell := by simp
/-- Three things alike. -/
@[ext] structure T3 (α : Type) where
  x : α
  y : α
  z : α
def T3.at (p : T3 α) : Nat → α
  | 0 => p.x
  | 1 => p.y
  | _ => p.z
def T3.set (p : T3 α) : Nat → α → T3 α
  | 0, a => ⟨a, p.y, p.z⟩
  | 1, a => ⟨p.x, a, p.z⟩
  | _, a => ⟨p.x, p.y, a⟩
def rpT (ρ : Rp α) : Rp (T3 α) where
  n := ρ.n + (ρ.n + ρ.n)
  agg := true
  R h cs p := (rpP ρ (rpP ρ ρ)).R h cs (p.x, p.y, p.z)
  len := fun r => (rpP ρ (rpP ρ ρ)).len r
  mono := fun hh r => (rpP ρ (rpP ρ ρ)).mono hh r
  one := fun r => (rpP ρ (rpP ρ ρ)).one r
  cell := by simp
/-- k things alike. -/
def rpA (k : Nat) (ρ : Rp α) : Rp (List α) where
  n := k * ρ.n
  agg := true
  R h cs xs := xs.length = k ∧ RL ρ h cs xs
  len := by rintro h cs xs ⟨rfl, r⟩; exact r.len
  mono := fun hh r => ⟨r.1, r.2.mono hh⟩
  one := fun r => r.2.one
  cell := by simp
/-- A slice that is only read. -/
def rpS (ρ : Rp α) : Rp (List α) where
  n := 1
  agg := false
  R h cs xs := ∃ v ds, cs = [v] ∧ Sl h ρ.n v xs.length ds ∧ RL ρ h ds xs
  len := by rintro h cs xs ⟨v, ds, rfl, _⟩; rfl
  mono := by rintro h h' cs xs hh ⟨v, ds, rfl, h1, h2⟩; exact ⟨v, ds, rfl, h1.mono hh, h2.mono hh⟩
  one := by
    rintro h cs xs ⟨v, ds, rfl, h1, h2⟩
    obtain ⟨a, cap, rfl⟩ := h1.one
    rfl
  cell := fun _ => rfl

theorem is_i {h : Mem} {z : Int} (h1 : -9223372036854775808 ≤ z) (h2 : z < 9223372036854775808) : rpI.Is h (vI z) z := ⟨_, ⟨rfl, h1, h2⟩, rfl⟩
theorem of_i {h : Mem} {v : Value} {z : Int} (s : rpI.Is h v z) : v = vI z ∧ -9223372036854775808 ≤ z ∧ z < 9223372036854775808 := by
  obtain ⟨cs, ⟨rfl, h1, h2⟩, rfl⟩ := s
  exact ⟨rfl, h1, h2⟩
theorem is_b {h : Mem} (p : Prop) : rpB.Is h (vB p) p := ⟨_, rfl, rfl⟩
theorem of_b {h : Mem} {v : Value} {p : Prop} (s : rpB.Is h v p) : v = vB p := by
  obtain ⟨cs, rfl, rfl⟩ := s
  rfl
theorem is_q {h : Mem} {v : Value} {q : Rat} {k : Nat} (s : IsRat h v q) (hk : lq q ≤ k) : (rpQ k).Is h v q := by
  obtain ⟨vn, vd, rfl, h1, h2⟩ := s
  exact ⟨_, ⟨⟨vn, vd, rfl, h1, h2⟩, hk⟩, rfl⟩
theorem of_q {h : Mem} {v : Value} {q : Rat} {k : Nat} (s : (rpQ k).Is h v q) : IsRat h v q ∧ lq q ≤ k := by
  obtain ⟨cs, ⟨⟨vn, vd, rfl, h1, h2⟩, hk⟩, rfl⟩ := s
  exact ⟨⟨vn, vd, rfl, h1, h2⟩, hk⟩
theorem open_q {h : Mem} {v : Value} {q : Rat} {k : Nat} (s : (rpQ k).Is h v q) : ∃ vn vd, v = .agg #[vB (q.num < 0), vn, vd] ∧ Us .u32 h vn (limbs q.num.natAbs) ∧ Us .u32 h vd (limbs (denN q.den)) ∧ lq q ≤ k := by
  obtain ⟨cs, ⟨⟨vn, vd, rfl, h1, h2⟩, hk⟩, rfl⟩ := s
  exact ⟨vn, vd, rfl, h1, h2, hk⟩
theorem is_s {ρ : Rp α} {h : Mem} {v : Value} {xs : List α} {ds : List Value} (s : Sl h ρ.n v xs.length ds) (r : RL ρ h ds xs) : (rpS ρ).Is h v xs := ⟨_, ⟨v, ds, rfl, s, r⟩, rfl⟩
theorem of_s {ρ : Rp α} {h : Mem} {v : Value} {xs : List α} (s : (rpS ρ).Is h v xs) : ∃ ds, Sl h ρ.n v xs.length ds ∧ RL ρ h ds xs := by
  obtain ⟨cs, ⟨v, ds, rfl, h1, h2⟩, rfl⟩ := s
  exact ⟨ds, h1, h2⟩
theorem is_nil {ρ : Rp α} (h : Mem) : (rpS ρ).Is h (.slice none 0 0) [] := is_s (Sl.nil h _) rfl
theorem s_lt {ρ : Rp α} {h : Mem} {v : Value} {xs : List α} (s : (rpS ρ).Is h v xs) : xs.length < 9223372036854775808 := by
  obtain ⟨ds, h1, _⟩ := of_s s
  exact h1.lt63
theorem s_one {ρ : Rp α} {h : Mem} {v : Value} {xs : List α} (s : (rpS ρ).Is h v xs) : ∃ a cap, v = .slice a xs.length cap := by
  obtain ⟨ds, h1, _⟩ := of_s s
  exact h1.one

/-! ### Wider bounds -/

/-- What stands for something in the first way does so in the second one. -/
structure Le (ρ σ : Rp α) : Prop where
  n : ρ.n = σ.n
  agg : ρ.agg = σ.agg
  R : ∀ {h cs x}, ρ.R h cs x → σ.R h cs x
theorem Le.refl (ρ : Rp α) : Le ρ ρ := ⟨rfl, rfl, id⟩
theorem Le.q {k l : Nat} (h : k ≤ l) : Le (rpQ k) (rpQ l) := ⟨rfl, rfl, fun ⟨a, b⟩ => ⟨a, Nat.le_trans b h⟩⟩
theorem Le.p {ρ ρ' : Rp α} {σ σ' : Rp β} (h : Le ρ ρ') (k : Le σ σ') : Le (rpP ρ σ) (rpP ρ' σ') := ⟨by show ρ.n + σ.n = ρ'.n + σ'.n; rw [h.n, k.n], rfl, fun ⟨a, b, e, r, s⟩ => ⟨a, b, e, h.R r, k.R s⟩⟩
theorem Le.t {ρ ρ' : Rp α} (h : Le ρ ρ') : Le (rpT ρ) (rpT ρ') := ⟨by show ρ.n + (ρ.n + ρ.n) = ρ'.n + (ρ'.n + ρ'.n); rw [h.n], rfl, fun r => (Le.p h (Le.p h h)).R r⟩
theorem Le.rl {ρ ρ' : Rp α} (h : Le ρ ρ') {m : Mem} : ∀ {xs : List α} {cs : List Value}, RL ρ m cs xs → RL ρ' m cs xs
  | [], _, r => r
  | _ :: _, _, ⟨a, b, e, r, s⟩ => ⟨a, b, e, h.R r, h.rl s⟩
theorem Le.a {k : Nat} {ρ ρ' : Rp α} (h : Le ρ ρ') : Le (rpA k ρ) (rpA k ρ') := ⟨by show k * ρ.n = k * ρ'.n; rw [h.n], rfl, fun r => ⟨r.1, h.rl r.2⟩⟩
theorem Le.s {ρ ρ' : Rp α} (h : Le ρ ρ') : Le (rpS ρ) (rpS ρ') := ⟨rfl, rfl, fun ⟨v, ds, e, s, r⟩ => ⟨v, ds, e, h.n ▸ s, h.rl r⟩⟩
theorem Rp.Is.le {ρ σ : Rp α} {h : Mem} {v : Value} {x : α} (s : ρ.Is h v x) (k : Le ρ σ) : σ.Is h v x := by
  obtain ⟨cs, r, rfl⟩ := s
  exact ⟨cs, k.R r, by unfold Rp.val; rw [k.agg]⟩

/-! ### Parts -/

/-- A part of what a representation stands for: where its cells are, how it is read, and how it is changed. -/
structure Pc (ρ : Rp α) (off : Nat) (σ : Rp β) (g : α → β) (s : α → β → α) : Prop where
  fits : off + σ.n ≤ ρ.n
  get : ∀ {h cs x}, ρ.R h cs x → σ.R h ((cs.drop off).take σ.n) (g x)
  set : ∀ {h cs x ds y}, ρ.R h cs x → σ.R h ds y → ρ.R h (cs.take off ++ ds ++ cs.drop (off + σ.n)) (s x y)

theorem Pc.here (ρ : Rp α) : Pc ρ 0 ρ (fun x => x) (fun _ y => y) := by
  refine ⟨by omega, fun r => ?_, fun {h cs x ds y} r s => ?_⟩
  · have := ρ.len r
    rw [List.drop_zero, ← this, List.take_length]; exact r
  · have := ρ.len r
    rw [Nat.zero_add, ← this, List.drop_length, List.take_zero, List.nil_append, List.append_nil]; exact s
theorem Pc.fst {ρ : Rp α} {σ : Rp β} {τ : Rp γ} {off : Nat} {g : α → γ} {s : α → γ → α} (p : Pc ρ off τ g s) : Pc (rpP ρ σ) off τ (fun x => g x.1) (fun x y => (s x.1 y, x.2)) := by
  have hf := p.fits
  refine ⟨by show off + τ.n ≤ ρ.n + σ.n; omega, ?_, ?_⟩
  · rintro h cs x ⟨a, b, rfl, ra, rb⟩
    have hl := ρ.len ra
    have := p.get ra
    rwa [List.drop_append_of_le_length (by omega), List.take_append_of_le_length (by rw [List.length_drop]; omega)]
  · rintro h cs x ds y ⟨a, b, rfl, ra, rb⟩ rd
    have hl := ρ.len ra
    refine ⟨_, b, ?_, p.set ra rd, rb⟩
    rw [List.take_append_of_le_length (by omega), List.drop_append_of_le_length (by omega)]
    simp [List.append_assoc]
theorem Pc.snd {ρ : Rp α} {σ : Rp β} {τ : Rp γ} {off : Nat} {g : β → γ} {s : β → γ → β} (p : Pc σ off τ g s) : Pc (rpP ρ σ) (ρ.n + off) τ (fun x => g x.2) (fun x y => (x.1, s x.2 y)) := by
  have hf := p.fits
  refine ⟨by show ρ.n + off + τ.n ≤ ρ.n + σ.n; omega, ?_, ?_⟩
  · rintro h cs x ⟨a, b, rfl, ra, rb⟩
    have hl := ρ.len ra
    have := p.get rb
    rwa [← hl, ← List.drop_drop, List.drop_left]
  · rintro h cs x ds y ⟨a, b, rfl, ra, rb⟩ rd
    have hl := ρ.len ra
    refine ⟨a, _, ?_, ra, p.set rb rd⟩
    rw [← hl, List.take_length_add_append, Nat.add_assoc, ← List.drop_drop, List.drop_left]
    simp [List.append_assoc]
theorem Pc.tx {ρ : Rp α} {τ : Rp γ} {off : Nat} {g : α → γ} {s : α → γ → α} (p : Pc ρ off τ g s) : Pc (rpT ρ) off τ (fun x => g x.x) (fun x y => ⟨s x.x y, x.y, x.z⟩) := by
  have q : Pc (rpP ρ (rpP ρ ρ)) off τ _ _ := p.fst
  exact ⟨q.fits, fun r => q.get r, fun r d => q.set r d⟩
theorem Pc.ty {ρ : Rp α} {τ : Rp γ} {off : Nat} {g : α → γ} {s : α → γ → α} (p : Pc ρ off τ g s) : Pc (rpT ρ) (ρ.n + off) τ (fun x => g x.y) (fun x y => ⟨x.x, s x.y y, x.z⟩) := by
  have q : Pc (rpP ρ (rpP ρ ρ)) (ρ.n + off) τ _ _ := (Pc.fst (σ := ρ) p).snd
  exact ⟨q.fits, fun r => q.get r, fun r d => q.set r d⟩
theorem Pc.tz {ρ : Rp α} {τ : Rp γ} {off : Nat} {g : α → γ} {s : α → γ → α} (p : Pc ρ off τ g s) : Pc (rpT ρ) (ρ.n + (ρ.n + off)) τ (fun x => g x.z) (fun x y => ⟨x.x, x.y, s x.z y⟩) := by
  have q : Pc (rpP ρ (rpP ρ ρ)) (ρ.n + (ρ.n + off)) τ _ _ := (Pc.snd (ρ := ρ) p).snd
  exact ⟨q.fits, fun r => q.get r, fun r d => q.set r d⟩
theorem Pc.ta {ρ : Rp α} {τ : Rp γ} {off : Nat} {g : α → γ} {s : α → γ → α} (p : Pc ρ off τ g s) (i : Nat) (hi : i < 3) : Pc (rpT ρ) (i * ρ.n + off) τ (fun x => g (x.at i)) (fun x y => x.set i (s (x.at i) y)) := by
  match i, hi with
  | 0, _ => rw [Nat.zero_mul, Nat.zero_add]; exact p.tx
  | 1, _ => rw [Nat.one_mul]; exact p.ty
  | 2, _ => rw [show 2 * ρ.n + off = ρ.n + (ρ.n + off) by omega]; exact p.tz
theorem Pc.arr {ρ : Rp α} {τ : Rp γ} {off k : Nat} {g : α → γ} {s : α → γ → α} (p : Pc ρ off τ g s) (d : α) (i : Nat) (hi : i < k) : Pc (rpA k ρ) (i * ρ.n + off) τ (fun x => g (x.getD i d)) (fun x y => x.set i (s (x.getD i d) y)) := by
  have hf := p.fits
  have hm : i * ρ.n + ρ.n ≤ k * ρ.n := by rw [← Nat.succ_mul]; exact Nat.mul_le_mul_right _ hi
  have hx : ∀ {x : List α}, x.length = k → x[i]? = some (x.getD i d) := by
    intro x hl
    rw [List.getD_eq_getElem?_getD, List.getElem?_eq_getElem (by omega)]; rfl
  refine ⟨by show i * ρ.n + off + τ.n ≤ k * ρ.n; omega, ?_, ?_⟩
  · rintro h cs x ⟨hl, r⟩
    have h1 := p.get (r.get (hx hl))
    rw [List.drop_take, List.take_take, Nat.min_eq_left (by omega), List.drop_drop] at h1
    exact h1
  · rintro h cs x ds y ⟨hl, r⟩ rd
    have hc := r.len
    rw [hl] at hc
    refine ⟨by simpa using hl, ?_⟩
    have h1 := r.set (i := i) (by omega) (p.set (r.get (hx hl)) rd)
    have e : cs.take (i * ρ.n) ++ (((cs.drop (i * ρ.n)).take ρ.n).take off ++ ds ++ ((cs.drop (i * ρ.n)).take ρ.n).drop (off + τ.n)) ++ cs.drop (i * ρ.n + ρ.n) = cs.take (i * ρ.n + off) ++ ds ++ cs.drop (i * ρ.n + off + τ.n) := by
      rw [List.take_take, Nat.min_eq_left (by omega), List.drop_take, List.drop_drop]
      have e1 : cs.take (i * ρ.n + off) = cs.take (i * ρ.n) ++ (cs.drop (i * ρ.n)).take off := List.take_add
      have e2 : cs.drop (i * ρ.n + off + τ.n) = (cs.drop (i * ρ.n + (off + τ.n))).take (ρ.n - (off + τ.n)) ++ cs.drop (i * ρ.n + ρ.n) := by
        have e3 := List.take_append_drop (ρ.n - (off + τ.n)) (cs.drop (i * ρ.n + (off + τ.n)))
        rw [List.drop_drop, show i * ρ.n + (off + τ.n) + (ρ.n - (off + τ.n)) = i * ρ.n + ρ.n by omega] at e3
        rw [Nat.add_assoc (i * ρ.n)]
        exact e3.symm
      rw [e1, e2]
      simp [List.append_assoc]
    rw [← e]
    exact h1

/-! ### Zeros -/
theorem zr_q {k : Nat} {h : Mem} (hk : 1 ≤ k) : (rpQ k).R h [.bool false, .slice none 0 0, .slice none 0 0] 0 := by
  refine ⟨⟨_, _, ?_, us_zero_num h, us_zero_den h⟩, by rw [lq_zero]; exact hk⟩
  rw [vB_false (show ¬ (0 : Rat).num < 0 by decide)]
theorem zr_i {h : Mem} : rpI.R h [.int .i64 0] 0 := ⟨rfl, by decide, by decide⟩
theorem zr_b {h : Mem} : rpB.R h [.bool false] False := by show _ = _; rw [vB_false (p := False) id]
theorem zr_p {ρ : Rp α} {σ : Rp β} {h : Mem} {a b : List Value} {x : α} {y : β} (r : ρ.R h a x) (s : σ.R h b y) : (rpP ρ σ).R h (a ++ b) (x, y) := ⟨a, b, rfl, r, s⟩
theorem zr_t {ρ : Rp α} {h : Mem} {a : List Value} {x : α} (r : ρ.R h a x) : (rpT ρ).R h (a ++ (a ++ a)) ⟨x, x, x⟩ := ⟨a, _, rfl, r, a, a, rfl, r, r⟩
theorem zr_s {ρ : Rp α} {h : Mem} : (rpS ρ).R h [.slice none 0 0] [] := ⟨_, [], rfl, Sl.nil h _, rfl⟩
theorem zr_a {ρ : Rp α} {h : Mem} {a : List Value} {x : α} (k : Nat) (r : ρ.R h a x) : (rpA k ρ).R h (List.replicate k a).flatten (List.replicate k x) := by
  refine ⟨List.length_replicate, ?_⟩
  induction k with
  | zero => rfl
  | succ k ih => rw [List.replicate_succ, List.replicate_succ]; exact ⟨a, _, rfl, r, ih⟩
end
end Bk

namespace Bk
set_option linter.unusedVariables false
set_option linter.unusedSimpArgs false
open Go Go.RowKit
open Classical

/-- A type's size, and whether its values are of many cells. -/
structure TyOk (P : Program) (t : TypeId) (n : Nat) (agg : Bool) : Prop where
  sz : ∀ w, (Go.sizeOf t).run P w = .ok n w
  ag : ∀ w, (isAgg t).run P w = .ok agg w

section
variable {α β γ : Type}
variable {P : Program} {n : Nat} {w0 : World} {h0 : Mem} {e : List (Nat × Value)} {L : List Res} {h : Mem} {Q : Exit → Act → World → Prop}
variable {ds : Option Tmp} {ty : TypeId} {ps : String} {af : Array Edge} {gd : Option (Nat × Bool)}

theorem putAt_eq : ∀ (vs : List Value) (k : Nat) (cs : List Value), k + vs.length ≤ cs.length → putAt cs k vs = cs.take k ++ vs ++ cs.drop (k + vs.length) := by
  have key : ∀ (vs : List Value) (j k : Nat) (cs : List Value), k + j + vs.length ≤ cs.length → (vs.zipIdx j).foldl (fun c p => c.set (k + p.2) p.1) cs = cs.take (k + j) ++ vs ++ cs.drop (k + j + vs.length) := by
    intro vs
    induction vs with
    | nil => intro j k cs hl; simp
    | cons v vs ih =>
      intro j k cs hl
      simp only [List.length_cons] at hl
      rw [List.zipIdx_cons, List.foldl_cons, ih (j + 1) k _ (by rw [List.length_set]; omega)]
      rw [List.set_eq_take_append_cons_drop, if_pos (by omega)]
      have h1 : (cs.take (k + j)).length = k + j := by rw [List.length_take]; omega
      have e1 : (cs.take (k + j) ++ v :: cs.drop (k + j + 1)).take (k + (j + 1)) = cs.take (k + j) ++ [v] := by
        rw [show k + (j + 1) = (cs.take (k + j)).length + 1 by omega, List.take_length_add_append]; rfl
      have e2 : (cs.take (k + j) ++ v :: cs.drop (k + j + 1)).drop (k + (j + 1) + vs.length) = cs.drop (k + j + (vs.length + 1)) := by
        rw [show k + (j + 1) + vs.length = (cs.take (k + j)).length + (vs.length + 1) by omega, ← List.drop_drop, List.drop_left, List.drop_succ_cons, List.drop_drop]
        congr 1; omega
      rw [e1, e2]
      simp
  intro vs k cs hl
  exact key vs 0 k cs (by omega)

/-! ### Values that are known by what they stand for -/

/-- An operation yields some value of which F holds, in any state in which the things R are still owned. -/
def OpX (P : Program) (n : Nat) (w0 : World) (h0 : Mem) (o : Oper) (e : List (Nat × Value)) (R : List Res) (h : Mem) (F : Value → Prop) : Prop :=
  ∃ v, (∀ L' h', MLe h h' → (∀ r ∈ R, r ∈ L') → OpV P n w0 h0 o e L' h' v) ∧ F v

theorem OpX.imp {o : Oper} {R : List Res} {F G : Value → Prop} (s : OpX P n w0 h0 o e R h F) (k : ∀ v, F v → G v) : OpX P n w0 h0 o e R h G := let ⟨v, a, b⟩ := s; ⟨v, a, k v b⟩

theorem gl_x {ops : Array Oper} {rest : List Oper} {d : Nat} {op : Op} {R : List Res} {F : Value → Prop} (hv : OpX P n w0 h0 ⟨some d, op, ty, ps, af, none⟩ e R h F) (hR : ∀ r ∈ R, r ∈ L) (hn : Nat.ble (d + 1) n = true)
    (k : ∀ v, F v → GL P n w0 h0 ops Q rest ((d, v) :: e) L h) : GL P n w0 h0 ops Q (⟨some d, op, ty, ps, af, none⟩ :: rest) e L h := by
  obtain ⟨v, hv, hF⟩ := hv
  exact gl_val (hv L h (MLe.refl h) hR) rfl rfl hn (k v hF)
section
variable {ops : Array Oper} {RR : List Res} {al : Als} {d i : Nat} {op : Op} {v : Value} {r : List (Nat × Kd)} {g t : Nat} {b : Bool}
theorem w_qx {R : List Res} {F : Value → Prop} (ho : ops.getD i default = ⟨some d, op, ty, ps, af, none⟩) (hv : OpX P n w0 h0 ⟨some d, op, ty, ps, af, none⟩ e R h F) (hR : ∀ r ∈ R, r ∈ RR) (hn : Nat.ble (d + 1) n = true)
    (k : ∀ v, F v → W P n w0 h0 ops Q RR al r ((d, v) :: e) L h) : W P n w0 h0 ops Q RR al ((i, .q) :: r) e L h := by
  obtain ⟨v, hv, hF⟩ := hv
  exact w_q ho (fun h' L' hh hr => hv L' h' hh fun r hr' => hr r (hR r hr')) hn (k v hF)
theorem w_qx_on {R : List Res} {F : Value → Prop} (ho : ops.getD i default = ⟨some d, op, ty, ps, af, some (g, b)⟩) (ht : (ops[g]?).bind (·.dst) = some t) (he : e.lookup t = some (.bool b)) (hv : OpX P n w0 h0 ⟨some d, op, ty, ps, af, none⟩ e R h F) (hR : ∀ r ∈ R, r ∈ RR) (hn : Nat.ble (d + 1) n = true)
    (k : ∀ v, F v → W P n w0 h0 ops Q RR al r ((d, v) :: e) L h) : W P n w0 h0 ops Q RR al ((i, .q) :: r) e L h := by
  obtain ⟨v, hv, hF⟩ := hv
  exact w_q_on ho ht he (fun h' L' hh hr => hv L' h' hh fun r hr' => hr r (hR r hr')) hn (k v hF)
theorem w_tx {R : List Res} {F : Value → Prop} (ho : ops.getD i default = ⟨some d, op, ty, ps, af, none⟩) (hv : OpX P n w0 h0 ⟨some d, op, ty, ps, af, none⟩ e R h F) (hR : ∀ r ∈ R, r ∈ L) (hn : Nat.ble (d + 1) n = true)
    (k : ∀ v, F v → W P n w0 h0 ops Q RR al r ((d, v) :: e) L h) : W P n w0 h0 ops Q RR al ((i, .t) :: r) e L h := by
  obtain ⟨v, hv, hF⟩ := hv
  exact w_t_val ho (hv L h (MLe.refl h) hR) hn (k v hF)
theorem s_x {W' : List (Nat × Value) → List Res → Mem → Prop} {R : List Res} {F : Value → Prop} (hv : OpX P n w0 h0 ⟨some d, op, ty, ps, af, none⟩ e R h F) (hR : ∀ r ∈ R, r ∈ L) (hn : Nat.ble (d + 1) n = true)
    (k : ∀ v, F v → W' ((d, v) :: e) L h) : Step P n w0 h0 ops RR ⟨some d, op, ty, ps, af, none⟩ e L h W' := by
  obtain ⟨v, hv, hF⟩ := hv
  exact s_val (fun X => hv (L ++ X) h (MLe.refl h) fun r hr => List.mem_append_left _ (hR r hr)) hn (k v hF)
end
theorem mem0 {L : List Res} : ∀ r ∈ ([] : List Res), r ∈ L := fun r hr => by cases hr
theorem mem1 {L : List Res} {r : Res} (hr : r ∈ L) : ∀ x ∈ [r], x ∈ L := fun x hx => by cases hx with | head => exact hr | tail _ h => cases h

/-! ### Parts of values -/
theorem part_x {E : TypeId} {σ : Rp β} {cs : List Value} {off : Nat} {y : β} (T : TyOk P E σ.n σ.agg) (r : σ.R h ((cs.drop off).take σ.n) y) (w : World) : (part E cs.toArray off).run P w = .ok (σ.val ((cs.drop off).take σ.n)) w := by
  simp only [part, Sem.run_bind, T.ag, Result.andThen_ok]
  unfold Rp.val
  cases ha : σ.agg with
  | true => simp [Sem.run_bind, T.sz, List.extract_toArray, List.extract_eq_take_drop, List.take_drop]
  | false =>
    obtain ⟨c, hc, _⟩ := Rp.single r ha
    rw [hc]
    have h1 : cs[off]? = some c := by
      have h2 : ((cs.drop off).take σ.n)[0]? = some c := by rw [hc]; rfl
      rw [List.getElem?_take] at h2
      split at h2
      · rw [List.getElem?_drop] at h2; simpa using h2
      · cases h2
    simp [h1]

theorem ox_field {t : TypeId} {x : Operand} {f off : Nat} {fs : Array Field} {fl : Field} {v : Value} {ρ : Rp α} {σ : Rp β} {g : α → β} {s : α → β → α} {X : α} {Z : β} (ht : P.underlying t = some (.struct fs)) (hf : fs[f]? = some fl) (T : TyOk P fl.type σ.n σ.agg) (pc : Pc ρ off σ g s) (ho : fl.offset = off) (ha : ρ.agg = true) (hx : evalO e x = some v) (r : ρ.Is h v X) (hZ : g X = Z) :
    OpX P n w0 h0 ⟨ds, .field t x f, ty, ps, af, gd⟩ e [] h (fun u => σ.Is h u Z) := by
  subst hZ
  obtain ⟨cs, r, rfl⟩ := r
  subst ho
  have h1 := pc.get r
  refine ⟨_, fun L' h' _ _ a w Ev S => ?_, _, h1, rfl⟩
  have hv : ρ.val cs = .agg cs.toArray := by unfold Rp.val; rw [ha]; rfl
  rw [hv] at hx
  simp [execOp, Ev.eval hx, Instr.field, run_underlying ht, hf, asAgg, part_x T h1]

theorem ox_index {t E : TypeId} {x y : Operand} {m off : Nat} {q : Int} {v : Value} {ρ : Rp α} {σ : Rp β} {g : α → β} {s : α → β → α} {X : α} {Z : β} (i : Nat) (ht : P.underlying t = some (.array m E)) (T : TyOk P E σ.n σ.agg) (pc : Pc ρ off σ g s) (ho : i * σ.n = off) (ha : ρ.agg = true) (hx : evalO e x = some v) (hy : evalO e y = some (vI q))
    (r : ρ.Is h v X) (hq : q = (i : Int)) (hi : i < m) (hZ : g X = Z) : OpX P n w0 h0 ⟨ds, .index t x y, ty, ps, af, gd⟩ e [] h (fun u => σ.Is h u Z) := by
  subst hZ
  obtain ⟨cs, r, rfl⟩ := r
  subst ho; subst hq
  have h1 := pc.get r
  refine ⟨_, fun L' h' _ _ a w Ev S => ?_, _, h1, rfl⟩
  have hv : ρ.val cs = .agg cs.toArray := by unfold Rp.val; rw [ha]; rfl
  rw [hv] at hx
  simp [execOp, Ev.eval hx, Ev.eval hy, Instr.index, vI, asIntOf, run_underlying ht, T.sz, hi, part_x T h1]

/-! ### Reading memory -/
theorem load_run {t : TypeId} {σ : Rp β} {cs : List Value} {y : β} {w : World} {b o : Nat} (T : TyOk P t σ.n σ.agg) (r : σ.R h cs y) (hc : w.rangeAt b o cs) : (Instr.loadAt t (vP b o)).run P w = .ok (σ.val cs) w := by
  have hlen := σ.len r
  simp only [Instr.loadAt, Instr.sureAddr, loadVar, Sem.run_bind, T.ag, Result.andThen_ok, Sem.run_pure]
  unfold Rp.val
  cases ha : σ.agg with
  | true =>
    have hl : (loadCells ⟨b, o, none⟩ cs.length).run P w = .ok cs.toArray w := run_loadCells_list (P := P) w ⟨b, o, none⟩ cs (fun j v hv => by rw [Addr.add_mid]; exact hc j v hv)
    rw [hlen] at hl
    simp [Sem.run_bind, T.sz, hl]
  | false =>
    obtain ⟨c, rfl, _⟩ := Rp.single r ha
    have := hc 0 c rfl
    simp only [Nat.add_zero] at this
    simp [Go.load, Sem.run, this]
/-- A variable, or a part of it. -/
theorem ox_load_box {t E : TypeId} {x : Operand} {b k off : Nat} {cs : List Value} {ρ : Rp α} {σ : Rp β} {g : α → β} {s : α → β → α} {X : α} {Z : β} (T : TyOk P t σ.n σ.agg) (pc : Pc ρ off σ g s) (ho : k = off) (hx : evalO e x = some (vP b k)) (r : ρ.R h cs X) (hZ : g X = Z) :
    OpX P n w0 h0 ⟨ds, .load t x, ty, ps, af, gd⟩ e [.var b E cs] h (fun u => σ.Is h u Z) := by
  subst hZ
  subst ho
  have h1 := pc.get r
  refine ⟨_, fun L' h' _ hm a w Ev S => ?_, _, h1, rfl⟩
  have hw : w.heap[b]? = some (.cells cs.toArray E) := S.ok (.var b E cs) (hm _ (.head _))
  have hr := load_run (P := P) (w := w) T h1 (var_range hw k _ (by rw [σ.len h1]))
  simp [execOp, Ev.eval hx, hr]

/-- A pointer into memory that is only read. -/
def AtP (ρ : Rp α) (h : Mem) (p : Value) (X : α) : Prop := ∃ b o cs, p = vP b o ∧ ρ.R h cs X ∧ ∀ j u, cs[j]? = some u → cell h b (o + j) = some u
theorem AtP.mono {ρ : Rp α} {h h' : Mem} {p : Value} {X : α} (s : AtP ρ h p X) (hh : MLe h h') : AtP ρ h' p X := by
  obtain ⟨b, o, cs, e, r, hc⟩ := s
  exact ⟨b, o, cs, e, ρ.mono hh r, fun j u hj => cell_mono hh (hc j u hj)⟩
theorem ox_idx_s {t E : TypeId} {x y : Operand} {q : Int} {v : Value} {ρ : Rp α} {xs : List α} (d : α) (i : Nat) (ht : P.underlying t = some (.slice E)) (T : TyOk P E ρ.n ρ.agg) (hx : evalO e x = some v) (hy : evalO e y = some (vI q)) (r : (rpS ρ).Is h v xs) (hq : q = (i : Int)) (hi : i < xs.length) (hp : 0 < ρ.n) :
    OpX P n w0 h0 ⟨ds, .indexAddr t x y, ty, ps, af, gd⟩ e [] h (fun u => AtP ρ h u (xs.getD i d)) := by
  obtain ⟨cs, hs, hr⟩ := of_s r
  have hxi : xs[i]? = some (xs.getD i d) := by rw [List.getD_eq_getElem?_getD, List.getElem?_eq_getElem hi]; rfl
  have hg := hr.get hxi
  have hlen := hr.len
  have hm : i * ρ.n + ρ.n ≤ cs.length := by rw [hlen, ← Nat.succ_mul]; exact Nat.mul_le_mul_right _ hi
  refine ⟨elemPtr ρ.n v i, fun L' h' hh _ => ov_index i ht T.sz hx hy (hs.mono hh) hq hi hp, ?_⟩
  have h0 : (cs[i * ρ.n + 0]?) = some (cs[i * ρ.n]'(by omega)) := by rw [Nat.add_zero, List.getElem?_eq_getElem]
  obtain ⟨b, o, e1, _⟩ := hs.cell h0
  refine ⟨b, o, _, e1, hg, fun j u hj => ?_⟩
  rw [List.getElem?_take] at hj
  split at hj
  · rw [List.getElem?_drop] at hj
    obtain ⟨b', o', e2, hc⟩ := hs.cell hj
    rw [e1] at e2
    simp only [Value.pointer.injEq, Option.some.injEq, Addr.mk.injEq] at e2
    rw [e2.1, e2.2.1]; exact hc
  · cases hj
theorem ox_load_at {t : TypeId} {x : Operand} {p : Value} {ρ : Rp α} {X : α} (T : TyOk P t ρ.n ρ.agg) (hx : evalO e x = some p) (r : AtP ρ h p X) : OpX P n w0 h0 ⟨ds, .load t x, ty, ps, af, gd⟩ e [] h (fun u => ρ.Is h u X) := by
  obtain ⟨b, o, cs, rfl, r, hc⟩ := r
  refine ⟨_, fun L' h' hh _ a w Ev S => ?_, _, r, rfl⟩
  have hr := load_run (P := P) (w := w) T r (fun j u hj => cell_world (hh.trans S.sub) (hc j u hj))
  simp [execOp, Ev.eval hx, hr]
theorem ox_fld_at {t : TypeId} {x : Operand} {f off m : Nat} {fs : Array Field} {fl : Field} {p : Value} {ρ : Rp α} {σ : Rp β} {g : α → β} {s : α → β → α} {X : α} {Z : β} (ht : P.underlying t = some (.struct fs)) (hf : fs[f]? = some fl) (hsz : ∀ w, (Go.sizeOf fl.type).run P w = .ok (m + 1) w) (pc : Pc ρ off σ g s) (ho : fl.offset = off) (hx : evalO e x = some p) (r : AtP ρ h p X) (hZ : g X = Z) :
    OpX P n w0 h0 ⟨ds, .fieldAddr t x f, ty, ps, af, gd⟩ e [] h (fun u => AtP σ h u Z) := by
  subst hZ
  obtain ⟨b, o, cs, rfl, r, hc⟩ := r
  subst ho
  refine ⟨_, fun L' h' hh _ => ov_field_addr ht hf hsz hx, b, _, _, rfl, pc.get r, fun j u hj => ?_⟩
  rw [List.getElem?_take] at hj
  split at hj
  · rw [List.getElem?_drop] at hj
    have := hc _ _ hj
    rwa [← Nat.add_assoc] at this
  · cases hj
theorem ox_arr_at {t E : TypeId} {x y : Operand} {m off : Nat} {q : Int} {p : Value} {ρ : Rp α} {σ : Rp β} {g : α → β} {s : α → β → α} {X : α} {Z : β} (i : Nat) (ht : P.underlying t = some (.array m E)) (hsz : ∀ w, (Go.sizeOf E).run P w = .ok σ.n w) (pc : Pc ρ off σ g s) (ho : i * σ.n = off) (hx : evalO e x = some p) (hy : evalO e y = some (vI q)) (r : AtP ρ h p X) (hq : q = (i : Int)) (hi : i < m) (hZ : g X = Z) :
    OpX P n w0 h0 ⟨ds, .indexAddr t x y, ty, ps, af, gd⟩ e [] h (fun u => AtP σ h u Z) := by
  subst hZ
  obtain ⟨b, o, cs, rfl, r, hc⟩ := r
  subst ho
  refine ⟨_, fun L' h' hh _ => ov_index_arr i ht hsz hx hy hq hi, b, _, _, rfl, pc.get r, fun j u hj => ?_⟩
  rw [List.getElem?_take] at hj
  split at hj
  · rw [List.getElem?_drop] at hj
    have := hc _ _ hj
    rwa [← Nat.add_assoc] at this
  · cases hj
theorem ov_len_sr {v : Value} {ρ : Rp α} {xs : List α} {t E : TypeId} {x : Operand} (ht : P.underlying t = some (.slice E)) (hx : evalO e x = some v) (r : (rpS ρ).Is h v xs) :
    OpV P n w0 h0 ⟨ds, .call { callee := .builtin .len, args := #[x], argTypes := #[t] }, ty, ps, af, gd⟩ e L h (vI (xs.length : Int)) := ov_len_sl ht hx (s_one r)

/-! ### Writing variables -/
theorem upd_box {E t : TypeId} {b k off : Nat} {cs : List Value} {v : Value} {x y : Operand} {ρ : Rp α} {σ : Rp β} {g : α → β} {s : α → β → α} {X Z : α} {Y : β} (hsz : ∀ w, (Go.sizeOf t).run P w = .ok σ.n w) (pc : Pc ρ off σ g s) (ho : k = off) (hx : evalO e x = some (vP b k)) (hy : evalO e y = some v) (r : ρ.R h cs X) (ry : σ.Is h v Y) (hZ : s X Y = Z) :
    ∃ cs', ρ.R h cs' Z ∧ ∀ A B, Upd P n w0 h0 ⟨ds, .store t x y, ty, ps, af, gd⟩ e A (.var b E cs) B h (.var b E cs') := by
  subst hZ
  subst ho
  obtain ⟨vs, rv, hv⟩ := ry.cells
  have hl := σ.len rv
  have hlc := ρ.len r
  have hf := pc.fits
  refine ⟨putAt cs k vs, ?_, ?_⟩
  · rw [putAt_eq _ _ _ (by omega), hl]
    exact pc.set r rv
  · intro A B a w Ev S
    have hw : w.heap[b]? = some (.cells cs.toArray E) := S.ok (.var b E cs) (by simp)
    obtain ⟨h2, h3⟩ := setCells_var vs k cs w hw
    refine ⟨w.setCells b k vs, ?_, h3, h2⟩
    have hthere : w.there b k vs.length := by
      intro j hj
      have : k + j < cs.length := by omega
      refine ⟨?_, ?_⟩
      · unfold World.cell?
        simp [hw, this]
      · simp [World.frozen?, hw]
    have hrun := run_storeCells_cells (P := P) b k vs 0 w (fun j hj => by simpa using (hthere j hj).1) (fun j hj => by simpa using (hthere j hj).2) (fun u hu => List.all_eq_true.1 (σ.one rv) u hu)
    simp only [Nat.add_zero] at hrun
    simp [execOp, Ev.eval hx, Ev.eval hy, Instr.storeAt, Instr.sureAddr, storeVar, hsz, hv, hl, hrun]
theorem gl_updx {ops : Array Oper} {rest : List Oper} {A B : List Res} {op : Op} {b : Nat} {E : TypeId} {cs : List Value} {F : List Value → Prop} (hv : ∃ cs', F cs' ∧ ∀ A B, Upd P n w0 h0 ⟨none, op, ty, ps, af, none⟩ e A (.var b E cs) B h (.var b E cs'))
    (k : ∀ cs', F cs' → GL P n w0 h0 ops Q rest e (A ++ .var b E cs' :: B) h) : GL P n w0 h0 ops Q (⟨none, op, ty, ps, af, none⟩ :: rest) e (A ++ .var b E cs :: B) h := by
  obtain ⟨cs', hF, hu⟩ := hv
  exact gl_upd (hu A B) rfl rfl rfl (k cs' hF)
theorem w_tx_upd {ops : Array Oper} {RR : List Res} {al : Als} {i : Nat} {r : List (Nat × Kd)} {A B : List Res} {op : Op} {b : Nat} {E : TypeId} {cs : List Value} {F : List Value → Prop} (ho : ops.getD i default = ⟨none, op, ty, ps, af, none⟩) (hv : ∃ cs', F cs' ∧ ∀ A B, Upd P n w0 h0 ⟨none, op, ty, ps, af, none⟩ e A (.var b E cs) B h (.var b E cs'))
    (k : ∀ cs', F cs' → W P n w0 h0 ops Q RR al r e (A ++ .var b E cs' :: B) h) : W P n w0 h0 ops Q RR al ((i, .t) :: r) e (A ++ .var b E cs :: B) h := by
  obtain ⟨cs', hF, hu⟩ := hv
  exact w_t_upd ho (hu A B) rfl (k cs' hF)

theorem s_updx {ops : Array Oper} {R : List Res} {W' : List (Nat × Value) → List Res → Mem → Prop} {A B : List Res} {op : Op} {b : Nat} {E : TypeId} {cs : List Value} {F : List Value → Prop} (hv : ∃ cs', F cs' ∧ ∀ A B, Upd P n w0 h0 ⟨none, op, ty, ps, af, none⟩ e A (.var b E cs) B h (.var b E cs'))
    (hR : ∀ r ∈ R, ∀ q', r ∈ A ++ .var b E cs :: B → r ∈ A ++ q' :: B) (k : ∀ cs', F cs' → W' e (A ++ .var b E cs' :: B) h) : Step P n w0 h0 ops R ⟨none, op, ty, ps, af, none⟩ e (A ++ .var b E cs :: B) h W' := by
  obtain ⟨cs', hF, hu⟩ := hv
  intro X a w Ev S
  have S1 : St w0 h0 (A ++ .var b E cs :: (B ++ X)) h w := by simpa using S
  unfold RunsTo
  rw [if_pos (wn rfl)]
  obtain ⟨w', hr, hgr, hok⟩ := hu A (B ++ X) a w Ev S1
  rw [hr]
  refine ⟨fun d' hd => (by cases hd), A ++ .var b E cs' :: B, h, MLe.refl h, fun hh r hr => hR r hr _ (hh r hr), ?_, k cs' hF⟩
  have := S1.grown hgr hok fun b hb => .inl hb
  simpa using this
/-! ### Making -/
/-- A variable is made out of a value. -/
theorem new_boxx {E : TypeId} {x : Operand} {v : Value} {ρ : Rp α} {X : α} (hx : evalO e x = some v) (r : ρ.Is h v X) :
    NewOp P n w0 h0 ⟨ds, .box E x, ty, ps, af, gd⟩ e L h (fun u q => ∃ b cs, u = vP b 0 ∧ q = .var b E cs ∧ ρ.R h cs X) := by
  obtain ⟨cs, rc, hc⟩ := r.cells
  intro a w Ev S
  obtain ⟨v', w', q, h1, h2, h3, h4, b, h5, h6⟩ := new_box (n := n) (ds := ds) (ty := ty) (ps := ps) (af := af) (gd := gd) (L := L) (E := E) hx hc a w Ev S
  exact ⟨v', w', q, h1, h2, h3, h4, b, cs, h5, h6, rc⟩
theorem new_allocx {E : TypeId} {i : TypeInfo} {z : Value} {cs : List Value} {ρ : Rp α} {X : α} (hi : P.info? E = some i) (hz : i.zero = some z) (hc : z.cells = cs.toArray) (r : ρ.R h cs X) :
    NewOp P n w0 h0 ⟨ds, .alloc E, ty, ps, af, gd⟩ e L h (fun u q => ∃ b cs, u = vP b 0 ∧ q = .var b E cs ∧ ρ.R h cs X) := by
  intro a w Ev S
  obtain ⟨v', w', q, h1, h2, h3, h4, b, h5, h6⟩ := new_alloc (n := n) (ds := ds) (ty := ty) (ps := ps) (af := af) (gd := gd) (e := e) (L := L) (h := h) hi hz hc a w Ev S
  exact ⟨v', w', q, h1, h2, h3, h4, b, cs, h5, h6, r⟩

/-- A built value, part by part. -/
def FillX (ρ : Rp α) (h : Mem) (place : Nat → Option (Nat × Nat)) (X : α) (parts : List (Nat × Value)) (X' : α) : Prop :=
  ∀ cs, ρ.R h cs X → ∃ cs', ρ.R h cs' X' ∧ Instr.fill place cs.toArray parts = some cs'.toArray
theorem fx_nil {ρ : Rp α} {place : Nat → Option (Nat × Nat)} {X : α} : FillX ρ h place X [] X := fun cs r => ⟨cs, r, rfl⟩
theorem fx_one {ρ : Rp α} {σ : Rp β} {place : Nat → Option (Nat × Nat)} {X X' : α} {Y : β} {i off : Nat} {v : Value} {rest : List (Nat × Value)} {g : α → β} {s : α → β → α} (hp : place i = some (off, σ.n)) (pc : Pc ρ off σ g s) (ry : σ.Is h v Y) (k : FillX ρ h place (s X Y) rest X') : FillX ρ h place X ((i, v) :: rest) X' := by
  intro cs r
  obtain ⟨vs, rv, hv⟩ := ry.cells
  have hl := σ.len rv
  have hlc := ρ.len r
  have hf := pc.fits
  obtain ⟨cs', r', e'⟩ := k _ (pc.set r rv)
  refine ⟨cs', r', ?_⟩
  have e1 : cs = cs.take off ++ (cs.drop off).take σ.n ++ cs.drop (off + σ.n) := by
    rw [List.append_assoc, ← List.drop_drop, List.take_append_drop, List.take_append_drop]
  rw [e1]
  exact fill_one hp (by rw [List.length_take]; omega) (by rw [List.length_take, List.length_drop]; omega) hl hv e'
theorem ox_build {t : TypeId} {i : TypeInfo} {z : Value} {zs : List Value} {fs : Array Field} {places : Array (Nat × Nat)} {parts : List (Nat × Operand)} {ps' : List (Nat × Value)} {ρ : Rp α} {X X' : α} (ht : P.underlying t = some (.struct fs)) (hi : P.info? t = some i) (hz : i.zero = some z) (hzc : z.cells = zs.toArray)
    (hpl : ∀ w, (fs.mapM fun (f : Field) => do pure (f.offset, ← Go.sizeOf f.type)).run P w = .ok places w) (hp : PartsV e parts ps') (ha : ρ.agg = true) (rz : ρ.R h zs X) (hf : FillX ρ h (places[·]?) X ps' X') :
    OpX P n w0 h0 ⟨ds, .build t parts.toArray, ty, ps, af, gd⟩ e [] h (fun u => ρ.Is h u X') := by
  obtain ⟨cs', r', e'⟩ := hf zs rz
  refine ⟨.agg cs'.toArray, fun L' h' _ _ => ov_build_parts ht hi hz hpl hp (by rw [hzc]; exact e'), cs', r', ?_⟩
  unfold Rp.val; rw [ha]; rfl
theorem ox_build_arr {t E : TypeId} {m sz : Nat} {i : TypeInfo} {z : Value} {zs : List Value} {parts : List (Nat × Operand)} {ps' : List (Nat × Value)} {ρ : Rp α} {X X' : α} (ht : P.underlying t = some (.array m E)) (hi : P.info? t = some i) (hz : i.zero = some z) (hzc : z.cells = zs.toArray)
    (hsz : ∀ w, (Go.sizeOf E).run P w = .ok sz w) (hp : PartsV e parts ps') (ha : ρ.agg = true) (rz : ρ.R h zs X) (hf : FillX ρ h (fun i => some (i * sz, sz)) X ps' X') :
    OpX P n w0 h0 ⟨ds, .build t parts.toArray, ty, ps, af, gd⟩ e [] h (fun u => ρ.Is h u X') := by
  obtain ⟨cs', r', e'⟩ := hf zs rz
  refine ⟨.agg cs'.toArray, fun L' h' _ _ => ov_build_arr ht hi hz hsz hp (by rw [hzc]; exact e'), cs', r', ?_⟩
  unfold Rp.val; rw [ha]; rfl

theorem ret_imp {R R' : Mem → Value → Prop} (k : ∀ h r, R h r → R' h r) (x : Ending) (w : World) (s : Ret w0 h0 R x w) : Ret w0 h0 R' x w := by
  obtain ⟨v, h, e, r, S⟩ := s
  exact ⟨v, h, e, k h v r, S⟩
theorem is_bt {h : Mem} : rpB.Is h (.bool true) True := (vB_true trivial) ▸ is_b True
theorem is_bf {h : Mem} : rpB.Is h (.bool false) False := (vB_false (p := False) id) ▸ is_b False
theorem Rp.castR {ρ : Rp α} {cs : List Value} {x y : α} (r : ρ.R h cs x) (e : x = y) : ρ.R h cs y := e ▸ r
theorem Rp.R.mono {ρ : Rp α} {h' : Mem} {cs : List Value} {x : α} (r : ρ.R h cs x) (hh : MLe h h') : ρ.R h' cs x := Rp.mono ρ hh r
/-- A result that is read out of a variable. -/
theorem rv_o {t : Nat} {T E : TypeId} {b : Nat} {cs : List Value} {ρ : Rp α} {X : α} (tok : TyOk P T ρ.n ρ.agg) (hm : .var b E cs ∈ L) (hx : evalO e (.tmp t) = some (vP b 0)) (r : ρ.R h cs X) : ∃ v, RV P n w0 h0 (.cell t T) e L h v ∧ ρ.Is h v X := by
  refine ⟨ρ.val cs, ?_, cs, r, rfl⟩
  intro a w Ev S
  have hw : w.heap[b]? = some (.cells cs.toArray E) := S.ok _ hm
  have := Ev.eval hx
  simp only [Act.eval] at this
  have h2 := load_run (P := P) tok r (var_range hw 0 cs (by simp))
  simp only [Instr.loadAt, Instr.sureAddr, Sem.run_bind, Sem.run_pure, Result.andThen_ok] at h2
  simp [resRun, this, asAddr, h2]
theorem gq_exv {r : ResultVar} {F : Value → Prop} {x : Exit} (s : ∃ v, RV P n w0 h0 r e L h v ∧ F v) (k : ∀ v, RV P n w0 h0 r e L h v → F v → GQ n w0 h0 Q x e L h) : GQ n w0 h0 Q x e L h := by
  obtain ⟨v, a, b⟩ := s
  exact k v a b
/-- A constant, or another value that is known. -/
theorem ox_val {o : Oper} {v : Value} {F : Value → Prop} (hv : ∀ L' h', OpV P n w0 h0 o e L' h' v) (hF : F v) : OpX P n w0 h0 o e [] h F := ⟨v, fun L' h' _ _ => hv L' h', hF⟩
end
end Bk

namespace Bk
set_option linter.unusedVariables false
set_option linter.unusedSimpArgs false
open Go Go.RowKit
open Classical
section
variable {P : Program} {n : Nat} {w0 : World} {h0 : Mem} {e : List (Nat × Value)} {L : List Res} {h : Mem} {Q : Exit → Act → World → Prop}
variable {ds : Option Tmp} {ty : TypeId} {ps : String} {af : Array Edge} {gd : Option (Nat × Bool)}

theorem prop_cases {G : Prop} (p : Prop) (kt : p → G) (kf : ¬ p → G) : G := Classical.byCases kt kf
/-- A function's value. -/
abbrev vF (f : Nat) (cap : List Value) : Value := .func (.func f) #[] cap.toArray

theorem ov_makefunc {f : Nat} {xs : List Operand} {vs : List Value} (hvs : Evals e xs vs) : OpV P n w0 h0 ⟨ds, .makeFunc (.func f) #[] xs.toArray, ty, ps, af, gd⟩ e L h (vF f vs) := by
  intro a w Ev S
  have : xs.toArray.map a.eval = vs.toArray := by rw [List.map_toArray, Ev.evals hvs]
  simp [execOp, Instr.makeFunc, this]

/-- The operation enters the function. -/
def Enters (P : Program) (n : Nat) (o : Oper) (e : List (Nat × Value)) (f : Nat) (args : Array Value) : Prop := ∀ a w, Env n e a → (execOp a.eval o).run P w = .ok (.enter f args) w
theorem enters_v {x : Operand} {f : Nat} {cap : List Value} {xs : List Operand} {ts : Array TypeId} {vs : List Value} (hcall : ∀ args w, (callFunc f args).run P w = .ok (.enter f args) w) (hx : evalO e x = some (vF f cap)) (hvs : Evals e xs vs) :
    Enters P n ⟨ds, .call { callee := .value x, args := xs.toArray, argTypes := ts }, ty, ps, af, gd⟩ e f (vs ++ cap).toArray := by
  intro a w Ev
  have hargs : xs.toArray.map a.eval = vs.toArray := by rw [List.map_toArray, Ev.evals hvs]
  simp only [execOp, resolve, Ev.eval hx]
  simp [Deferred.ofValue, invoke, hcall, hargs]

theorem gl_enter {ops : Array Oper} {rest : List Oper} {o : Oper} {d f : Nat} {args : Array Value} {R : Mem → Value → Prop} (he : Enters P n o e f args) (hg : o.guard = none) (hd : o.dst = some d) (hn : Nat.ble (d + 1) n = true)
    (hc : ∀ w, MLe h (mem w) → Calls P f args w (Ret w h R)) (k : ∀ v h', MLe h h' → R h' v → GL P n w0 h0 ops Q rest ((d, v) :: e) L h') : GL P n w0 h0 ops Q (o :: rest) e L h := by
  intro a w E S
  refine wpList_plain hg fun K hK => ?_
  unfold Oper.wp
  rw [he a w E, Oper.upon_enter]
  refine (hc w S.sub).mono ?_
  rintro e' w' ⟨v, h', rfl, hR, S'⟩
  have S2 := S.call S'
  rw [hd]
  exact hK _ _ (k v h' S'.le hR _ _ (E.put (Nat.le_of_ble_eq_true hn)) S2)
theorem gl_enter_mut {ops : Array Oper} {rest : List Oper} {o : Oper} {d f : Nat} {args : Array Value} {A B : List Res} {q : Res} {G : Mem → Value → Res → Prop} (he : Enters P n o e f args) (hg : o.guard = none) (hd : o.dst = some d) (hn : Nat.ble (d + 1) n = true)
    (hc : ∀ X w, St w0 h0 (q :: X) h w → Calls P f args w (RetMut w0 h0 h X G)) (k : ∀ v g q', MLe h g → G g v q' → GL P n w0 h0 ops Q rest ((d, v) :: e) (A ++ q' :: B) g) : GL P n w0 h0 ops Q (o :: rest) e (A ++ q :: B) h := by
  intro a w E S
  have S1 : St w0 h0 (q :: (A ++ B)) h w := S.perm (by simp)
  refine wpList_plain hg fun K hK => ?_
  unfold Oper.wp
  rw [he a w E, Oper.upon_enter]
  refine (hc _ w S1).mono ?_
  rintro e' w' ⟨v, g, K', rfl, ⟨q', hK', hle, hG⟩, S'⟩
  have S2 : St w0 h0 (A ++ q' :: B) g w' := (S'.sublist hK').perm (by simpa using List.perm_middle.symm)
  rw [hd]
  exact hK _ _ (k v g q' hle hG _ _ (E.put (Nat.le_of_ble_eq_true hn)) S2)
theorem s_offu {W' : List (Nat × Value) → List Res → Mem → Prop} {ops : Array Oper} {R : List Res} {op : Op} {g t d : Nat} {b : Bool} (ht : (ops[g]?).bind (·.dst) = some t) (he : e.lookup t = some undef) (hn : Nat.ble (d + 1) n = true) (k : W' ((d, undef) :: e) L h) :
    Step P n w0 h0 ops R ⟨some d, op, ty, ps, af, some (g, b)⟩ e L h W' := by
  intro X a w E S
  have hw : Region.wanted ⟨some d, op, ty, ps, af, some (g, b)⟩ (yielded ops a.tmps) = false := by
    have := E.get t _ he
    simp [Region.wanted, yielded, ht, this, undef]
  unfold RunsTo
  rw [if_neg (by simp [hw])]
  exact ⟨fun d' hd => (by cases hd; exact Nat.le_of_ble_eq_true hn), L, h, MLe.refl h, fun hh => hh, S, k⟩
theorem drop_kept {R A B : List Res} {q : Res} (hR : ∀ r ∈ R, r ∈ A ++ B) : ∀ r ∈ R, r ∈ A ++ q :: B → r ∈ A ++ B := fun r hr _ => hR r hr
theorem gl_enter_keep {ops : Array Oper} {rest : List Oper} {o : Oper} {d f : Nat} {args : Array Value} {A B : List Res} {q : Res} {G : Mem → Value → Prop} (he : Enters P n o e f args) (hg : o.guard = none) (hd : o.dst = some d)
    (hc : ∀ X w, St w0 h0 (q :: X) h w → Calls P f args w (RetMut w0 h0 h X (fun g v q' => q' = q ∧ G g v))) (hn : Nat.ble (d + 1) n = true) (k : ∀ v g, MLe h g → G g v → GL P n w0 h0 ops Q rest ((d, v) :: e) (A ++ q :: B) g) : GL P n w0 h0 ops Q (o :: rest) e (A ++ q :: B) h :=
  gl_enter_mut he hg hd hn hc fun v g q' hle hG => hG.1 ▸ k v g hle hG.2
section
variable {ops : Array Oper} {R : List Res} {d : Nat} {op : Op}
theorem s_enter {W' : List (Nat × Value) → List Res → Mem → Prop} {f : Nat} {args : Array Value} {R' : Mem → Value → Prop} (he : Enters P n ⟨some d, op, ty, ps, af, none⟩ e f args) (hn : Nat.ble (d + 1) n = true)
    (hc : ∀ w, MLe h (mem w) → Calls P f args w (Ret w h R')) (k : ∀ v h', MLe h h' → R' h' v → W' ((d, v) :: e) L h') : Step P n w0 h0 ops R ⟨some d, op, ty, ps, af, none⟩ e L h W' := by
  intro X a w E S
  unfold RunsTo
  rw [if_pos (wn rfl), he a w E]
  refine (hc w S.sub).mono ?_
  rintro e' w' ⟨v, h', rfl, hR, S'⟩
  have S2 : St w0 h0 (L ++ X) h' w' := S.call S'
  exact ⟨v, rfl, fun d' hd => (by cases hd; exact Nat.le_of_ble_eq_true hn), L, h', S'.le, fun hh => hh, S2, k v h' S'.le hR⟩
theorem s_enter_mut {W' : List (Nat × Value) → List Res → Mem → Prop} {f : Nat} {args : Array Value} {A B : List Res} {q : Res} {G : Mem → Value → Res → Prop} (he : Enters P n ⟨some d, op, ty, ps, af, none⟩ e f args)
    (hc : ∀ X w, St w0 h0 (q :: X) h w → Calls P f args w (RetMut w0 h0 h X G)) (hn : Nat.ble (d + 1) n = true) (hR : ∀ r ∈ R, ∀ q', r ∈ A ++ q :: B → r ∈ A ++ q' :: B)
    (k : ∀ v g q', MLe h g → G g v q' → W' ((d, v) :: e) (A ++ q' :: B) g) : Step P n w0 h0 ops R ⟨some d, op, ty, ps, af, none⟩ e (A ++ q :: B) h W' := by
  intro X a w E S
  have S1 : St w0 h0 (q :: (A ++ B ++ X)) h w := S.perm (by simp)
  unfold RunsTo
  rw [if_pos (wn rfl), he a w E]
  refine (hc _ w S1).mono ?_
  rintro e' w' ⟨v, g, K, rfl, ⟨q', hK, hle, hG⟩, S'⟩
  have S2 : St w0 h0 (A ++ q' :: B ++ X) g w' := (S'.sublist hK).perm (by simpa using List.perm_middle.symm)
  exact ⟨v, rfl, fun d' hd => (by cases hd; exact Nat.le_of_ble_eq_true hn), A ++ q' :: B, g, hle, fun hh r hr => hR r hr q' (hh r hr), S2, k v g q' hle hG⟩
/-- A call in which the owned thing is left as it was. -/
theorem s_enter_keep {W' : List (Nat × Value) → List Res → Mem → Prop} {f : Nat} {args : Array Value} {A B : List Res} {q : Res} {G : Mem → Value → Prop} (he : Enters P n ⟨some d, op, ty, ps, af, none⟩ e f args)
    (hc : ∀ X w, St w0 h0 (q :: X) h w → Calls P f args w (RetMut w0 h0 h X (fun g v q' => q' = q ∧ G g v))) (hn : Nat.ble (d + 1) n = true)
    (k : ∀ v g, MLe h g → G g v → W' ((d, v) :: e) (A ++ q :: B) g) : Step P n w0 h0 ops R ⟨some d, op, ty, ps, af, none⟩ e (A ++ q :: B) h W' := by
  intro X a w E S
  have S1 : St w0 h0 (q :: (A ++ B ++ X)) h w := S.perm (by simp)
  unfold RunsTo
  rw [if_pos (wn rfl), he a w E]
  refine (hc _ w S1).mono ?_
  rintro e' w' ⟨v, g, K, rfl, ⟨q', hK, hle, rfl, hG⟩, S'⟩
  have S2 : St w0 h0 (A ++ q' :: B ++ X) g w' := (S'.sublist hK).perm (by simpa using List.perm_middle.symm)
  exact ⟨v, rfl, fun d' hd => (by cases hd; exact Nat.le_of_ble_eq_true hn), A ++ q' :: B, g, hle, fun hh r hr => hh r hr, S2, k v g hle hG⟩
end
end
end Bk

namespace Bk
set_option linter.unusedVariables false
set_option linter.unusedSimpArgs false
open Go Go.RowKit
open Classical

section
variable {α β γ : Type}
variable {P : Program} {n : Nat} {w0 : World} {h0 : Mem} {e : List (Nat × Value)} {L : List Res} {h : Mem} {Q : Exit → Act → World → Prop}
variable {ds : Option Tmp} {ty : TypeId} {ps : String} {af : Array Edge} {gd : Option (Nat × Bool)}

/-! ### Nil is owned by everybody -/
theorem St.nilown {w : World} (s : St w0 h0 L h w) (E k : Nat) : St w0 h0 (.gs E k (.slice none 0 0) 0 [] :: L) h w := by
  refine ⟨s.below, s.le, s.sub, s.fresh, ?_, ?_, ?_⟩
  · intro r hr
    rcases List.mem_cons.1 hr with rfl | hr
    · exact World.ownsRow_nil w _ E k
    · exact s.ok r hr
  · intro r hr b hb
    rcases List.mem_cons.1 hr with rfl | hr
    · simp [Res.fp, Value.ownBlock] at hb
    · exact s.own r hr b hb
  · refine List.pairwise_cons.2 ⟨fun r hr b hb => ?_, s.apart⟩
    simp [Res.fp, Value.ownBlock] at hb
theorem gc_nilown {c : Code} (E k : Nat) (g : GC P n w0 h0 c Q e (.gs E k (.slice none 0 0) 0 [] :: L) h) : GC P n w0 h0 c Q e L h := fun a w Ev S => g a w Ev (S.nilown E k)
theorem gl_nilown {ops : Array Oper} {l : List Oper} (E k : Nat) (g : GL P n w0 h0 ops Q l e (.gs E k (.slice none 0 0) 0 [] :: L) h) : GL P n w0 h0 ops Q l e L h := fun a w Ev S => g a w Ev (S.nilown E k)
theorem gq_nilown {x : Exit} (E k : Nat) (g : GQ n w0 h0 Q x e (.gs E k (.slice none 0 0) 0 [] :: L) h) : GQ n w0 h0 Q x e L h := fun a w Ev S => g a w Ev (S.nilown E k)

theorem s_nilown {ops : Array Oper} {R : List Res} {o : Oper} {W' : List (Nat × Value) → List Res → Mem → Prop} (E k : Nat) (g : Step P n w0 h0 ops R o e (.gs E k (.slice none 0 0) 0 [] :: L) h W') : Step P n w0 h0 ops R o e L h W' := by
  intro X a w Ev S
  refine (g X a w Ev (S.nilown E k)).mono ?_
  rintro v' w' ⟨hd, L', g, hg, hk, S3, hW⟩
  exact ⟨hd, L', g, hg, fun hh q hq => hk (fun y hy => List.mem_cons_of_mem _ (hh y hy)) q hq, S3, hW⟩
/-! ### Making -/
theorem made_list (a : List Value) (m : Nat) : (madeCells a.toArray (m * a.length)).toList = (List.replicate m a).flatten := by
  unfold madeCells
  rw [Array.toList_map, Array.toList_range]
  induction m with
  | zero => simp
  | succ m ih =>
    rw [Nat.succ_mul, Nat.add_comm, List.range_add, List.map_append, List.map_map, List.replicate_succ, List.flatten_cons, ← ih]
    congr 1
    · apply List.ext_getElem?
      intro j
      by_cases hj : j < a.length
      · simp [hj, Nat.mod_eq_of_lt hj]
      · simp [hj]
    · apply List.map_congr_left
      intro j _
      simp
theorem rl_zero {ρ : Rp α} {a : List Value} {x : α} (m : Nat) (r : ρ.R h a x) : RL ρ h (madeCells a.toArray (m * ρ.n)).toList (List.replicate m x) := by
  rw [← ρ.len r, made_list]
  exact (zr_a (h := h) m r).2
theorem new_makex {t E : TypeId} {i : TypeInfo} {z : Value} {zs : List Value} {x y : Operand} {q q' : Int} {by' : Nat} {ρ : Rp α} {X : α} (m : Nat) (ht : P.underlying t = some (.slice E)) (hi : P.info? E = some i) (hz : i.zero = some z) (hzc : z.cells = zs.toArray) (hsize : i.size = ρ.n) (hby : i.bytes = by') (rz : ρ.R h zs X)
    (hx : evalO e x = some (vI q)) (hy : evalO e y = some (vI q')) (hq : q = (m : Int)) (hq' : q' = (m : Int)) (hb : by' * m ≤ 281474976710656) (hm : m < 9223372036854775808) :
    NewOp P n w0 h0 ⟨ds, .makeSlice t x y, ty, ps, af, gd⟩ e L h (fun v r => ∃ cs, r = .gs E ρ.n v (List.replicate m X).length cs ∧ RL ρ h cs (List.replicate m X)) := by
  subst hq; subst hq'; subst hby
  intro a w Ev S
  obtain ⟨w', hr, hown, hgr⟩ := run_make_full (P := P) w w0.heap.size t E i z ρ.n ht hi hz hsize .i64 .i64 m hb (by unfold maxLen; omega) S.below.size
  rw [hzc] at hown
  refine ⟨_, w', .gs E ρ.n (.slice (some ⟨w.heap.size, 0, none⟩) m m) m (madeCells zs.toArray (m * ρ.n)).toList, ?_, hgr, hown, fun b hb => ?_, _, by rw [List.length_replicate], rl_zero m rz⟩
  · simp only [execOp, Ev.eval hx, Ev.eval hy, vI]
    simp [hr]
  · simp only [Res.fp, Value.ownBlock, Option.some.injEq] at hb
    omega
theorem new_buildx {t E : TypeId} {i : TypeInfo} {z : Value} {zs : List Value} {parts : List (Nat × Operand)} {ps' : List (Nat × Value)} {m : Nat} {ρ : Rp α} {X : α} {xs : List α} (ht : P.underlying t = some (.slice E)) (hi : P.info? E = some i) (hz : i.zero = some z) (hzc : z.cells = zs.toArray) (hsize : i.size = ρ.n) (rz : ρ.R h zs X)
    (hp : PartsV e parts ps') (hf : FillX (rpA m ρ) h (fun i => some (i * ρ.n, ρ.n)) (List.replicate m X) ps' xs) (hm : m * ρ.n ≤ 16777216) (hn : 0 < ρ.n) :
    NewOp P n w0 h0 ⟨ds, .buildSlice t m parts.toArray, ty, ps, af, gd⟩ e L h (fun v r => ∃ cs, r = .gs E ρ.n v xs.length cs ∧ RL ρ h cs xs) := by
  obtain ⟨cs, ⟨hlen, hrl⟩, hfill⟩ := hf (madeCells zs.toArray (m * ρ.n)).toList ⟨List.length_replicate, rl_zero m rz⟩
  have hcl := hrl.len
  rw [hlen] at hcl
  intro a w Ev S
  have hpa : (parts.toArray.map fun (p : Nat × Operand) => (p.1, a.eval p.2)).toList = ps' := by
    rw [List.map_toArray]
    exact hp.eval Ev
  refine ⟨.slice (some ⟨w.heap.size, 0, none⟩) m m, w.alloc (.cells cs.toArray E), .gs E ρ.n (.slice (some ⟨w.heap.size, 0, none⟩) m m) m cs, ?_, World.grownBy_alloc w _ none, ?_, fun b hb => ?_, cs, by rw [hlen], hrl⟩
  · have h24 : ¬ (m * ρ.n > 16777216) := by omega
    simp only [execOp, Instr.buildSlice]
    rw [show (parts.toArray.map fun (i, x) => (i, a.eval x)).toList = ps' from hpa]
    have hz' : (zeroValue E).run P w = .ok z w := by simp [zeroValue, typeInfo, hi, hz]
    have hfill' : Instr.fill (fun i => some (i * ρ.n, ρ.n)) (madeCells zs.toArray (m * ρ.n)) ps' = some cs.toArray := by
      simpa using hfill
    have hszE : ∀ w, (Go.sizeOf E).run P w = .ok ρ.n w := fun w => by simp [Go.sizeOf, typeInfo, hi, hsize]
    by_cases h0 : m * ρ.n = 0
    · rw [h0] at hfill'
      simp only [madeCells, Array.range_zero', Array.map_empty] at hfill'
      simp [run_underlying ht, hszE, newRow, newObj, Sem.run, h0, Array.range_zero', hfill']
    · unfold madeCells at hfill'
      simp only [List.size_toArray, List.getElem!_toArray, List.getElem!_eq_getElem?_getD] at hfill'
      simp [run_underlying ht, hszE, h0, h24, hz', hzc, hfill', newRow, newObj, Sem.run]
  · have := World.ownsRow_lit (w := w) (base := w0.heap.size) (e := E) (size := ρ.n) cs.toArray m S.below.size (by unfold maxLen; have := Nat.le_mul_of_pos_right m hn; omega) (by simpa using hcl)
    exact this
  · simp only [Res.fp, Value.ownBlock, Option.some.injEq] at hb
    omega

/-- append of a slice that is only read. -/
theorem rep_appendx {A B : List Res} {t E : TypeId} {i : TypeInfo} {z : Value} {bytes : Nat} {v v' : Value} {cs : List Value} {x y : Operand} {ρ : Rp α} {xs ys : List α} (ht : P.underlying t = some (.slice E)) (hi : P.info? E = some i) (hz : i.zero = some z) (hsize : i.size = ρ.n) (hby : i.bytes = bytes)
    (hzs : z.cells.size = ρ.n) (hk : 0 < ρ.n) (hx : evalO e x = some v) (hy : evalO e y = some v') (r : RL ρ h cs xs) (hv' : (rpS ρ).Is h v' ys) (hlen : xs.length + ys.length < 9223372036854775808) (hb' : (xs.length + ys.length) * bytes ≤ 140737488355328) :
    RepOp P n w0 h0 ⟨ds, .call { callee := .builtin .append, args := #[x, y], argTypes := #[t, t] }, ty, ps, af, gd⟩ e A (.gs E ρ.n v xs.length cs) B h (fun u r' => ∃ cs', r' = .gs E ρ.n u (xs ++ ys).length cs' ∧ RL ρ h cs' (xs ++ ys)) := by
  obtain ⟨cs2, hs, r2⟩ := of_s hv'
  intro a w Ev S
  obtain ⟨u, w', r', h1, h2, h3, h4, h5⟩ := rep_append (A := A) (B := B) (v := v) (cs := cs) (m := xs.length) (ds := ds) (ty := ty) (ps := ps) (af := af) (gd := gd) ht hi hz hsize hby hzs hk hx hy hs (fun u hu => List.all_eq_true.1 r2.one u hu) hlen hb' a w Ev S
  exact ⟨u, w', r', h1, h2, h3, h4, cs ++ cs2, by rw [h5, List.length_append], r.append r2⟩

/-! ### Reading -/
theorem own_sl {E k m : Nat} {v : Value} {cs : List Value} {w : World} (hm : .gs E k v m cs ∈ L) (S : St w0 h0 L h w) : Sl (mem w) k v m cs := by
  obtain ⟨A, B, rfl⟩ := List.append_of_mem hm
  exact own_cell S
theorem osP_eq (k : Nat) (v : Value) (i : Nat) : elemPtr k v i = elemPtr 1 v (i * k) := by
  unfold elemPtr
  rw [Nat.mul_one]
theorem ov_len_os {E k m : Nat} {v : Value} {cs : List Value} {t E' : TypeId} {x : Operand} (hm : .gs E k v m cs ∈ L) (ht : P.underlying t = some (.slice E')) (hx : evalO e x = some v) :
    OpV P n w0 h0 ⟨ds, .call { callee := .builtin .len, args := #[x], argTypes := #[t] }, ty, ps, af, gd⟩ e L h (vI (m : Int)) :=
  fun a w Ev S => ov_len_sl (L := L) (h := h) ht hx (own_sl hm S).one a w Ev S
theorem ov_index_os {E m k : Nat} {cs : List Value} {v : Value} {t E' : TypeId} {x y : Operand} {q : Int} (i : Nat) (hm : .gs E k v m cs ∈ L) (ht : P.underlying t = some (.slice E')) (hsz : ∀ w, (Go.sizeOf E').run P w = .ok k w) (hx : evalO e x = some v) (hy : evalO e y = some (vI q))
    (hq : q = (i : Int)) (hi : i < m) (hk : 0 < k) : OpV P n w0 h0 ⟨ds, .indexAddr t x y, ty, ps, af, gd⟩ e L h (elemPtr 1 v (i * k)) := by
  intro a w Ev S
  have S' : St w (mem w) [] (mem w) w := St.begin (MLe.refl _)
  rw [← osP_eq]
  exact ov_index (n := n) (w0 := w) (h0 := mem w) (L := []) (h := mem w) i ht hsz hx hy (own_sl hm S) hq hi hk a w Ev S'
theorem sl_range {k m o l : Nat} {v : Value} {cs : List Value} {w : World} (s : Sl (mem w) k v m cs) (hl : 0 < l) (ho : o + l ≤ cs.length) : ∃ b o', elemPtr 1 v o = vP b (o' + o) ∧ v = .slice (some ⟨b, o', none⟩) m (match v with | .slice _ _ c => c | _ => 0) ∧ w.rangeAt b (o' + o) ((cs.drop o).take l) := by
  obtain ⟨a, cap, rfl, h1, h2, h3, h4⟩ := s
  obtain ⟨b, o', rfl, _⟩ := h4 o (by omega)
  refine ⟨b, o', by simp [elemPtr, addr_add], rfl, ?_⟩
  intro j u hj
  rw [List.getElem?_take] at hj
  split at hj
  · rw [List.getElem?_drop] at hj
    obtain ⟨hlt, _⟩ := List.getElem?_eq_some_iff.1 hj
    obtain ⟨b2, o2, e2, hc⟩ := h4 _ hlt
    simp only [Option.some.injEq, Addr.mk.injEq, and_true] at e2
    obtain ⟨rfl, rfl⟩ := e2
    rw [hj] at hc
    have := cell_world (MLe.refl _) hc
    rwa [← Nat.add_assoc] at this
  · cases hj
theorem ox_load_os {t E : TypeId} {x : Operand} {k off : Nat} {cs : List Value} {v : Value} {ρ : Rp α} {σ : Rp β} {g : List α → β} {s : List α → β → List α} {xs : List α} {Z : β} (T : TyOk P t σ.n σ.agg) (pc : Pc (rpA xs.length ρ) off σ g s) (ho : k = off) (hp : 0 < σ.n) (hx : evalO e x = some (elemPtr 1 v k)) (r : RL ρ h cs xs) (hZ : g xs = Z) :
    OpX P n w0 h0 ⟨ds, .load t x, ty, ps, af, gd⟩ e [.gs E ρ.n v xs.length cs] h (fun u => σ.Is h u Z) := by
  subst hZ; subst ho
  have h1 := pc.get (h := h) ⟨rfl, r⟩
  have hf : k + σ.n ≤ xs.length * ρ.n := pc.fits
  have hl := r.len
  refine ⟨_, fun L' h' _ hm a w Ev S => ?_, _, h1, rfl⟩
  obtain ⟨b, o', e1, _, hr⟩ := sl_range (own_sl (hm (.gs E ρ.n v xs.length cs) (.head _)) S) hp (show k + σ.n ≤ cs.length by omega)
  rw [e1] at hx
  have := load_run (P := P) (w := w) T h1 hr
  simp [execOp, Ev.eval hx, this]
theorem ov_field_os {t : TypeId} {x : Operand} {f k : Nat} {fs : Array Field} {fl : Field} {m : Nat} {v : Value} {c l : Nat} {a0 : Addr} (hv : v = .slice (some a0) l c) (hs : a0.spot = none) (ht : P.underlying t = some (.struct fs)) (hf : fs[f]? = some fl) (hsz : ∀ w, (Go.sizeOf fl.type).run P w = .ok (m + 1) w) (hx : evalO e x = some (elemPtr 1 v k)) :
    OpV P n w0 h0 ⟨ds, .fieldAddr t x f, ty, ps, af, gd⟩ e L h (elemPtr 1 v (k + fl.offset)) := by
  obtain ⟨b, o, sp⟩ := a0
  simp only at hs
  subst hs; subst hv
  intro a w Ev S
  have e1 : elemPtr 1 (.slice (some ⟨b, o, none⟩) l c) k = vP b (o + k) := by simp [elemPtr, addr_add]
  have e2 : elemPtr 1 (.slice (some ⟨b, o, none⟩) l c) (k + fl.offset) = vP b (o + k + fl.offset) := by simp [elemPtr, addr_add, Nat.add_assoc]
  rw [e1] at hx
  rw [e2]
  exact ov_field_addr ht hf hsz hx a w Ev S

/-! ### Writing -/
theorem owns_setCells {base E k g cap m : Nat} : ∀ (vs : List Value) (off : Nat) (cs : List Value) (w : World), w.ownsRow base E k (.slice (some ⟨g, 0, none⟩) m cap) m cs →
    (w.setCells g off vs).ownsRow base E k (.slice (some ⟨g, 0, none⟩) m cap) m (putAt cs off vs) ∧ w.grownBy (w.setCells g off vs) (some g)
  | [], off, cs, w, hw => ⟨hw, ⟨rfl, rfl, rfl, Nat.le_refl _, fun _ _ _ => rfl⟩⟩
  | v :: r, off, cs, w, hw => by
    obtain ⟨h1, h2⟩ := hw.stored off v
    obtain ⟨h3, h4⟩ := owns_setCells r (off + 1) (cs.set off v) _ h1
    have e1 : putAt cs off (v :: r) = putAt (cs.set off v) (off + 1) r := by
      unfold putAt
      rw [List.zipIdx_cons, List.foldl_cons, Nat.add_zero, List.zipIdx_succ, List.foldl_map]
      congr 1
      funext c p
      rw [show off + (p.2 + 1) = off + 1 + p.2 by omega]
    refine ⟨by rw [World.setCells, e1]; exact h3, ?_⟩
    refine ⟨h4.os.trans h2.os, h4.tape.trans h2.tape, h4.output.trans h2.output, Nat.le_trans h2.size h4.size, ?_⟩
    intro b' hb' hne
    have h5 := h2.block b' hb' hne
    have h6 := h4.block b' (Nat.lt_of_lt_of_le hb' h2.size) hne
    rw [World.setCells, h6, h5]
theorem upd_os {E t : TypeId} {k off : Nat} {cs : List Value} {u v : Value} {x y : Operand} {ρ : Rp α} {σ : Rp β} {g : List α → β} {s : List α → β → List α} {xs Z : List α} {Y : β} (hsz : ∀ w, (Go.sizeOf t).run P w = .ok σ.n w) (pc : Pc (rpA xs.length ρ) off σ g s) (ho : k = off) (hp : 0 < σ.n) (hx : evalO e x = some (elemPtr 1 v k)) (hy : evalO e y = some u) (r : RL ρ h cs xs) (ry : σ.Is h u Y) (hZ : s xs Y = Z) :
    ∃ cs', RL ρ h cs' Z ∧ ∀ A B, Upd P n w0 h0 ⟨ds, .store t x y, ty, ps, af, gd⟩ e A (.gs E ρ.n v xs.length cs) B h (.gs E ρ.n v Z.length cs') := by
  subst hZ; subst ho
  obtain ⟨vs, rv, hv⟩ := ry.cells
  have hl := σ.len rv
  have hlc := r.len
  have hf : k + σ.n ≤ xs.length * ρ.n := pc.fits
  obtain ⟨hZl, hZr⟩ := pc.set (h := h) ⟨rfl, r⟩ rv
  refine ⟨putAt cs k vs, ?_, ?_⟩
  · rw [putAt_eq _ _ _ (by omega), hl]
    exact hZr
  · intro A B a w Ev S
    rw [hZl]
    have hok : w.ownsRow w0.heap.size E ρ.n v xs.length cs := S.ok (.gs E ρ.n v xs.length cs) (by simp)
    have hok' := hok
    obtain ⟨_, hr⟩ := hok
    rcases hr with ⟨rfl, hm0⟩ | ⟨b, cap, cur, rfl, hbg, hg, hnc, hcm, hcs, htake⟩
    · rw [hm0] at hf; omega
    · have hpx : elemPtr 1 (.slice (some ⟨b, 0, none⟩) xs.length cap) k = vP b k := by simp [elemPtr, addr_add]
      rw [hpx] at hx
      obtain ⟨h1, h2⟩ := owns_setCells vs k cs w hok'
      refine ⟨w.setCells b k vs, ?_, h2, h1⟩
      have hrun := run_storeCells_cells (P := P) b k vs 0 w (fun j hj => by
          have h4 := hok'.cellAt (k + j) (by omega)
          rw [List.getElem?_eq_getElem (by omega)] at h4
          simp [h4]) (fun j hj => by simpa using hok'.frozenAt (k + j)) (fun u hu => List.all_eq_true.1 (σ.one rv) u hu)
      simp only [Nat.add_zero] at hrun
      simp [execOp, Ev.eval hx, Ev.eval hy, Instr.storeAt, Instr.sureAddr, storeVar, hsz, hv, hl, hrun]
section
variable {A B : List Res} {op : Op} {E k m : Nat} {v : Value} {cs : List Value} {F : Nat → List Value → Prop}
theorem gl_updos {ops : Array Oper} {rest : List Oper} {m' : Nat} {F : List Value → Prop} (hv : ∃ cs', F cs' ∧ ∀ A B, Upd P n w0 h0 ⟨none, op, ty, ps, af, none⟩ e A (.gs E k v m cs) B h (.gs E k v m' cs'))
    (kk : ∀ cs', F cs' → GL P n w0 h0 ops Q rest e (A ++ .gs E k v m' cs' :: B) h) : GL P n w0 h0 ops Q (⟨none, op, ty, ps, af, none⟩ :: rest) e (A ++ .gs E k v m cs :: B) h := by
  obtain ⟨cs', hF, hu⟩ := hv
  exact gl_upd (hu A B) rfl rfl rfl (kk cs' hF)
theorem w_t_updos {ops : Array Oper} {RR : List Res} {al : Als} {i : Nat} {r : List (Nat × Kd)} {m' : Nat} {F : List Value → Prop} (ho : ops.getD i default = ⟨none, op, ty, ps, af, none⟩) (hv : ∃ cs', F cs' ∧ ∀ A B, Upd P n w0 h0 ⟨none, op, ty, ps, af, none⟩ e A (.gs E k v m cs) B h (.gs E k v m' cs'))
    (kk : ∀ cs', F cs' → W P n w0 h0 ops Q RR al r e (A ++ .gs E k v m' cs' :: B) h) : W P n w0 h0 ops Q RR al ((i, .t) :: r) e (A ++ .gs E k v m cs :: B) h := by
  obtain ⟨cs', hF, hu⟩ := hv
  exact w_t_upd ho (hu A B) rfl (kk cs' hF)
end

/-! ### Freezing -/
theorem St.freezex {A B : List Res} {E : Nat} {v : Value} {cs : List Value} {ρ : Rp α} {xs : List α} {w : World} (r : RL ρ h cs xs) (S : St w0 h0 (A ++ .gs E ρ.n v xs.length cs :: B) h w) : ∃ h', MLe h h' ∧ (rpS ρ).Is h' v xs ∧ St w0 h0 (A ++ B) h' w := by
  have hok := S.ok (.gs E ρ.n v xs.length cs) (by simp)
  have hok' := hok
  obtain ⟨hl, hr⟩ := hok
  rcases hr with ⟨rfl, hm0⟩ | ⟨g, cap, cur, rfl, hb, hg, hn, hm, hcs, ht⟩
  · have hx0 : xs = [] := List.eq_nil_of_length_eq_zero hm0
    subst hx0
    exact ⟨h, MLe.refl h, is_nil h, S.drop⟩
  · obtain ⟨S', hle⟩ := S.freeze (b := g) (o := .cells cur E (0, 0)) rfl hg
    refine ⟨_, hle, is_s ⟨_, cap, rfl, hn, hm, hl, fun i hi => ⟨g, 0, rfl, ?_⟩⟩ (r.mono hle), S'⟩
    unfold cell
    simp only [if_true, Nat.zero_add]
    rw [← ht, List.getElem?_take, if_pos (by omega)]
    simp
section
variable {A B : List Res} {E : Nat} {v : Value} {cs : List Value} {ρ : Rp α} {xs : List α}
theorem gl_freezex {ops : Array Oper} {l : List Oper} (r : RL ρ h cs xs) (k : ∀ h', MLe h h' → (rpS ρ).Is h' v xs → GL P n w0 h0 ops Q l e (A ++ B) h') : GL P n w0 h0 ops Q l e (A ++ .gs E ρ.n v xs.length cs :: B) h := by
  intro a w Ev S
  obtain ⟨h', hle, hs, S'⟩ := S.freezex r
  exact k h' hle hs a w Ev S'
theorem gc_freezex {c : Code} (r : RL ρ h cs xs) (k : ∀ h', MLe h h' → (rpS ρ).Is h' v xs → GC P n w0 h0 c Q e (A ++ B) h') : GC P n w0 h0 c Q e (A ++ .gs E ρ.n v xs.length cs :: B) h := by
  intro a w Ev S
  obtain ⟨h', hle, hs, S'⟩ := S.freezex r
  exact k h' hle hs a w Ev S'
theorem gq_freezex {x : Exit} (r : RL ρ h cs xs) (k : ∀ h', MLe h h' → (rpS ρ).Is h' v xs → GQ n w0 h0 Q x e (A ++ B) h') : GQ n w0 h0 Q x e (A ++ .gs E ρ.n v xs.length cs :: B) h := by
  intro a w Ev S
  obtain ⟨h', hle, hs, S'⟩ := S.freezex r
  exact k h' hle hs a w Ev S'
theorem s_freezex {o : Oper} {ops : Array Oper} {R : List Res} {W' : List (Nat × Value) → List Res → Mem → Prop} (r : RL ρ h cs xs) (hR : ∀ q ∈ R, q ∈ A ++ .gs E ρ.n v xs.length cs :: B → q ∈ A ++ B)
    (k : ∀ h', MLe h h' → (rpS ρ).Is h' v xs → Step P n w0 h0 ops R o e (A ++ B) h' W') : Step P n w0 h0 ops R o e (A ++ .gs E ρ.n v xs.length cs :: B) h W' := by
  intro X a w Ev S
  have S1 : St w0 h0 (A ++ .gs E ρ.n v xs.length cs :: (B ++ X)) h w := by simpa using S
  obtain ⟨h', hle, hs, S'⟩ := S1.freezex r
  have S2 : St w0 h0 ((A ++ B) ++ X) h' w := by simpa using S'
  refine (k h' hle hs X a w Ev S2).mono ?_
  rintro v' w' ⟨hd, L', g, hg, hk, S3, hW⟩
  exact ⟨hd, L', g, hle.trans hg, fun hh q hq => hk (fun y hy => hR y hy (hh y hy)) q hq, S3, hW⟩
end
end
end Bk

namespace Bk
set_option linter.unusedVariables false
set_option linter.unusedSimpArgs false
open Go Go.RowKit

/-- What an operation waits for, as bits. -/
def amask (o : Oper) : Nat := o.after.toList.foldl (fun a e => if Region.binds .any e then a ||| (1 <<< e.on) else a) 0
theorem testBit_bit (k j : Nat) : (1 <<< k).testBit j = decide (j = k) := by
  rw [Nat.one_shiftLeft, Nat.testBit_two_pow]
  exact Bool.eq_iff_iff.2 (by simp [eq_comm])
theorem amask_spec (o : Oper) (k : Nat) : (amask o).testBit k = true ↔ ∃ e ∈ o.after, Region.binds .any e = true ∧ e.on = k := by
  have key : ∀ (l : List Edge) (a : Nat), (l.foldl (fun a e => if Region.binds .any e then a ||| (1 <<< e.on) else a) a).testBit k = true ↔ a.testBit k = true ∨ ∃ e ∈ l, Region.binds .any e = true ∧ e.on = k := by
    intro l
    induction l with
    | nil => intro a; simp
    | cons e l ih =>
      intro a
      rw [List.foldl_cons, ih]
      by_cases hb : Region.binds .any e = true
      · rw [if_pos hb, Nat.testBit_or, testBit_bit]
        simp only [Bool.or_eq_true, decide_eq_true_eq, List.mem_cons, exists_eq_or_imp, hb, true_and, or_assoc]
        constructor
        · rintro (h | h | h)
          · exact .inl h
          · exact .inr (.inl h.symm)
          · exact .inr (.inr h)
        · rintro (h | h | h)
          · exact .inl h
          · exact .inr (.inl h.symm)
          · exact .inr (.inr h)
      · rw [if_neg hb]
        simp only [List.mem_cons, exists_eq_or_imp, hb, false_and, false_or]
        simp
  unfold amask
  rw [key]
  simp
/-- The operations that leave an operation alone, as bits. -/
def fmask (ops : Array Oper) (ams : List Nat) (i : Nat) : Nat := (List.range ops.size).foldl (fun a j => if j == i || (ams.getD j 0).testBit i || (ops.getD i default).apart ops (ops.getD j default) then a ||| (1 <<< j) else a) 0
theorem fmask_spec (ops : Array Oper) (ams : List Nat) (i k : Nat) : (fmask ops ams i).testBit k = true → k < ops.size ∧ (k = i ∨ (ams.getD k 0).testBit i = true ∨ (ops.getD i default).apart ops (ops.getD k default) = true) := by
  have key : ∀ (l : List Nat) (a : Nat), (l.foldl (fun a j => if j == i || (ams.getD j 0).testBit i || (ops.getD i default).apart ops (ops.getD j default) then a ||| (1 <<< j) else a) a).testBit k = true → a.testBit k = true ∨ (k ∈ l ∧ (k = i ∨ (ams.getD k 0).testBit i = true ∨ (ops.getD i default).apart ops (ops.getD k default) = true)) := by
    intro l
    induction l with
    | nil => intro a h; exact .inl h
    | cons j l ih =>
      intro a h
      rw [List.foldl_cons] at h
      rcases ih _ h with h1 | ⟨h1, h2⟩
      · split at h1
        · rename_i hc
          rw [Nat.testBit_or, testBit_bit] at h1
          simp only [Bool.or_eq_true, decide_eq_true_eq] at h1
          rcases h1 with h1 | h1
          · exact .inl h1
          · subst h1
            simp only [Bool.or_eq_true, beq_iff_eq, or_assoc] at hc
            exact .inr ⟨.head _, hc⟩
        · exact .inl h1
      · exact .inr ⟨.tail _ h1, h2⟩
  intro h
  rcases key _ _ h with h1 | ⟨h1, h2⟩
  · simp at h1
  · exact ⟨List.mem_range.1 h1, h2⟩

def readyAt (ams : List Nat) (x i : Nat) : Bool := !x.testBit i && (ams.getD i 0 &&& x == ams.getD i 0)
def readyF (ams : List Nat) (n x : Nat) : List Nat := (List.range n).filter (readyAt ams x)
/-- The bits of a list. -/
def bitsOf (x : Nat) (l : List Nat) : Nat := l.foldl (fun x i => x ||| (1 <<< i)) x

def chkF (ops : Array Oper) (n m : Nat) (ams frs : List Nat) : List (Nat × Kd) → Nat → List Nat → Bool
  | [], x, pend => pend.isEmpty && (readyF ams n x).isEmpty
  | (i, .q) :: r, x, pend => decide (i < m) && decide (i < n) && readyAt ams x i && ((frs.getD i 0 ||| x) &&& (1 <<< n - 1) == 1 <<< n - 1) && !pend.contains i &&
      ((List.range n).all fun k => decide (k < m) || (ams.getD k 0).testBit i || waits ops k i) && chkF ops n m ams frs r (x ||| (1 <<< i)) pend
  | (i, .a) :: r, x, pend => pend.contains i && (readyF ams n (bitsOf x (pend.filter (· != i))) == [i]) && chkF ops n m ams frs r (x ||| (1 <<< i)) (pend.filter (· != i))
  | (i, .c) :: r, x, pend => decide (i < m) && !pend.contains i && (readyF ams n (bitsOf x pend) == [i]) && chkF ops n m ams frs r (x ||| (1 <<< i)) pend
  | (i, .b j) :: r, x, pend => decide (i < m) && decide (j < m) && !pend.contains i && !pend.contains j && decide (i ≠ j) && (readyF ams n (bitsOf x pend) == [i, j]) &&
      (readyF ams n (bitsOf (x ||| (1 <<< i)) pend) == [j]) && (readyF ams n (bitsOf (x ||| (1 <<< j)) pend) == [i]) && chkF ops n m ams frs r ((x ||| (1 <<< i)) ||| (1 <<< j)) pend
  | (i, .t) :: r, x, pend => pend.isEmpty && (r.all fun y => match y.2 with | .t => true | _ => false) && decide (m ≤ i) && (readyF ams n x == [i]) && chkF ops n m ams frs r (x ||| (1 <<< i)) []
  | (i, .p) :: r, x, pend => decide (i < m) && decide (i < n) && readyAt ams x i && ((frs.getD i 0 ||| x) &&& (1 <<< n - 1) == 1 <<< n - 1) && !pend.contains i && chkF ops n m ams frs r (x ||| (1 <<< i)) pend

section
variable {ops : Array Oper} {ams frs : List Nat}
/-- A set of operations, in both forms. -/
def SetR (ops : Array Oper) (b : Array Bool) (x : Nat) : Prop := b.size = ops.size ∧ ∀ i, i < ops.size → b[i]? = some (x.testBit i)
theorem SetR.getF {b : Array Bool} {x : Nat} (h : SetR ops b x) {i : Nat} (hi : i < ops.size) (d : Bool) : b.getD i d = x.testBit i := by
  rw [Array.getD_eq_getD_getElem?, h.2 i hi]; rfl
theorem SetR.set {b : Array Bool} {x : Nat} (h : SetR ops b x) (i : Nat) : SetR ops (b.setIfInBounds i true) (x ||| (1 <<< i)) := by
  refine ⟨by simpa using h.1, fun k hk => ?_⟩
  rw [Nat.testBit_or, testBit_bit, Array.getElem?_setIfInBounds]
  by_cases e : i = k
  · subst e
    have : i < b.size := by rw [h.1]; exact hk
    simp [this]
  · rw [if_neg e, h.2 k hk]
    simp [Ne.symm e]
theorem SetR.setAll {b : Array Bool} {x : Nat} (h : SetR ops b x) : ∀ (l : List Nat), SetR ops (setAll b l) (bitsOf x l) := by
  intro l
  induction l generalizing b x with
  | nil => exact h
  | cons i l ih => exact ih (h.set i)
theorem SetR.start : SetR ops (Array.replicate ops.size false) 0 := ⟨by simp, fun i hi => by simp [hi]⟩

/-- The tables are right. -/
def TabOk (ops : Array Oper) (ams frs : List Nat) : Bool := (ops.toList.map amask == ams) && ((List.range ops.size).map (fmask ops ams) == frs)
theorem tab_am (h : TabOk ops ams frs = true) {i : Nat} (hi : i < ops.size) : ams.getD i 0 = amask (ops.getD i default) := by
  simp only [TabOk, Bool.and_eq_true, beq_iff_eq] at h
  rw [← h.1, List.getD_eq_getElem?_getD, List.getElem?_map, Array.getElem?_toList, Array.getD_eq_getD_getElem?]
  simp [hi]
theorem tab_fr (h : TabOk ops ams frs = true) {i : Nat} (hi : i < ops.size) : frs.getD i 0 = fmask ops ams i := by
  simp only [TabOk, Bool.and_eq_true, beq_iff_eq] at h
  rw [← h.2, List.getD_eq_getElem?_getD, List.getElem?_map]
  simp [hi]
theorem on_lt (hl : ∀ o ∈ ops, ∀ e ∈ o.after, e.on < ops.size) {i : Nat} (hi : i < ops.size) {e : Edge} (he : e ∈ (ops.getD i default).after) : e.on < ops.size := by
  refine hl _ ?_ e he
  rw [Array.getD_eq_getD_getElem?, Array.getElem?_eq_getElem hi]
  exact Array.getElem_mem hi
theorem readyAt_eq (ht : TabOk ops ams frs = true) (hl : ∀ o ∈ ops, ∀ e ∈ o.after, e.on < ops.size) {b : Array Bool} {x i : Nat} (hs : SetR ops b x) (hi : i < ops.size) :
    readyAt ams x i = (!b.getD i true && ((ops[i]?).map (·.after.all fun e => !Region.binds .any e || b.getD e.on false)).getD false) := by
  unfold readyAt
  rw [hs.getF hi, tab_am ht hi]
  congr 1
  have ho : ops[i]? = some (ops.getD i default) := getOp hi
  rw [ho]
  simp only [Option.map_some, Option.getD_some]
  rw [Bool.eq_iff_iff, beq_iff_eq, Array.all_eq_true_iff_forall_mem]
  constructor
  · intro h e he
    by_cases hb : Region.binds .any e = true
    · have h1 := (amask_spec (ops.getD i default) e.on).2 ⟨e, he, hb, rfl⟩
      rw [← h, Nat.testBit_and, Bool.and_eq_true] at h1
      rw [hs.getF (on_lt hl hi he), h1.2]
      simp
    · simp [hb]
  · intro h
    apply Nat.eq_of_testBit_eq
    intro k
    rw [Nat.testBit_and]
    by_cases hk : (amask (ops.getD i default)).testBit k = true
    · obtain ⟨e, he, hb, rfl⟩ := (amask_spec _ _).1 hk
      have h1 := h e he
      rw [hb, hs.getF (on_lt hl hi he)] at h1
      simp at h1
      rw [hk, h1]; rfl
    · have : (amask (ops.getD i default)).testBit k = false := by simpa using hk
      rw [this]; rfl
theorem readyF_eq (ht : TabOk ops ams frs = true) (hl : ∀ o ∈ ops, ∀ e ∈ o.after, e.on < ops.size) {b : Array Bool} {x : Nat} (hs : SetR ops b x) : Region.ready .any ops b = readyF ams ops.size x := by
  unfold Region.ready readyF
  apply List.filter_congr
  intro i hi
  exact (readyAt_eq ht hl hs (List.mem_range.1 hi)).symm
theorem ready_contains (ht : TabOk ops ams frs = true) (hl : ∀ o ∈ ops, ∀ e ∈ o.after, e.on < ops.size) {b : Array Bool} {x i : Nat} (hs : SetR ops b x) (hi : i < ops.size) (h : readyAt ams x i = true) : (Region.ready .any ops b).contains i = true := by
  rw [readyF_eq ht hl hs]
  unfold readyF
  simp [hi, h]
theorem mask_full {y n k : Nat} (h : y &&& (1 <<< n - 1) = 1 <<< n - 1) (hk : k < n) : y.testBit k = true := by
  have h1 : (1 <<< n - 1).testBit k = true := by rw [Nat.one_shiftLeft, Nat.testBit_two_pow_sub_one]; simpa using hk
  rw [← h, Nat.testBit_and, Bool.and_eq_true] at h1
  exact h1.1
theorem free_of (ht : TabOk ops ams frs = true) {b : Array Bool} {x i : Nat} (hs : SetR ops b x) (hi : i < ops.size) (h : (frs.getD i 0 ||| x) &&& (1 <<< ops.size - 1) = 1 <<< ops.size - 1) : Region.free .any ops b i = true := by
  unfold Region.free
  rw [getOp hi]
  simp only [List.all_eq_true, List.mem_range]
  intro j hj
  have h1 := mask_full h hj
  rw [Nat.testBit_or, Bool.or_eq_true, tab_fr ht hi] at h1
  rw [getOp hj, hs.getF hj]
  simp only [Bool.or_eq_true, beq_iff_eq]
  rcases h1 with h1 | h1
  · obtain ⟨_, h2 | h2 | h2⟩ := fmask_spec _ _ _ _ h1
    · exact .inl (.inl h2)
    · rw [tab_am ht hj] at h2
      obtain ⟨e, he, hb, ho⟩ := (amask_spec _ _).1 h2
      refine .inr (.inl ?_)
      rw [Array.any_eq_true']
      exact ⟨e, he, by simp [hb, ho]⟩
    · exact .inr (.inr h2)
  · exact .inl (.inr h1)
theorem waits_of (ht : TabOk ops ams frs = true) {k i : Nat} (hk : k < ops.size) (h : (ams.getD k 0).testBit i = true) : waits ops k i = true := by
  rw [tab_am ht hk] at h
  obtain ⟨e, he, hb, ho⟩ := (amask_spec _ _).1 h
  unfold waits
  rw [Array.any_eq_true']
  refine ⟨e, he, ?_⟩
  rw [hb, ho]
  simp [waitsF]
theorem chkF_ok (ht : TabOk ops ams frs = true) (hl : ∀ o ∈ ops, ∀ e ∈ o.after, e.on < ops.size) {m : Nat} : ∀ (ord : List (Nat × Kd)) (b : Array Bool) (x : Nat) (pend : List Nat), SetR ops b x → chkF ops ops.size m ams frs ord x pend = true → chk ops m ord b pend = true
  | [], b, x, pend, hs, h => by
    simp only [chkF, Bool.and_eq_true] at h
    simp only [chk, Bool.and_eq_true, readyF_eq ht hl hs]
    exact h
  | (i, .q) :: r, b, x, pend, hs, h => by
    simp only [chkF, Bool.and_eq_true, beq_iff_eq, decide_eq_true_eq] at h
    obtain ⟨⟨⟨⟨⟨⟨h1, h2⟩, h3⟩, h4⟩, h5⟩, h6⟩, h7⟩ := h
    simp only [chk, Bool.and_eq_true, decide_eq_true_eq]
    refine ⟨⟨⟨⟨⟨h1, ready_contains ht hl hs h2 h3⟩, free_of ht hs h2 h4⟩, h5⟩, ?_⟩, chkF_ok ht hl r _ _ _ (hs.set i) h7⟩
    rw [List.all_eq_true] at h6 ⊢
    intro k hk
    have := h6 k hk
    simp only [Bool.or_eq_true] at this ⊢
    rcases this with (h8 | h8) | h8
    · exact .inl h8
    · exact .inr (waits_of ht (List.mem_range.1 hk) h8)
    · exact .inr h8
  | (i, .a) :: r, b, x, pend, hs, h => by
    simp only [chkF, Bool.and_eq_true] at h
    obtain ⟨⟨h1, h2⟩, h3⟩ := h
    simp only [chk, Bool.and_eq_true, readyF_eq ht hl (hs.setAll _)]
    exact ⟨⟨h1, h2⟩, chkF_ok ht hl r _ _ _ (hs.set i) h3⟩
  | (i, .c) :: r, b, x, pend, hs, h => by
    simp only [chkF, Bool.and_eq_true] at h
    obtain ⟨⟨⟨h1, h2⟩, h3⟩, h4⟩ := h
    simp only [chk, Bool.and_eq_true, readyF_eq ht hl (hs.setAll _)]
    exact ⟨⟨⟨h1, h2⟩, h3⟩, chkF_ok ht hl r _ _ _ (hs.set i) h4⟩
  | (i, .b j) :: r, b, x, pend, hs, h => by
    simp only [chkF, Bool.and_eq_true] at h
    obtain ⟨⟨⟨⟨⟨⟨⟨⟨h1, h2⟩, h3⟩, h4⟩, h5⟩, h6⟩, h7⟩, h8⟩, h9⟩ := h
    simp only [chk, Bool.and_eq_true, readyF_eq ht hl (hs.setAll _), readyF_eq ht hl ((hs.set i).setAll _), readyF_eq ht hl ((hs.set j).setAll _)]
    exact ⟨⟨⟨⟨⟨⟨⟨⟨h1, h2⟩, h3⟩, h4⟩, h5⟩, h6⟩, h7⟩, h8⟩, chkF_ok ht hl r _ _ _ ((hs.set i).set j) h9⟩
  | (i, .t) :: r, b, x, pend, hs, h => by
    simp only [chkF, Bool.and_eq_true] at h
    obtain ⟨⟨⟨⟨h1, h2⟩, h3⟩, h4⟩, h5⟩ := h
    simp only [chk, Bool.and_eq_true, readyF_eq ht hl hs]
    exact ⟨⟨⟨⟨h1, h2⟩, h3⟩, h4⟩, chkF_ok ht hl r _ _ _ (hs.set i) h5⟩
  | (i, .p) :: r, b, x, pend, hs, h => by
    simp only [chkF, Bool.and_eq_true, beq_iff_eq, decide_eq_true_eq] at h
    obtain ⟨⟨⟨⟨⟨h1, h2⟩, h3⟩, h4⟩, h5⟩, h7⟩ := h
    simp only [chk, Bool.and_eq_true, decide_eq_true_eq]
    exact ⟨⟨⟨⟨h1, ready_contains ht hl hs h2 h3⟩, free_of ht hs h2 h4⟩, h5⟩, chkF_ok ht hl r _ _ _ (hs.set i) h7⟩
/-- The whole check. -/
def chkAll (l : List Oper) (m : Nat) (ams frs : List Nat) (al : Als) (ord : List (Nat × Kd)) : Bool :=
  Region.noSelect l.toArray && chkAl l.toArray al && (al.all fun x => decide (x.1 < m)) && (l.all fun o => o.after.all fun e => decide (e.on < l.length)) && TabOk l.toArray ams frs && chkF l.toArray l.length m ams frs ord 0 (al.map (·.1))
theorem chk_of {l : List Oper} {m : Nat} {al : Als} {ord : List (Nat × Kd)} (ams frs : List Nat) (h : chkAll l m ams frs al ord = true) :
    (Region.noSelect l.toArray && chkAl l.toArray al && (al.all fun x => decide (x.1 < m)) && chk l.toArray m ord (Array.replicate l.length false) (al.map (·.1))) = true := by
  simp only [chkAll, Bool.and_eq_true] at h
  obtain ⟨⟨⟨⟨⟨h1, h2⟩, h3⟩, h4⟩, h5⟩, h6⟩ := h
  simp only [Bool.and_eq_true]
  refine ⟨⟨⟨h1, h2⟩, h3⟩, ?_⟩
  have hl : ∀ o ∈ l.toArray, ∀ e ∈ o.after, e.on < l.toArray.size := by
    intro o ho e he
    have := List.all_eq_true.1 h4 o (by simpa using ho)
    have := Array.all_eq_true_iff_forall_mem.1 this e he
    simpa using this
  exact chkF_ok h5 hl ord _ 0 _ SetR.start h6
end
end Bk

namespace Go.Proofs.Ytfpjclgbieppeaa
open Bk Go
theorem ty2 : TyOk Try.prog 2 1 false := ⟨Try.sizeOf2, Try.isAgg2⟩
theorem ty3 : TyOk Try.prog 3 1 false := ⟨Try.sizeOf3, Try.isAgg3⟩
theorem ty4 : TyOk Try.prog 4 1 false := ⟨Try.sizeOf4, Try.isAgg4⟩
theorem ty9 : TyOk Try.prog 9 1 false := ⟨Try.sizeOf9, Try.isAgg9⟩
theorem ty22 : TyOk Try.prog 22 1 false := ⟨Try.sizeOf22, Try.isAgg22⟩
theorem ty27 : TyOk Try.prog 27 1 false := ⟨Try.sizeOf27, Try.isAgg27⟩
theorem ty28 : TyOk Try.prog 28 3 true := ⟨Try.sizeOf28, Try.isAgg28⟩
theorem ty29 : TyOk Try.prog 29 3 true := ⟨Try.sizeOf29, Try.isAgg29⟩
theorem ty30 : TyOk Try.prog 30 9 true := ⟨Try.sizeOf30, Try.isAgg30⟩
theorem ty31 : TyOk Try.prog 31 9 true := ⟨Try.sizeOf31, Try.isAgg31⟩
theorem ty38 : TyOk Try.prog 38 1 false := ⟨Try.sizeOf38, Try.isAgg38⟩
theorem ty45 : TyOk Try.prog 45 12 true := ⟨Try.sizeOf45, Try.isAgg45⟩
theorem ty46 : TyOk Try.prog 46 12 true := ⟨Try.sizeOf46, Try.isAgg46⟩
theorem ty58 : TyOk Try.prog 58 2 true := ⟨Try.sizeOf58, Try.isAgg58⟩
theorem ty59 : TyOk Try.prog 59 2 true := ⟨Try.sizeOf59, Try.isAgg59⟩
theorem ty69 : TyOk Try.prog 69 2 true := ⟨Try.sizeOf69, Try.isAgg69⟩
theorem ty70 : TyOk Try.prog 70 16 true := ⟨Try.sizeOf70, Try.isAgg70⟩
theorem ty76 : TyOk Try.prog 76 3 true := ⟨Try.sizeOf76, Try.isAgg76⟩
theorem ty77 : TyOk Try.prog 77 21 true := ⟨Try.sizeOf77, Try.isAgg77⟩
theorem ty94 : TyOk Try.prog 94 1 false := ⟨Try.sizeOf94, Try.isAgg94⟩
end Go.Proofs.Ytfpjclgbieppeaa

namespace Go.Proofs.Ytfpjclgbieppeaa
open Bk Go
set_option linter.unusedVariables false
set_option linter.unusedSimpArgs false
set_option maxRecDepth 10000

theorem o_rat_add {w0 : World} {h0 : Mem} (hs : MLe h0 (mem w0)) {k l : Nat} {va : Value} {a : Rat} (ra : (rpQ k).Is h0 va a) {vb : Value} {b : Rat} (rb : (rpQ l).Is h0 vb b) (hcd0 : k + l ≤ 10000000000)  :
    Calls Try.prog 58 #[va, vb] w0 (Ret w0 h0 (fun h r => (rpQ (k + l + 1)).Is h r (a + b))) := by
  obtain ⟨vna, vda, rfl, hna, hda, hla⟩ := open_q ra
  obtain ⟨vnb, vdb, rfl, hnb, hdb, hlb⟩ := open_q rb
  exact (rat_add hs hna hda hnb hdb (by omega) (by omega) ).mono (ret_imp fun h r x => is_q x (by have := lq_add a b; omega))

theorem o_rat_sub {w0 : World} {h0 : Mem} (hs : MLe h0 (mem w0)) {k l : Nat} {va : Value} {a : Rat} (ra : (rpQ k).Is h0 va a) {vb : Value} {b : Rat} (rb : (rpQ l).Is h0 vb b) (hcd0 : k + l ≤ 10000000000)  :
    Calls Try.prog 57 #[va, vb] w0 (Ret w0 h0 (fun h r => (rpQ (k + l + 1)).Is h r (a - b))) := by
  obtain ⟨vna, vda, rfl, hna, hda, hla⟩ := open_q ra
  obtain ⟨vnb, vdb, rfl, hnb, hdb, hlb⟩ := open_q rb
  exact (rat_sub hs hna hda hnb hdb (by omega) (by omega) ).mono (ret_imp fun h r x => is_q x (by have := lq_sub a b; omega))

theorem o_rat_mul {w0 : World} {h0 : Mem} (hs : MLe h0 (mem w0)) {k l : Nat} {va : Value} {a : Rat} (ra : (rpQ k).Is h0 va a) {vb : Value} {b : Rat} (rb : (rpQ l).Is h0 vb b) (hcd0 : k + l ≤ 10000000000)  :
    Calls Try.prog 59 #[va, vb] w0 (Ret w0 h0 (fun h r => (rpQ (k + l)).Is h r (a * b))) := by
  obtain ⟨vna, vda, rfl, hna, hda, hla⟩ := open_q ra
  obtain ⟨vnb, vdb, rfl, hnb, hdb, hlb⟩ := open_q rb
  exact (rat_mul hs hna hda hnb hdb (by omega) (by omega) ).mono (ret_imp fun h r x => is_q x (by have := lq_mul a b; omega))

theorem o_rat_cmp {w0 : World} {h0 : Mem} (hs : MLe h0 (mem w0)) {k l : Nat} {va : Value} {a : Rat} (ra : (rpQ k).Is h0 va a) {vb : Value} {b : Rat} (rb : (rpQ l).Is h0 vb b) (hcd0 : k + l ≤ 10000000000)  :
    Calls Try.prog 78 #[va, vb] w0 (Ret w0 h0 (fun _ r => r = vI (cmpQ a b))) := by
  obtain ⟨vna, vda, rfl, hna, hda, hla⟩ := open_q ra
  obtain ⟨vnb, vdb, rfl, hnb, hdb, hlb⟩ := open_q rb
  exact rat_cmp hs hna hda hnb hdb (by omega) (by omega) 

theorem o_rat_sign {w0 : World} {h0 : Mem} (hs : MLe h0 (mem w0)) {k : Nat} {va : Value} {a : Rat} (ra : (rpQ k).Is h0 va a) (hcd0 : k ≤ 10000000000)  :
    Calls Try.prog 79 #[va] w0 (Ret w0 h0 (fun _ r => r = vI (sgnQ a))) := by
  obtain ⟨vna, vda, rfl, hna, hda, hla⟩ := open_q ra
  exact rat_sign hs hna hda (by omega) 

theorem o_rat_quo {w0 : World} {h0 : Mem} (hs : MLe h0 (mem w0)) {k l : Nat} {va : Value} {a : Rat} (ra : (rpQ k).Is h0 va a) {vb : Value} {b : Rat} (rb : (rpQ l).Is h0 vb b) (hcd0 : k + l ≤ 10000000000)  :
    Calls Try.prog 60 #[va, vb] w0 (Ret w0 h0 (fun h r => ∃ u0, r = .tuple #[u0, vI (if b = 0 then 3 else 0)] ∧ (rpQ (k + l)).Is h u0 (if b = 0 then 0 else a / b))) := by
  obtain ⟨vna, vda, rfl, hna, hda, hla⟩ := open_q ra
  obtain ⟨vnb, vdb, rfl, hnb, hdb, hlb⟩ := open_q rb
  exact (rat_quo hs hna hda hnb hdb (by omega) (by omega) ).mono (ret_imp fun h r x => by obtain ⟨u, e, y⟩ := x; exact ⟨u, e, is_q y (by have := lq_quo' a b; omega)⟩)

theorem o_rref_add {w0 : World} {h0 : Mem} (hs : MLe h0 (mem w0)) {k l : Nat} {va : Value} {a : Rat} (ra : (rpQ k).Is h0 va a) {vb : Value} {b : Rat} (rb : (rpQ l).Is h0 vb b) (hcd0 : k + l ≤ 10000000000)  :
    Calls Try.prog 40 #[va, vb] w0 (Ret w0 h0 (fun h r => (rpQ (k + l + 1)).Is h r (a + b))) := by
  obtain ⟨vna, vda, rfl, hna, hda, hla⟩ := open_q ra
  obtain ⟨vnb, vdb, rfl, hnb, hdb, hlb⟩ := open_q rb
  exact (rref_add hs hna hda hnb hdb (by omega) (by omega) ).mono (ret_imp fun h r x => is_q x (by have := lq_add a b; omega))

theorem o_rref_sub {w0 : World} {h0 : Mem} (hs : MLe h0 (mem w0)) {k l : Nat} {va : Value} {a : Rat} (ra : (rpQ k).Is h0 va a) {vb : Value} {b : Rat} (rb : (rpQ l).Is h0 vb b) (hcd0 : k + l ≤ 10000000000)  :
    Calls Try.prog 43 #[va, vb] w0 (Ret w0 h0 (fun h r => (rpQ (k + l + 1)).Is h r (a - b))) := by
  obtain ⟨vna, vda, rfl, hna, hda, hla⟩ := open_q ra
  obtain ⟨vnb, vdb, rfl, hnb, hdb, hlb⟩ := open_q rb
  exact (rref_sub hs hna hda hnb hdb (by omega) (by omega) ).mono (ret_imp fun h r x => is_q x (by have := lq_sub a b; omega))

theorem o_rref_mul {w0 : World} {h0 : Mem} (hs : MLe h0 (mem w0)) {k l : Nat} {va : Value} {a : Rat} (ra : (rpQ k).Is h0 va a) {vb : Value} {b : Rat} (rb : (rpQ l).Is h0 vb b) (hcd0 : k + l ≤ 10000000000)  :
    Calls Try.prog 41 #[va, vb] w0 (Ret w0 h0 (fun h r => (rpQ (k + l)).Is h r (a * b))) := by
  obtain ⟨vna, vda, rfl, hna, hda, hla⟩ := open_q ra
  obtain ⟨vnb, vdb, rfl, hnb, hdb, hlb⟩ := open_q rb
  exact (rref_mul hs hna hda hnb hdb (by omega) (by omega) ).mono (ret_imp fun h r x => is_q x (by have := lq_mul a b; omega))

theorem o_rref_cmp {w0 : World} {h0 : Mem} (hs : MLe h0 (mem w0)) {k l : Nat} {va : Value} {a : Rat} (ra : (rpQ k).Is h0 va a) {vb : Value} {b : Rat} (rb : (rpQ l).Is h0 vb b) (hcd0 : k + l ≤ 10000000000)  :
    Calls Try.prog 73 #[va, vb] w0 (Ret w0 h0 (fun _ r => r = vI (cmpQ a b))) := by
  obtain ⟨vna, vda, rfl, hna, hda, hla⟩ := open_q ra
  obtain ⟨vnb, vdb, rfl, hnb, hdb, hlb⟩ := open_q rb
  exact rref_cmp hs hna hda hnb hdb (by omega) (by omega) 

theorem o_rref_sign {w0 : World} {h0 : Mem} (hs : MLe h0 (mem w0)) {k : Nat} {va : Value} {a : Rat} (ra : (rpQ k).Is h0 va a) (hcd0 : k ≤ 10000000000)  :
    Calls Try.prog 34 #[va] w0 (Ret w0 h0 (fun _ r => r = vI (sgnQ a))) := by
  obtain ⟨vna, vda, rfl, hna, hda, hla⟩ := open_q ra
  exact rref_sign hs hna hda (by omega) 

theorem o_rref_same {w0 : World} {h0 : Mem} (hs : MLe h0 (mem w0)) {k l : Nat} {va : Value} {a : Rat} (ra : (rpQ k).Is h0 va a) {vb : Value} {b : Rat} (rb : (rpQ l).Is h0 vb b) (hcd0 : k + l ≤ 10000000000)  :
    Calls Try.prog 19 #[va, vb] w0 (Ret w0 h0 (fun _ r => r = vB (a = b))) := by
  obtain ⟨vna, vda, rfl, hna, hda, hla⟩ := open_q ra
  obtain ⟨vnb, vdb, rfl, hnb, hdb, hlb⟩ := open_q rb
  exact rref_same hs hna hda hnb hdb (by omega) (by omega) 

theorem o_rref_quo {w0 : World} {h0 : Mem} (hs : MLe h0 (mem w0)) {k l : Nat} {va : Value} {a : Rat} (ra : (rpQ k).Is h0 va a) {vb : Value} {b : Rat} (rb : (rpQ l).Is h0 vb b) (hcd0 : k + l ≤ 10000000000)  :
    Calls Try.prog 63 #[va, vb] w0 (Ret w0 h0 (fun h r => ∃ u0, r = .tuple #[u0, vI (if b = 0 then 3 else 0)] ∧ (rpQ (k + l)).Is h u0 (if b = 0 then 0 else a / b))) := by
  obtain ⟨vna, vda, rfl, hna, hda, hla⟩ := open_q ra
  obtain ⟨vnb, vdb, rfl, hnb, hdb, hlb⟩ := open_q rb
  exact (rref_quo hs hna hda hnb hdb (by omega) (by omega) ).mono (ret_imp fun h r x => by obtain ⟨u, e, y⟩ := x; exact ⟨u, e, is_q y (by have := lq_quo' a b; omega)⟩)

theorem o_rref_neg {w0 : World} {h0 : Mem} (hs : MLe h0 (mem w0)) {k : Nat} {va : Value} {a : Rat} (ra : (rpQ k).Is h0 va a) (hcd0 : k ≤ 10000000000)  :
    Calls Try.prog 23 #[va] w0 (Ret w0 h0 (fun h r => (rpQ k).Is h r (-a))) := by
  obtain ⟨vna, vda, rfl, hna, hda, hla⟩ := open_q ra
  exact (rref_neg hs hna hda (by omega) ).mono (ret_imp fun h r x => is_q x (by have := lq_neg a; omega))

theorem o_rref_int {w0 : World} {h0 : Mem} (hs : MLe h0 (mem w0)) {n : Int} (hn1 : -9223372036854775808 ≤ n) (hn2 : n < 9223372036854775808)  :
    Calls Try.prog 37 #[vI n] w0 (Ret w0 h0 (fun h r => (rpQ 2).Is h r (n : Rat))) := by
  exact (rref_int hs   hn1 hn2).mono (ret_imp fun h r x => is_q x (by exact lq_int n hn1 hn2))

theorem o_rref_frac {w0 : World} {h0 : Mem} (hs : MLe h0 (mem w0)) {n : Int} (hn1 : -9223372036854775808 ≤ n) (hn2 : n < 9223372036854775808) {d : Int} (hd1 : -9223372036854775808 ≤ d) (hd2 : d < 9223372036854775808)  :
    Calls Try.prog 14 #[vI n, vI d] w0 (Ret w0 h0 (fun h r => (rpQ 2).Is h r (makeQ n d))) := by
  exact (rref_frac hs   hn1 hn2 hd1 hd2).mono (ret_imp fun h r x => is_q x (by exact lq_make hn1 hn2 hd1 hd2))

end Go.Proofs.Ytfpjclgbieppeaa

namespace Bk
set_option linter.unusedVariables false
set_option linter.unusedSimpArgs false
open Go Go.RowKit
open Classical

theorem bitsQ_le {q : Rat} (h : lq q ≤ 64) : bitsQ q ≤ 2048 := by
  have h1 := bits_len q.num.natAbs
  have h2 := bits_len q.den
  have h3 := lq_num q
  have h4 := lq_den q
  unfold bitsQ
  omega
theorem txt_head (n : Nat) (rest : List Nat) : (txt n ++ rest).getD 0 0 ≠ 45 ∧ (0 : Nat) < (txt n ++ rest).length := by
  have h1 := txt_ne n
  have h2 := digB_get (digB_txt n) (i := 0) h1
  have h3 : (txt n ++ rest).getD 0 0 = (txt n).getD 0 0 := by
    rw [List.getD_eq_getElem?_getD, List.getD_eq_getElem?_getD, List.getElem?_append_left h1]
  rw [h3, List.length_append]
  omega
theorem fin2_txt {s : Prop} {n : Nat} {t : List Nat} (ht : t = [] ∨ ∃ d, d ≠ 0 ∧ t = 47 :: txt d) : fin2 s (txt n ++ t) = fin4 s n (if t = [] then 1 else hor (t.drop 1)) := by
  have hd : digs (txt n ++ t) = (txt n).length := by
    rw [digs_app (digB_txt n)]
    rcases ht with h | ⟨d, _, h⟩
    · rw [h]; rfl
    · rw [h]; rfl
  have h0 : digs (txt n ++ t) ≠ 0 := by have := txt_ne n; omega
  have hr : t = (txt n ++ t).drop (digs (txt n ++ t)) := by rw [hd, List.drop_left]
  have ht2 : (txt n ++ t).take (digs (txt n ++ t)) = txt n := by rw [hd, List.take_left]
  rcases ht with h | ⟨d, hd0, h⟩
  · rw [if_pos h, fin2_plain h0 hr (fun e => e.1 h) (fun e => e.1 h), ht2, hor_txt, h, fin3_nil]
  · have hs : slash t := by rw [h]; exact ⟨by simp, rfl⟩
    have h1 : t.drop 1 = txt d := by rw [h]; rfl
    have h2 : ¬ (t.drop 1 = [] ∨ digs (t.drop 1) ≠ (t.drop 1).length) := by
      rw [h1]
      rintro (e | e)
      · have := txt_ne d; rw [e] at this; simp at this
      · exact e (digs_all.2 (digB_txt d))
    rw [if_neg (by rw [h]; simp), fin2_slash h0 hr hs h2 (by rw [h1, hor_txt]; exact hd0), ht2, hor_txt, fin3_nil]
theorem par_txt {q : Rat} (h : lq q ≤ 60) : parQ (txtQ q) = (0, q) := by
  have hl := txtQ_len q
  rw [parQ_fin (by omega)]
  have hT : ∃ t, txtQ q = (if q.num < 0 then [45] else []) ++ (txt q.num.natAbs ++ t) ∧ (t = [] ∨ ∃ d, d ≠ 0 ∧ t = 47 :: txt d) ∧ (if t = [] then 1 else hor (t.drop 1)) = q.den := by
    unfold txtQ
    by_cases h1 : q.den = 1
    · refine ⟨[], ?_, .inl rfl, by rw [if_pos rfl, h1]⟩
      rw [if_pos (show denN q.den = 0 by rw [h1]; rfl)]
      simp
    · refine ⟨47 :: txt q.den, ?_, .inr ⟨q.den, q.den_nz, rfl⟩, ?_⟩
      · rw [denN_ne h1, if_neg q.den_nz]
        simp
      · rw [if_neg (by simp)]
        exact hor_txt q.den
  obtain ⟨t, h1, h2, h3⟩ := hT
  have hn : parNeg (txtQ q) ↔ q.num < 0 := by
    rw [h1]
    by_cases hs : q.num < 0
    · rw [if_pos hs]
      exact ⟨fun _ => hs, fun _ => ⟨by simp; omega, rfl⟩⟩
    · rw [if_neg hs]
      exact ⟨fun e => absurd e.2 (txt_head _ _).1, fun e => absurd e hs⟩
  have hb : parBody (txtQ q) = txt q.num.natAbs ++ t := by
    by_cases hs : q.num < 0
    · rw [parBody_t (hn.2 hs), h1, if_pos hs]; rfl
    · rw [parBody_f (fun e => hs (hn.1 e)), h1, if_neg hs]; rfl
  rw [hb, propext hn, fin2_txt h2, h3]
  have hq : mkRat (sg (q.num < 0) q.num.natAbs) q.den = q := mk_self q
  rw [fin4_ok (by rw [hq]; have := bitsQ_le (q := q) (by omega); omega), hq]

/-! the examples -/
theorem txt_dig {n : Nat} (h0 : n ≠ 0) (h : n < 10) : txt n = [48 + n] := by
  unfold txt
  rw [if_neg h0, chLE_pos h0, show n / 10 = 0 by omega, chLE_zero, Nat.mod_eq_of_lt h]; rfl
theorem ex_a : makeQ 6 (-4) = mkRat (sg True 3) 2 := by
  rw [← makeQ_eq (by omega), show (6 : Int).natAbs = 3 * 2 from rfl, show (-4 : Int).natAbs = 2 * 2 from rfl, mk_scale _ _ _ (by omega)]
  exact mk_iff (by simp) 3 2
theorem ex_num {s : Prop} {n d : Nat} (hd : d ≠ 0) (hg : Nat.gcd n d = 1) : (mkRat (sg s n) d).num = sg s n ∧ (mkRat (sg s n) d).den = d := by
  rw [mkRat_num hd, mkRat_den hd, hg, Nat.div_one, Nat.div_one]
  exact ⟨rfl, rfl⟩
theorem ex_txt {n d : Nat} (hn0 : n ≠ 0) (hn : n < 10) (hd0 : d ≠ 0) (hd : d < 10) (hg : Nat.gcd n d = 1) : txtQ (mkRat (sg True n) d) = if d = 1 then [45, 48 + n] else [45, 48 + n, 47, 48 + d] := by
  obtain ⟨h1, h2⟩ := ex_num (s := True) hd0 hg
  unfold txtQ
  rw [h1, h2, sg_t trivial, if_pos (by omega), show (-(n : Int)).natAbs = n by omega, txt_dig hn0 hn]
  by_cases h : d = 1
  · rw [if_pos h, if_pos (by rw [h]; rfl)]; rfl
  · rw [if_neg h, denN_ne h, if_neg hd0, txt_dig hd0 hd]; rfl
theorem ex_t1 : txtQ (makeQ 6 (-4)) = [45, 51, 47, 50] := by
  rw [ex_a, ex_txt (by omega) (by omega) (by omega) (by omega) (by decide), if_neg (by omega)]
theorem ex_fl : floorQ (makeQ 6 (-4)) = mkRat (sg True 2) 1 := by
  rw [ex_a, ← floor_eq _ (by omega), if_pos ⟨trivial, by omega⟩]
theorem ex_t3 : txtQ (floorQ (makeQ 6 (-4))) = [45, 50] := by
  rw [ex_fl, ex_txt (by omega) (by omega) (by omega) (by omega) (by decide), if_pos rfl]
theorem ex_b : parQ [45, 49, 46, 50, 53, 101, 45, 49] = (0, mkRat (sg True 1) 8) := by
  have hN : parNeg [45, 49, 46, 50, 53, 101, 45, 49] := ⟨by decide, rfl⟩
  have hd : digs [49, 46, 50, 53, 101, 45, 49] = 1 := rfl
  have hd2 : digs ((46 :: [50, 53, 101, 45, 49]).drop 1) = 2 := rfl
  have hU : exU [101, 45, 49] = [49] := exU_t ⟨by simp, .inr rfl⟩
  have hO : exOk [101, 45, 49] := ⟨.inl rfl, by rw [hU]; simp, by rw [hU]; simp, by rw [hU]; rfl⟩
  have hE : exN [101, 45, 49] = 1 := by rw [exN_t hO, hU]; rfl
  rw [parQ_fin (by decide), parBody_t hN]
  show fin2 _ [49, 46, 50, 53, 101, 45, 49] = _
  rw [fin2_dot (r := 46 :: [50, 53, 101, 45, 49]) (by rw [hd]; omega) rfl (fun e => by have := e.2; simp at this) ⟨by simp, rfl⟩ (by rw [hd2]; omega), hd2, hd]
  show fin3 _ 125 100 [101, 45, 49] = _
  rw [fin3_down (by simp) hO ⟨by simp, rfl⟩, hE]
  have e : mkRat (sg (parNeg [45, 49, 46, 50, 53, 101, 45, 49]) 125) (100 * 10 ^ 1) = mkRat (sg True 1) 8 := by
    rw [show 125 = 1 * 125 from rfl, show 100 * 10 ^ 1 = 8 * 125 from rfl, mk_scale _ _ _ (by omega)]
    exact mk_iff (by simp [hN]) 1 8
  have hb : ¬ (2048 : Int) < bitsQ (mkRat (sg True 1) 8) := by
    obtain ⟨h1, h2⟩ := ex_num (s := True) (n := 1) (d := 8) (by omega) (by decide)
    unfold bitsQ
    rw [h1, h2, sg_natAbs]
    decide
  rw [fin4_ok (by rw [e]; exact hb), e]
theorem ex_t2 : txtQ (parQ [45, 49, 46, 50, 53, 101, 45, 49]).2 = [45, 49, 47, 56] := by
  rw [ex_b]
  show txtQ (mkRat (sg True 1) 8) = _
  rw [ex_txt (by omega) (by omega) (by omega) (by omega) (by decide), if_neg (by omega)]
theorem dV_len (ys : List Nat) (hf : Fit ys) : (limbs (dV ys)).length ≤ ys.length + 1 := by
  unfold dV
  split
  · rw [len_one]; omega
  · have := limbs_len_le hf; omega
end Bk

namespace Bk
set_option linter.unusedVariables false
set_option linter.unusedSimpArgs false
open Go Go.RowKit
open Classical

theorem field_e {q : Rat} : ¬ ¬ ((if q = 0 then 3 else 0 : Int) = 0 ↔ sgnQ q ≠ 0) := by
  intro h
  apply h
  by_cases h0 : q = 0
  · rw [if_pos h0, sgnQ_zero h0]; simp
  · rw [if_neg h0]
    exact ⟨fun _ e => h0 (sgn_zero.1 e), fun _ => rfl⟩
theorem sgnQ_lt (q : Rat) : sgnQ q = if q = 0 then 0 else if q < 0 then -1 else 1 := by unfold sgnQ; simp only [num_neg_iff]
theorem cmpQ_anti (a b : Rat) : cmpQ a b = -cmpQ b a := by unfold cmpQ; grind
theorem cmpQ_sub (a b : Rat) : cmpQ a b = sgnQ (a - b) := by rw [sgnQ_lt]; unfold cmpQ; grind
theorem cmpQ_add (a b c : Rat) : cmpQ (a + c) (b + c) = cmpQ a b := by unfold cmpQ; grind
theorem lt_tri (a b : Rat) : a < b ∨ a = b ∨ b < a := by grind
theorem cmpQ_mul (a b c : Rat) : cmpQ (a * c) (b * c) = cmpQ a b * sgnQ c := by
  rw [sgnQ_lt]
  by_cases h0 : c = 0
  · subst h0
    have : cmpQ (a * 0) (b * 0) = 0 := cmpQ_zero.2 (by grind)
    rw [this, if_pos rfl, Int.mul_zero]
  · rw [if_neg h0]
    by_cases hc : c < 0
    · rw [if_pos hc]
      rcases lt_tri a b with h | h | h
      · have h1 : b * c < a * c := by
          have := Rat.mul_lt_mul_of_pos_right h (c := -c) (by grind)
          grind
        unfold cmpQ; grind
      · subst h; unfold cmpQ; simp
      · have h1 : a * c < b * c := by
          have := Rat.mul_lt_mul_of_pos_right h (c := -c) (by grind)
          grind
        unfold cmpQ; grind
    · rw [if_neg hc]
      have hc' : 0 < c := by grind
      rcases lt_tri a b with h | h | h
      · have h1 := Rat.mul_lt_mul_of_pos_right h hc'
        unfold cmpQ; grind
      · subst h; unfold cmpQ; simp
      · have h1 := Rat.mul_lt_mul_of_pos_right h hc'
        unfold cmpQ; grind
theorem mul_range {x y : Int} (hx : -1 ≤ x ∧ x ≤ 1) (hy : -1 ≤ y ∧ y ≤ 1) : -1 ≤ x * y ∧ x * y ≤ 1 := by
  have : x = -1 ∨ x = 0 ∨ x = 1 := by omega
  rcases this with h | h | h <;> subst h <;> omega

theorem pow_pos (k : Int) : (0 : Rat) < ((2 ^ kN k : Nat) : Rat) := by
  have : (0 : Rat) = ((0 : Nat) : Rat) := rfl
  rw [this, Rat.natCast_lt_natCast]
  exact Nat.pow_pos (by omega)
theorem down_le (q : Rat) (k : Int) : downQ q k ≤ q := by
  rw [← down_over]
  refine Rat.not_lt.1 fun e => ?_
  rw [Rat.lt_div_iff (pow_pos k)] at e
  have := Rat.floor_le (q * ((2 ^ kN k : Nat) : Rat))
  unfold floorQ at e
  grind
theorem up_ge (q : Rat) (k : Int) : q ≤ upQ q k := by
  have := down_le (-q) k
  unfold upQ
  grind
theorem cmp_le {a b : Rat} (h : a ≤ b) : cmpQ a b ≤ 0 := by
  have : ¬ 0 < cmpQ a b := fun e => by have := cmpQ_pos.1 e; grind
  omega
theorem floor_negsum (y : Rat) : -(-y).floor - y.floor ≤ 1 := by
  have h : -y.floor - 1 ≤ (-y).floor := by
    rw [Rat.le_floor_iff]
    have := Rat.lt_floor_add_one y
    rw [Rat.intCast_add] at this
    rw [Rat.intCast_sub, Rat.intCast_neg]
    have e : ((1 : Int) : Rat) = 1 := rfl
    rw [e] at *
    grind
  omega
theorem up_down (q : Rat) (k : Int) : upQ q k - downQ q k ≤ 1 / ((2 ^ kN k : Nat) : Rat) := by
  have hp := pow_pos k
  unfold upQ
  rw [← down_over, ← down_over]
  have h := floor_negsum (q * ((2 ^ kN k : Nat) : Rat))
  unfold floorQ
  generalize ((2 ^ kN k : Nat) : Rat) = P at *
  have e1 : -q * P = -(q * P) := by grind
  rw [e1]
  generalize q * P = y at *
  have h2 : ((-(-y).floor - y.floor : Int) : Rat) ≤ ((1 : Int) : Rat) := Rat.intCast_le_intCast.2 h
  rw [Rat.intCast_sub, Rat.intCast_neg] at h2
  have e2 : ((1 : Int) : Rat) = 1 := rfl
  rw [e2] at h2
  generalize ((-y).floor : Rat) = u at *
  generalize (y.floor : Rat) = v at *
  refine Rat.not_lt.1 fun e => ?_
  rw [Rat.div_lt_iff hp] at e
  have e3 : (-(u / P) - v / P) * P = -u - v := by grind
  rw [e3] at e
  grind
theorem kN_nat {n : Nat} (h : n ≤ 4096) : kN (n : Int) = n := by unfold kN; omega
theorem unit_eq {n : Nat} (h : n < 62) : makeQ 1 (1 * 2 ^ (n % 62) : Nat) = 1 / ((2 ^ kN (n : Int) : Nat) : Rat) := by
  rw [kN_nat (by omega), Nat.mod_eq_of_lt h, Nat.one_mul]; rfl
theorem up_down_unit (q : Rat) {n : Nat} (h : n < 62) : ¬ 0 < cmpQ (upQ q n - downQ q n) (makeQ 1 (1 * 2 ^ (n % 62) : Nat)) := by
  rw [unit_eq h, cmpQ_pos]
  have := up_down q n
  grind
theorem down_int {q : Rat} {k : Int} (h : downQ q k = q) : ∃ m : Int, q * ((2 ^ kN k : Nat) : Rat) = (m : Rat) := by
  rw [← down_over] at h
  refine ⟨(q * ((2 ^ kN k : Nat) : Rat)).floor, ?_⟩
  have hp := pow_ratne (kN k)
  unfold floorQ at h
  generalize ((2 ^ kN k : Nat) : Rat) = P at *
  generalize ((q * P).floor : Rat) = f at *
  grind
theorem int_down {q : Rat} {k : Int} {m : Int} (h : q * ((2 ^ kN k : Nat) : Rat) = (m : Rat)) : downQ q k = q := by
  rw [← down_over]
  unfold floorQ
  rw [h, Rat.floor_intCast, ← h]
  have hp := pow_ratne (kN k)
  generalize ((2 ^ kN k : Nat) : Rat) = P at *
  grind
theorem down_up (q : Rat) (k : Int) : downQ q k = q ↔ upQ q k = q := by
  have e : ∀ x : Rat, ∀ P : Rat, -x * P = -(x * P) := fun x P => by grind
  constructor
  · intro h
    obtain ⟨m, hm⟩ := down_int h
    unfold upQ
    rw [int_down (m := -m) (by rw [e, hm, Rat.intCast_neg])]
    grind
  · intro h
    unfold upQ at h
    have h1 : downQ (-q) k = -q := by grind
    obtain ⟨m, hm⟩ := down_int h1
    rw [e] at hm
    exact int_down (m := -m) (by rw [Rat.intCast_neg, ← hm]; grind)
theorem down_down (q : Rat) (k : Int) : downQ (downQ q k) k = downQ q k := by
  refine int_down (m := (q * ((2 ^ kN k : Nat) : Rat)).floor) ?_
  rw [← down_over]
  unfold floorQ
  have hp := pow_ratne (kN k)
  generalize ((2 ^ kN k : Nat) : Rat) = P at *
  grind
theorem floor_down (q : Rat) : floorQ q = downQ q 0 := by
  rw [← down_over]
  have e : ((2 ^ kN 0 : Nat) : Rat) = 1 := rfl
  rw [e]
  have e2 : q * 1 = q := by grind
  rw [e2]
  grind
theorem mul_back {a b : Rat} (h : b ≠ 0) : (if b = 0 then 0 else a / b) * b = a := by
  rw [if_neg h]; grind
end Bk

namespace Bk
set_option linter.unusedVariables false
set_option linter.unusedSimpArgs false
open Go Go.RowKit
open Classical

theorem cmp_le_iff {a b : Rat} : cmpQ a b ≤ 0 ↔ a ≤ b := by
  have h := cmpQ_pos (a := a) (b := b)
  constructor
  · intro h1
    refine Rat.not_lt.1 fun e => ?_
    have := h.2 e
    omega
  · intro h1
    have : ¬ 0 < cmpQ a b := fun e => Rat.not_lt.2 h1 (h.1 e)
    omega
theorem le_tot (a b : Rat) : a ≤ b ∨ b ≤ a := by grind
theorem cmp_gt_iff {a b : Rat} : 0 < cmpQ a b ↔ b < a := cmpQ_pos
theorem minQ_self (a : Rat) : minQ a a = a := by unfold minQ; split <;> rfl
theorem maxQ_self (a : Rat) : maxQ a a = a := by unfold maxQ; split <;> rfl
theorem minQ_le (a b : Rat) : minQ a b ≤ a ∧ minQ a b ≤ b := by unfold minQ; split <;> grind
theorem maxQ_ge (a b : Rat) : a ≤ maxQ a b ∧ b ≤ maxQ a b := by unfold maxQ; split <;> grind
theorem le_minQ {a b c : Rat} (h1 : c ≤ a) (h2 : c ≤ b) : c ≤ minQ a b := by unfold minQ; split <;> assumption
theorem maxQ_le {a b c : Rat} (h1 : a ≤ c) (h2 : b ≤ c) : maxQ a b ≤ c := by unfold maxQ; split <;> assumption
theorem minQ_of {a b : Rat} (h : a ≤ b) : minQ a b = a := if_neg (Rat.not_lt.2 h)
theorem maxQ_of {a b : Rat} (h : a ≤ b) : maxQ a b = b := by
  unfold maxQ
  by_cases h1 : a < b
  · rw [if_pos h1]
  · rw [if_neg h1]; grind

/-- A number lies in a span. -/
def hasP (a b r : Rat) : Prop := a ≤ r ∧ r ≤ b
theorem has_iff {a b r : Rat} : (cmpQ a r ≤ 0 ∧ cmpQ r b ≤ 0) ↔ hasP a b r := by rw [cmp_le_iff, cmp_le_iff]; rfl
noncomputable def mulLo (a b c d : Rat) : Rat := minQ (minQ (minQ (a * c) (a * d)) (b * c)) (b * d)
noncomputable def mulHi (a b c d : Rat) : Rat := maxQ (maxQ (maxQ (a * c) (a * d)) (b * c)) (b * d)
theorem lq_mulLo (a b c d : Rat) : lq (mulLo a b c d) ≤ max (lq a) (lq b) + max (lq c) (lq d) := by
  unfold mulLo
  have h1 := lq_mul a c; have h2 := lq_mul a d; have h3 := lq_mul b c; have h4 := lq_mul b d
  have h5 := lq_min (minQ (minQ (a * c) (a * d)) (b * c)) (b * d); have h6 := lq_min (minQ (a * c) (a * d)) (b * c); have h7 := lq_min (a * c) (a * d)
  omega
theorem lq_mulHi (a b c d : Rat) : lq (mulHi a b c d) ≤ max (lq a) (lq b) + max (lq c) (lq d) := by
  unfold mulHi
  have h1 := lq_mul a c; have h2 := lq_mul a d; have h3 := lq_mul b c; have h4 := lq_mul b d
  have h5 := lq_max (maxQ (maxQ (a * c) (a * d)) (b * c)) (b * d); have h6 := lq_max (maxQ (a * c) (a * d)) (b * c); have h7 := lq_max (a * c) (a * d)
  omega
noncomputable def invQ (a : Rat) : Rat := if a = 0 then 0 else ((1 : Int) : Rat) / a
noncomputable def sqrLo (a b : Rat) : Rat := if hasP a b 0 then 0 else minQ (a * a) (b * b)
noncomputable def sqrHi (a b : Rat) : Rat := maxQ (a * a) (b * b)

/-! products of numbers in spans -/
theorem mul_mono {a b c : Rat} (h : a ≤ b) (hc : 0 ≤ c) : a * c ≤ b * c := Rat.mul_le_mul_of_nonneg_right h hc
theorem lin_lo {a b x c : Rat} (h1 : a ≤ x) (h2 : x ≤ b) : a * c ≤ x * c ∨ b * c ≤ x * c := by
  rcases le_tot 0 c with hc | hc
  · exact .inl (mul_mono h1 hc)
  · refine .inr ?_
    have := mul_mono (c := -c) h2 (by grind)
    grind
theorem lin_hi {a b x c : Rat} (h1 : a ≤ x) (h2 : x ≤ b) : x * c ≤ a * c ∨ x * c ≤ b * c := by
  rcases le_tot 0 c with hc | hc
  · exact .inr (mul_mono h2 hc)
  · refine .inl ?_
    have := mul_mono (c := -c) h1 (by grind)
    grind
theorem mul_has {a b c d r s : Rat} (hr : hasP a b r) (hs : hasP c d s) : hasP (mulLo a b c d) (mulHi a b c d) (r * s) := by
  obtain ⟨h1, h2⟩ := hr
  obtain ⟨h3, h4⟩ := hs
  have e : ∀ x y : Rat, x * y = y * x := Rat.mul_comm
  have m1 := minQ_le (minQ (minQ (a * c) (a * d)) (b * c)) (b * d); have m2 := minQ_le (minQ (a * c) (a * d)) (b * c); have m3 := minQ_le (a * c) (a * d)
  have n1 := maxQ_ge (maxQ (maxQ (a * c) (a * d)) (b * c)) (b * d); have n2 := maxQ_ge (maxQ (a * c) (a * d)) (b * c); have n3 := maxQ_ge (a * c) (a * d)
  have l1 := lin_lo (c := s) h1 h2
  have l2 := lin_lo (c := a) h3 h4
  have l3 := lin_lo (c := b) h3 h4
  have u1 := lin_hi (c := s) h1 h2
  have u2 := lin_hi (c := a) h3 h4
  have u3 := lin_hi (c := b) h3 h4
  rw [e c a, e d a, e s a] at l2 u2
  rw [e c b, e d b, e s b] at l3 u3
  unfold hasP mulLo mulHi
  constructor <;> grind
theorem mul_ends (a b c d : Rat) : mulLo a b c d ≤ mulHi a b c d := by
  unfold mulLo mulHi
  have m1 := minQ_le (minQ (minQ (a * c) (a * d)) (b * c)) (b * d)
  have n1 := maxQ_ge (maxQ (maxQ (a * c) (a * d)) (b * c)) (b * d)
  grind
theorem minQ_mem (a b : Rat) : minQ a b = a ∨ minQ a b = b := by unfold minQ; split <;> simp
theorem maxQ_mem (a b : Rat) : maxQ a b = a ∨ maxQ a b = b := by unfold maxQ; split <;> simp
theorem hasP_lo {a b : Rat} (h : a ≤ b) : hasP a b a := ⟨Rat.le_refl, h⟩
theorem hasP_hi {a b : Rat} (h : a ≤ b) : hasP a b b := ⟨h, Rat.le_refl⟩
theorem lq_sqrHi (a b : Rat) : lq (sqrHi a b) ≤ 2 * max (lq a) (lq b) := by
  unfold sqrHi
  have h1 := lq_mul a a; have h2 := lq_mul b b; have h3 := lq_max (a * a) (b * b)
  omega
theorem lq_sqrLo (a b : Rat) : lq (sqrLo a b) ≤ 2 * max (lq a) (lq b) := by
  unfold sqrLo
  have h1 := lq_mul a a; have h2 := lq_mul b b; have h3 := lq_min (a * a) (b * b); have h4 := lq_pos a
  split
  · rw [lq_zero]; omega
  · omega
theorem lq_one : lq ((1 : Int) : Rat) ≤ 2 := lq_int 1 (by decide) (by decide)
theorem lq_inv (a : Rat) : lq (invQ a) ≤ lq a + 2 := by
  unfold invQ
  have h1 := lq_quo ((1 : Int) : Rat) a
  have h2 := lq_one
  split
  · rw [lq_zero]; omega
  · omega

/-- A product's ends. -/
theorem mulLo_mem (a b c d : Rat) : mulLo a b c d = a * c ∨ mulLo a b c d = a * d ∨ mulLo a b c d = b * c ∨ mulLo a b c d = b * d := by
  unfold mulLo
  have h1 := minQ_mem (minQ (minQ (a * c) (a * d)) (b * c)) (b * d); have h2 := minQ_mem (minQ (a * c) (a * d)) (b * c); have h3 := minQ_mem (a * c) (a * d)
  grind
theorem mulHi_mem (a b c d : Rat) : mulHi a b c d = a * c ∨ mulHi a b c d = a * d ∨ mulHi a b c d = b * c ∨ mulHi a b c d = b * d := by
  unfold mulHi
  have h1 := maxQ_mem (maxQ (maxQ (a * c) (a * d)) (b * c)) (b * d); have h2 := maxQ_mem (maxQ (a * c) (a * d)) (b * c); have h3 := maxQ_mem (a * c) (a * d)
  grind
theorem mul_sub {a b c d x y : Rat} (hcd : c ≤ d) (hx : hasP a b x) (hy : hasP a b y) : hasP (mulLo a b c d) (mulHi a b c d) (mulLo x y c d) ∧ hasP (mulLo a b c d) (mulHi a b c d) (mulHi x y c d) := by
  have h1 := mul_has hx (hasP_lo hcd); have h2 := mul_has hx (hasP_hi hcd); have h3 := mul_has hy (hasP_lo hcd); have h4 := mul_has hy (hasP_hi hcd)
  constructor
  · rcases mulLo_mem x y c d with h | h | h | h <;> rw [h] <;> assumption
  · rcases mulHi_mem x y c d with h | h | h | h <;> rw [h] <;> assumption

/-- Inverses. -/
theorem inv_eq (s : Rat) : invQ s = 1 / s := by
  unfold invQ
  have e : ((1 : Int) : Rat) = 1 := rfl
  rw [e]
  split
  · rename_i h; subst h; grind
  · rfl
theorem inv_anti {c s : Rat} (hc : 0 < c) (h : c ≤ s) : 1 / s ≤ 1 / c := by
  refine Rat.not_lt.1 fun e => ?_
  have hs : 0 < s := by grind
  have h1 : 0 < c * s := Rat.mul_pos hc hs
  have h2 := Rat.mul_lt_mul_of_pos_right e h1
  have e1 : 1 / c * (c * s) = s := by grind
  have e2 : 1 / s * (c * s) = c := by grind
  rw [e1, e2] at h2
  exact Rat.not_lt.2 h h2
theorem inv_has {c d s : Rat} (h : ¬ hasP c d 0) (hs : hasP c d s) : s ≠ 0 ∧ hasP (minQ (invQ c) (invQ d)) (maxQ (invQ c) (invQ d)) (invQ s) := by
  obtain ⟨h1, h2⟩ := hs
  have hsgn : 0 < c ∨ d < 0 := by
    unfold hasP at h
    grind
  have hne : s ≠ 0 := by grind
  refine ⟨hne, ?_⟩
  rw [inv_eq, inv_eq, inv_eq]
  have m := minQ_le (1 / c) (1 / d)
  have n := maxQ_ge (1 / c) (1 / d)
  rcases hsgn with hp | hn
  · have h3 := inv_anti hp h1
    have h4 := inv_anti (c := s) (by grind) h2
    unfold hasP
    grind
  · have h3 := inv_anti (c := -s) (s := -c) (by grind) (by grind)
    have h4 := inv_anti (c := -d) (s := -s) (by grind) (by grind)
    have e1 : ∀ x : Rat, 1 / (-x) = -(1 / x) := fun x => by grind
    rw [e1, e1] at h3 h4
    unfold hasP
    grind
theorem quo_eq_mul {r s : Rat} (hs : s ≠ 0) : (if s = 0 then 0 else r / s) = r * invQ s := by rw [if_neg hs, inv_eq]; grind

/-- Squares. -/
theorem sq_nonneg (x : Rat) : 0 ≤ x * x := by
  rcases le_tot 0 x with h | h
  · have := mul_mono h h; grind
  · have := mul_mono (a := 0) (b := -x) (c := -x) (by grind) (by grind); grind
theorem sq_le {x y : Rat} (h0 : 0 ≤ x) (h : x ≤ y) : x * x ≤ y * y := by
  have h1 := mul_mono h h0
  have h2 := mul_mono (c := y) h (by grind)
  grind
theorem sqr_has {a b r : Rat} (h : hasP a b r) : hasP (sqrLo a b) (sqrHi a b) (r * r) := by
  obtain ⟨h1, h2⟩ := h
  have n := maxQ_ge (a * a) (b * b)
  have m := minQ_le (a * a) (b * b)
  have e : ∀ x : Rat, (-x) * (-x) = x * x := fun x => by grind
  constructor
  · unfold sqrLo
    split
    · exact sq_nonneg r
    · rename_i hz
      have hsgn : 0 < a ∨ b < 0 := by unfold hasP at hz; grind
      rcases hsgn with hp | hn
      · have := sq_le (by grind) h1; grind
      · have := sq_le (x := -b) (y := -r) (by grind) (by grind)
        rw [e, e] at this; grind
  · unfold sqrHi
    rcases le_tot 0 r with hr | hr
    · have := sq_le hr h2; grind
    · have := sq_le (x := -r) (y := -a) (by grind) (by grind)
      rw [e, e] at this; grind
theorem sqr_sub {a b x y : Rat} (hxy : x ≤ y) (hx : hasP a b x) (hy : hasP a b y) : hasP (sqrLo a b) (sqrHi a b) (sqrLo x y) ∧ hasP (sqrLo a b) (sqrHi a b) (sqrHi x y) := by
  have h1 := sqr_has hx
  have h2 := sqr_has hy
  constructor
  · by_cases hz : hasP x y 0
    · have e : sqrLo x y = 0 := if_pos hz
      have hz' : hasP a b 0 := ⟨Rat.le_trans hx.1 hz.1, Rat.le_trans hz.2 hy.2⟩
      have := sqr_has hz'
      rw [e]
      have e0 : (0 : Rat) * 0 = 0 := by grind
      rw [e0] at this
      exact this
    · have e : sqrLo x y = minQ (x * x) (y * y) := if_neg hz
      rw [e]
      rcases minQ_mem (x * x) (y * y) with h | h <;> rw [h] <;> assumption
  · unfold sqrHi
    rcases maxQ_mem (x * x) (y * y) with h | h
    · rw [h]; unfold sqrHi at h1; exact h1
    · rw [h]; unfold sqrHi at h2; exact h2
/-- Rounding. -/
theorem down_mono {a b : Rat} (h : a ≤ b) (k : Int) : downQ a k ≤ downQ b k := by
  rw [← down_over, ← down_over]
  have hp := pow_pos k
  generalize ((2 ^ kN k : Nat) : Rat) = P at *
  have h1 : a * P ≤ b * P := mul_mono h (by grind)
  have h2 : (a * P).floor ≤ (b * P).floor := Rat.le_floor_iff.2 (Rat.le_trans (Rat.floor_le _) h1)
  have h3 : floorQ (a * P) ≤ floorQ (b * P) := Rat.intCast_le_intCast.2 h2
  refine Rat.not_lt.1 fun e => ?_
  have h4 := Rat.mul_lt_mul_of_pos_right e hp
  have e1 : ∀ x : Rat, x / P * P = x := fun x => by grind
  rw [e1, e1] at h4
  exact Rat.not_lt.2 h3 h4
theorem up_mono {a b : Rat} (h : a ≤ b) (k : Int) : upQ a k ≤ upQ b k := by
  have := down_mono (a := -b) (b := -a) (by grind) k
  unfold upQ
  grind
theorem round_has {a b r : Rat} (h : hasP a b r) (k : Int) : hasP (downQ a k) (upQ b k) r := ⟨Rat.le_trans (down_le a k) h.1, Rat.le_trans h.2 (up_ge b k)⟩
theorem add_has {a b c d r s : Rat} (hr : hasP a b r) (hs : hasP c d s) : hasP (a + c) (b + d) (r + s) := by unfold hasP at *; grind
theorem sub_has {a b c d r s : Rat} (hr : hasP a b r) (hs : hasP c d s) : hasP (a - d) (b - c) (r - s) := by unfold hasP at *; grind
theorem of_ends (a b : Rat) : minQ a b ≤ maxQ a b := by
  have := minQ_le a b
  have := maxQ_ge a b
  grind
theorem lq_invs (a b : Rat) : lq (minQ (invQ a) (invQ b)) ≤ max (lq a) (lq b) + 2 ∧ lq (maxQ (invQ a) (invQ b)) ≤ max (lq a) (lq b) + 2 := by
  have h1 := lq_inv a; have h2 := lq_inv b; have h3 := lq_min (invQ a) (invQ b); have h4 := lq_max (invQ a) (invQ b)
  omega
/-- The quotient of two spans. -/
noncomputable def quoLo (a b c d : Rat) : Rat := if hasP c d 0 then 0 else mulLo a b (minQ (invQ c) (invQ d)) (maxQ (invQ c) (invQ d))
noncomputable def quoHi (a b c d : Rat) : Rat := if hasP c d 0 then 0 else mulHi a b (minQ (invQ c) (invQ d)) (maxQ (invQ c) (invQ d))
noncomputable def quoE (c d : Rat) : Int := if hasP c d 0 then 3 else 0
theorem quo_t {a b c d : Rat} (h : hasP c d 0) : quoLo a b c d = 0 ∧ quoHi a b c d = 0 ∧ quoE c d = 3 := ⟨if_pos h, if_pos h, if_pos h⟩
theorem quo_f {a b c d : Rat} (h : ¬ hasP c d 0) : quoLo a b c d = mulLo a b (minQ (invQ c) (invQ d)) (maxQ (invQ c) (invQ d)) ∧ quoHi a b c d = mulHi a b (minQ (invQ c) (invQ d)) (maxQ (invQ c) (invQ d)) ∧ quoE c d = 0 := ⟨if_neg h, if_neg h, if_neg h⟩
theorem lq_quoLo (a b c d : Rat) : lq (quoLo a b c d) ≤ max (lq a) (lq b) + max (lq c) (lq d) + 2 := by
  have h1 := lq_invs c d
  have h2 := lq_mulLo a b (minQ (invQ c) (invQ d)) (maxQ (invQ c) (invQ d))
  have h3 := lq_pos a
  unfold quoLo
  split
  · rw [lq_zero]; omega
  · omega
theorem lq_quoHi (a b c d : Rat) : lq (quoHi a b c d) ≤ max (lq a) (lq b) + max (lq c) (lq d) + 2 := by
  have h1 := lq_invs c d
  have h2 := lq_mulHi a b (minQ (invQ c) (invQ d)) (maxQ (invQ c) (invQ d))
  have h3 := lq_pos a
  unfold quoHi
  split
  · rw [lq_zero]; omega
  · omega
end Bk

namespace Go.Proofs.Ytfpjclgbieppeaa
open Bk Go
set_option linter.unusedVariables false
set_option linter.unusedSimpArgs false
set_option maxRecDepth 10000

end Go.Proofs.Ytfpjclgbieppeaa

namespace Go.Proofs.Ytfpjclgbieppeaa
open Bk Go
set_option linter.unusedVariables false
set_option linter.unusedSimpArgs false
set_option maxRecDepth 10000

theorem made_mod {w0 : World} {h0 : Mem}  (hs : MLe h0 (mem w0)) {n m : Int} (hm : 0 < m) (hm2 : m < 4611686018427387904) :
    Calls Try.prog 39 #[vI n, vI m] w0 (Ret w0 h0 (fun _ r => r = vI (modZ n m))) := by
 have htr := tmod_range n hm
 refine calls_begin (n := 14) (e := [(0, vI n), (1, vI m)]) (vs := [vI n, vI m]) Try.func39 rfl rfl (Nat.le_of_ble_eq_true rfl) hs ⟨rfl, rfl, trivial⟩ (gc_seq (gc_region (asg (v := vI (0)) rfl rfl (gl_nil (gq_then (gc_seq (gc_region (mv rfl rfl (mv rfl rfl (gv (ov_remt_i rfl rfl (by omega)) rfl (asg rfl rfl (gl_nil (gq_then ?_)))))))))))))
 refine gc_seq (gc_seq (gc_region (mv rfl rfl (gv (ov_lss_i (q := 0) rfl rfl) rfl (gl_nil (gq_then ?_))))))
 refine gc_cond rfl (fun hc9 => ?_) (fun hc9 => ?_)
 ·
  refine gc_region (mv rfl rfl (mv rfl rfl (gv (ov_add_i rfl rfl (by omega) (by omega)) rfl (asg rfl rfl (gl_nil (gq_keep (e' := [(0, _)]) ⟨rfl, trivial⟩ (gq_then (gc_seq (gc_region (mv rfl rfl (asg rfl rfl (gl_nil (gq_then ?_)))))))))))))
  refine gc_ret (gq_body1 rfl rfl ?_)
  rw [modZ, if_pos hc9]
 ·
  refine gc_skip (gq_then (gc_seq (gc_region (mv rfl rfl (asg rfl rfl (gl_nil (gq_then (gc_ret (gq_body1 rfl rfl ?_)))))))))
  rw [modZ, if_neg hc9]

theorem made_light {w0 : World} {h0 : Mem}  (hs : MLe h0 (mem w0)) {vl : Value} {xs : List Int} (hl : Is h0 vl xs) :
    Calls Try.prog 7 #[vl] w0 (Ret w0 h0 (fun _ r => r = vB ((↑xs.length : Int) ≤ 500))) := by
 refine calls_begin (n := 6) (e := [(0, vl)]) (vs := [vl]) Try.func7 rfl rfl (Nat.le_of_ble_eq_true rfl) hs ⟨rfl, trivial⟩ (gc_seq (gc_region (asg rfl rfl (gl_nil (gq_then (gc_seq (gc_region (mv rfl rfl (gv (ov_len_is Try.underlying22 rfl hl) rfl (gv (ov_leq_i (q := 500) rfl rfl) rfl (asg rfl rfl (gl_nil (gq_then ?_)))))))))))))
 refine gc_ret (gq_body1 rfl rfl ?_)
 rfl

theorem made_roll {w0 : World} {h0 : Mem}  (hs : MLe h0 (mem w0)) {vl : Value} {xs : List Int} (hl : Is h0 vl xs) :
    Calls Try.prog 9 #[vl] w0 (RetOwn w0 h0 (fun _ r L => ∃ b, r = vP b 0 ∧ L = [.var b 59 [vl, vI ↑0]])) := by
 refine calls_begin (n := 6) (e := [(0, vl)]) (vs := [vl]) Try.func9 rfl rfl (Nat.le_of_ble_eq_true rfl) hs ⟨rfl, trivial⟩ (gc_seq (gc_region (asg rfl rfl (gl_nil (gq_then (gc_seq (gc_region (mv rfl rfl (gv (ov_build_parts (ps' := [(0, _)]) (vs := [vl, vI 0]) Try.underlying59 info59 rfl (places59 Try.underlying59) ⟨rfl, rfl, trivial⟩ (fill_one (A := []) (B := [_]) (C := [_]) (cs := [_]) (off := 0) (size := 1) rfl rfl rfl rfl hl.cells fill_nil)) rfl (gl_newop (new_box (cs := [_, _]) rfl rfl) rfl rfl rfl ?_))))))))))
 intro v5 r5 hr5
 obtain ⟨b5, rfl, rfl⟩ := hr5
 refine asg rfl rfl (gl_nil (gq_then (gc_ret (gq_body1_own rfl rfl ?_))))
 exact ⟨_, rfl, rfl⟩

theorem dice_next {w0 w : World} {h0 h : Mem} {b k : Nat} {vl : Value} {xs : List Int} (hl : Is h vl xs) (hk : k ≤ xs.length) {n : Int} (hn : 0 < n) (hn2 : n < 4611686018427387904) {L : List Res} (hs : St w0 h0 (.var b 59 [vl, vI ↑k] :: L) h w) :
    Calls Try.prog 11 #[vP b 0, vI n] w (RetMut w0 h0 h L (fun g r q' => ∃ k' : Nat, ∃ z, q' = .var b 59 [vl, vI ↑k'] ∧ k' ≤ xs.length ∧ (r = vI z ∧ 0 ≤ z ∧ z < n))) := by
 have hlen := hl.lt63
 refine calls_begin_st (n := 35) (e := [(0, vP b 0), (1, vI n)]) (vs := [vP b 0, vI n]) Try.func11 rfl rfl (Nat.le_of_ble_eq_true rfl) hs ⟨rfl, rfl, trivial⟩ (gc_seq (gc_region (asg (v := vI (0)) rfl rfl (gl_nil (gq_then (gc_seq (gc_seq ?_)))))))
 refine gc_draw 10 _ [] [(0, .q), (1, .q), (2, .q), (3, .q), (4, .q), (5, .q), (6, .q), (7, .q), (8, .q), (9, .q)] mixed (fun x hx => by cases hx) (by kernel_rfl) (fun x hx => by cases hx) (fun r hr => hr) (w_q rfl (fun h' L' hh hR => ov_move rfl) rfl (w_q rfl (fun h' L' hh hR => ov_nilcheck rfl) rfl (w_q rfl (fun h' L' hh hR => ov_field_addr Try.underlying59 rfl Try.sizeOf3 rfl) rfl (w_q rfl (fun h' L' hh hR => ov_load_var (hR _ (.head _)) Try.isAgg3 rfl rfl) rfl (w_q rfl (fun h' L' hh hR => ov_move rfl) rfl (w_q rfl (fun h' L' hh hR => ov_nilcheck rfl) rfl (w_q rfl (fun h' L' hh hR => ov_field_addr Try.underlying59 rfl Try.sizeOf22 rfl) rfl (w_q rfl (fun h' L' hh hR => ov_load_var (hR _ (.head _)) Try.isAgg22 rfl rfl) rfl (w_q rfl (fun h' L' hh hR => ov_len_is Try.underlying22 rfl (hl.mono hh)) rfl (w_q rfl (fun h' L' hh hR => ov_geq_i rfl rfl) rfl (w_nil (gq_keep (e' := [(0, _), (1, _), (14, _)]) ⟨rfl, rfl, rfl, trivial⟩ (gq_then ?_)))))))))))))
 refine gc_cond rfl (fun hc14 => ?_) (fun hc14 => ?_)
 ·
  refine gc_seq (gc_region (asg (v := vI (0)) rfl rfl (gl_nil (gq_then (gc_ret (gr_then (gq_body1_own rfl rfl ?_)))))))
  exact ⟨_, (List.Sublist.refl _), (MLe.refl _), k, 0, rfl, hk, rfl, by omega, hn⟩
 ·
  refine gc_skip (gq_then (gc_seq (gc_region (mv rfl rfl (gv (ov_nilcheck rfl) rfl (gv (ov_field_addr Try.underlying59 rfl Try.sizeOf3 rfl) rfl (gv (ov_load_var (.head _) Try.isAgg3 rfl rfl) rfl (gv (ov_add_i (q := 1) rfl rfl (by omega) (by omega)) rfl (gv (ov_nilcheck rfl) rfl (gv (ov_field_addr Try.underlying59 rfl Try.sizeOf3 rfl) rfl (gl_upd (A := []) (r' := .var b 59 [vl, vI ((↑k : Int) + (1 : Int))]) (upd_store_var (k := 1) (cs := [_, _]) (vs := [_]) rfl rfl rfl rfl size3 (Nat.le_of_ble_eq_true rfl)) rfl rfl rfl (gl_nil (gq_then ?_)))))))))))))
  refine gc_seq ?_
  refine gc_draw 14 _ [] [(0, .q), (1, .q), (2, .q), (3, .q), (4, .q), (5, .q), (6, .q), (7, .q), (8, .q), (9, .q), (10, .q), (11, .q), (12, .c), (13, .q)] mixed (fun x hx => by cases hx) (by kernel_rfl) (fun x hx => by cases hx) (fun r hr => hr) (w_q rfl (fun h' L' hh hR => ov_move rfl) rfl (w_q rfl (fun h' L' hh hR => ov_nilcheck rfl) rfl (w_q rfl (fun h' L' hh hR => ov_field_addr Try.underlying59 rfl Try.sizeOf22 rfl) rfl (w_q rfl (fun h' L' hh hR => ov_load_var (hR _ (.head _)) Try.isAgg22 rfl rfl) rfl (w_q rfl (fun h' L' hh hR => ov_move rfl) rfl (w_q rfl (fun h' L' hh hR => ov_nilcheck rfl) rfl (w_q rfl (fun h' L' hh hR => ov_field_addr Try.underlying59 rfl Try.sizeOf3 rfl) rfl (w_q rfl (fun h' L' hh hR => ov_load_var (hR _ (.head _)) Try.isAgg3 rfl rfl) rfl (w_q rfl (fun h' L' hh hR => ov_sub_i (q := 1) rfl rfl (by omega) (by omega)) rfl (w_q rfl (fun h' L' hh hR => ov_index_is (k) Try.underlying22 Try.sizeOf3 rfl rfl (hl.mono hh) (by omega) (by omega)) rfl (w_q rfl (fun h' L' hh hR => ov_load_is Try.isAgg3 rfl (hl.mono hh) (by omega)) rfl (w_q rfl (fun h' L' hh hR => ov_move rfl) rfl ?_))))))))))))
  refine w_c rfl ?_
  refine s_call (vs := [_, _]) Try.call39 ⟨rfl, rfl, trivial⟩ (fun w hs => made_mod hs (by omega) (by omega)) rfl ?_
  intro v34 h1 hh1 hr34
  have hmz34 := modZ_range ((xs).getD (k) 0) (q := n) (by omega)
  subst hr34
  refine w_q rfl (fun h' L' hh hR => ov_assign rfl) rfl (w_nil (gq_keep (e' := [(4, _)]) ⟨rfl, trivial⟩ (gq_then (gc_ret (gq_body1_own rfl rfl ?_)))))
  exact ⟨_, (List.Sublist.refl _), hh1, k + 1, _, rfl, by omega, rfl, hmz34.1, hmz34.2⟩

theorem dice_number {w0 w : World} {h0 h : Mem} {b k : Nat} {vl : Value} {xs : List Int} (hl : Is h vl xs) (hk : k ≤ xs.length)  {L : List Res} (hs : St w0 h0 (.var b 59 [vl, vI ↑k] :: L) h w) :
    Calls Try.prog 38 #[vP b 0] w (RetMut w0 h0 h L (fun g r q' => ∃ k' : Nat, ∃ q, q' = .var b 59 [vl, vI ↑k'] ∧ k' ≤ xs.length ∧ (lq q ≤ 2 ∧ IsRat g r q))) := by
 refine calls_begin_st (n := 18) (e := [(0, vP b 0)]) (vs := [vP b 0]) Try.func38 rfl rfl (Nat.le_of_ble_eq_true rfl) hs ⟨rfl, trivial⟩ (gc_seq (gc_region (gl_newop (new_alloc (cs := [vB ((0 : Rat).num < 0), .slice none 0 0, .slice none 0 0]) info29 rfl (by simp only [zb]; rfl)) rfl rfl rfl ?_)))
 intro v2 r2 hr2
 obtain ⟨b2, rfl, rfl⟩ := hr2
 refine gl_nil (gq_then (gc_seq (gc_region (mv rfl rfl ?_))))
 refine gl_call_mut2 (A := [_]) (vs := [_, vI (13)]) Try.call11 ⟨rfl, rfl, trivial⟩ (fun X w hs => dice_next hl (by first | omega | exact Nat.zero_le _) (by omega) (by omega) hs) rfl ?_
 intro v5 g5 q5 hg5 hr5
 obtain ⟨k5, z5, rfl, hk5, rfl, hz5, hy5⟩ := hr5
 refine asg rfl rfl (gl_nil (gq_then (gc_seq (gc_seq (gc_region (mv rfl rfl ?_))))))
 replace hl := hl.mono hg5
 refine gl_call_mut2 (A := [_]) (vs := [_, vI (4)]) Try.call11 ⟨rfl, rfl, trivial⟩ (fun X w hs => dice_next hl (by first | omega | exact Nat.zero_le _) (by omega) (by omega) hs) rfl ?_
 intro v7 g7 q7 hg7 hr7
 obtain ⟨k7, z7, rfl, hk7, rfl, hz7, hy7⟩ := hr7
 refine gv (ov_eql_i (q := 3) rfl rfl) rfl (gl_nil (gq_then ?_))
 refine gc_cond rfl (fun hc8 => ?_) (fun hc8 => ?_)
 ·
  refine gc_seq (gc_region (mv rfl rfl (gv (ov_sub_i (q := 6) rfl rfl (by omega) (by omega)) rfl (mv rfl rfl ?_))))
  replace hl := hl.mono hg7
  refine gl_call_mut2 (A := [_]) (vs := [_, vI (4)]) Try.call11 ⟨rfl, rfl, trivial⟩ (fun X w hs => dice_next hl (by first | omega | exact Nat.zero_le _) (by omega) (by omega) hs) rfl ?_
  intro v12 g12 q12 hg12 hr12
  obtain ⟨k12, z12, rfl, hk12, rfl, hz12, hy12⟩ := hr12
  refine gv (ov_add_i (p := 1) rfl rfl (by omega) (by omega)) rfl ?_
  refine gl_call (vs := [_, _]) rfl rfl rfl rfl Try.call14 ⟨rfl, rfl, trivial⟩ (fun w hs => rref_frac hs (by omega) (by omega) (by omega) (by omega)) ?_
  intro v14 h1 hh1 hr14
  have hlq14 := lq_make (n := (z5 - (6 : Int))) (d := ((1 : Int) + z12)) (by omega) (by omega) (by omega) (by omega)
  obtain ⟨vn14, vd14, rfl, hn14, hd14⟩ := hr14
  refine gl_upd (A := []) (r' := .var b2 29 [vB ((makeQ (z5 - (6 : Int)) ((1 : Int) + z12)).num < 0), vn14, vd14]) (upd_store_var (k := 0) (cs := [_, _, _]) (vs := [_, _, _]) rfl rfl rfl (ocr rfl (ocu hn14 (ocu hd14 oc0))) size29 (Nat.le_of_ble_eq_true rfl)) rfl rfl rfl (gl_nil (gq_keep (e' := [(2, _)]) ⟨rfl, trivial⟩ (gq_then (gc_ret (gr_then (gq_res_own (fun E S => run_res1 rfl (rv_agg (cs := [_, _, _]) (.head _) Try.underlying29 rfl size29 rfl) E S) ?_))))))
  exact ⟨_, (.cons _ (List.Sublist.refl _)), (((hg5.trans hg7).trans hg12).trans hh1), _, _, rfl, hk12, by omega, _, _, rfl, hn14, hd14⟩
 ·
  refine gc_skip (gq_then (gc_seq (gc_region (mv rfl rfl (gv (ov_sub_i (q := 6) rfl rfl (by omega) (by omega)) rfl ?_)))))
  refine gl_call (vs := [_]) rfl rfl rfl rfl Try.call37 ⟨rfl, trivial⟩ (fun w hs => rref_int hs (by omega) (by omega)) ?_
  intro v17 h1 hh1 hr17
  obtain ⟨vn17, vd17, rfl, hn17, hd17⟩ := hr17
  have hlq17 := lq_int (z5 - (6 : Int)) (by omega) (by omega)
  refine gl_upd (A := []) (r' := .var b2 29 [vB (((((z5 - (6 : Int)) : Int) : Rat)).num < 0), vn17, vd17]) (upd_store_var (k := 0) (cs := [_, _, _]) (vs := [_, _, _]) rfl rfl rfl (ocr rfl (ocu hn17 (ocu hd17 oc0))) size29 (Nat.le_of_ble_eq_true rfl)) rfl rfl rfl (gl_nil (gq_keep (e' := [(2, _)]) ⟨rfl, trivial⟩ (gq_then (gc_ret (gq_res_own (fun E S => run_res1 rfl (rv_agg (cs := [_, _, _]) (.head _) Try.underlying29 rfl size29 rfl) E S) ?_)))))
  exact ⟨_, (.cons _ (List.Sublist.refl _)), ((hg5.trans hg7).trans hh1), _, _, rfl, hk7, by omega, _, _, rfl, hn17, hd17⟩

end Go.Proofs.Ytfpjclgbieppeaa

namespace Bk
set_option linter.unusedVariables false
set_option linter.unusedSimpArgs false
open Go Go.RowKit
open Classical

theorem sq_exists (n : Nat) : ∃ m, m * m ≤ n ∧ n < (m + 1) * (m + 1) := by
  induction n with
  | zero => exact ⟨0, by decide, by decide⟩
  | succ n ih =>
    obtain ⟨m, h1, h2⟩ := ih
    by_cases h : (m + 1) * (m + 1) ≤ n + 1
    · refine ⟨m + 1, h, ?_⟩
      have : (m + 1) * (m + 1) < (m + 1 + 1) * (m + 1 + 1) := Nat.mul_self_lt_mul_self (by omega)
      omega
    · exact ⟨m, by omega, by omega⟩
/-- The greatest number whose square is at most n. -/
noncomputable def sqN (n : Nat) : Nat := Classical.choose (sq_exists n)
theorem sqN_le (n : Nat) : sqN n * sqN n ≤ n := (Classical.choose_spec (sq_exists n)).1
theorem sqN_lt (n : Nat) : n < (sqN n + 1) * (sqN n + 1) := (Classical.choose_spec (sq_exists n)).2
theorem sq_mono {a b : Nat} (h : a ≤ b) : a * a ≤ b * b := Nat.mul_le_mul h h
theorem le_sqN {n m : Nat} : m ≤ sqN n ↔ m * m ≤ n := by
  constructor
  · intro h
    exact Nat.le_trans (sq_mono h) (sqN_le n)
  · intro h
    refine Classical.byContradiction fun e => ?_
    have h1 := sq_mono (show sqN n + 1 ≤ m by omega)
    have h2 := sqN_lt n
    omega
theorem sqN_eq {n m : Nat} (h1 : m * m ≤ n) (h2 : n < (m + 1) * (m + 1)) : sqN n = m := by
  have h3 := le_sqN.2 h1
  have h4 : ¬ m + 1 ≤ sqN n := fun e => by have := le_sqN.1 e; omega
  omega
theorem sqN_self (n : Nat) : sqN n ≤ n := by
  rcases Nat.eq_zero_or_pos (sqN n) with h | h
  · omega
  · have h1 := sqN_le n
    have h2 := Nat.mul_le_mul_left (sqN n) (show 1 ≤ sqN n from h)
    omega
/-- Newton's step does not go below the root. -/
theorem newton_ge {n x : Nat} (hx : 0 < x) : sqN n ≤ (x + n / x) / 2 := by
  refine Classical.byContradiction fun e => ?_
  have hs := sqN_le n
  generalize sqN n = s at *
  have h1 : x + n / x + 1 ≤ 2 * s := by omega
  have h2 := Nat.lt_mul_div_succ n hx
  obtain ⟨t, ht⟩ : ∃ t, n / x + 1 + x + t = 2 * s := ⟨2 * s - (n / x + 1 + x), by omega⟩
  have h3 : n < x * (n / x + 1) := h2
  generalize n / x = q at *
  -- x (q + 1) <= x (2 s - x) <= s s
  have h4 : (x : Int) * ((q : Int) + 1) ≤ (s : Int) * s := by
    have e1 : (q : Int) + 1 = 2 * s - x - t := by omega
    rw [e1]
    have h5 : 0 ≤ ((s : Int) - x) * ((s : Int) - x) := by
      rcases Int.le_total 0 ((s : Int) - x) with h | h
      · exact Int.mul_nonneg h h
      · exact Int.mul_nonneg_of_nonpos_of_nonpos h h
    have h6 : 0 ≤ (x : Int) * t := Int.mul_nonneg (by omega) (by omega)
    grind
  have h7 : ((x * (q + 1) : Nat) : Int) ≤ ((s * s : Nat) : Int) := by rw [Int.natCast_mul, Int.natCast_mul, Int.natCast_add]; exact h4
  omega
theorem newton_stop {n x : Nat} (hx : 0 < x) (h : sqN n ≤ x) (hs : x ≤ (x + n / x) / 2) : x = sqN n := by
  have h1 : x ≤ n / x := by omega
  have h2 : x * x ≤ n := Nat.le_trans (Nat.mul_le_mul_left x h1) (Nat.mul_div_le n x)
  have := le_sqN.2 h2
  omega
theorem newton_start (n : Nat) : sqN n ≤ 2 ^ ((bitsN n + 1) / 2) := by
  refine Classical.byContradiction fun e => ?_
  have h1 := sq_mono (show 2 ^ ((bitsN n + 1) / 2) ≤ sqN n by omega)
  have h2 := sqN_le n
  have h3 := lt_pow_bitsN n
  rw [← Nat.pow_add] at h1
  have h4 : 2 ^ bitsN n ≤ 2 ^ ((bitsN n + 1) / 2 + (bitsN n + 1) / 2) := Nat.pow_le_pow_right (by omega) (by omega)
  omega
end Bk

namespace Bk
set_option linter.unusedVariables false
set_option linter.unusedSimpArgs false
open Go Go.RowKit
open Classical

theorem reb {h : Mem} {v : Value} {a b : Rat} {k l : Nat} (r : (rpQ k).Is h v a) (e : a = b) (hl : lq b ≤ l) : (rpQ l).Is h v b := by
  subst e
  exact is_q (of_q r).1 hl
theorem rebR {h : Mem} {cs : List Value} {a b : Rat} {k l : Nat} (r : (rpQ k).R h cs a) (e : a = b) (hl : lq b ≤ l) : (rpQ l).R h cs b := by
  subst e
  exact ⟨r.1, hl⟩

/-- The whole number a, over 2 to the power of K. -/
noncomputable def ovQ (a K : Nat) : Rat := (a : Rat) / ((2 ^ K : Nat) : Rat)
theorem p2_pos (K : Nat) : (0 : Rat) < ((2 ^ K : Nat) : Rat) := by
  have : (0 : Rat) = ((0 : Nat) : Rat) := rfl
  rw [this, Rat.natCast_lt_natCast]
  exact Nat.pow_pos (by omega)
theorem p2_ne (K : Nat) : ((2 ^ K : Nat) : Rat) ≠ 0 := by have := p2_pos K; grind
theorem lq_div_nat (a b : Nat) : lq ((a : Rat) / (b : Rat)) ≤ max (limbs a).length (limbs b).length + 1 := by
  have h1 := lq_numQ False [] []
  rw [show (a : Rat) / (b : Rat) = mkRat (sg False a) b by
    rw [sg_f id, Rat.mkRat_eq_div]; rfl]
  exact lq_mk (by omega) (by omega) (by omega)
theorem p2_len {K : Nat} (h : K ≤ 4096) : (limbs (2 ^ K)).length ≤ 129 := by
  have := pow_len (k := K) h
  omega
theorem lq_ov {a K m : Nat} (hK : K ≤ 4096) (ha : (limbs a).length ≤ m) : lq (ovQ a K) ≤ max m 129 + 1 := by
  have h1 := lq_div_nat a (2 ^ K)
  have h2 := p2_len hK
  unfold ovQ
  omega
theorem ov_zero (K : Nat) : ovQ 0 K = 0 := by
  unfold ovQ
  have : ((0 : Nat) : Rat) = 0 := rfl
  rw [this]; grind
theorem unit_step (i : Nat) : ovQ 1 i * makeQ 1 2 = ovQ 1 (i + 1) := by
  have h2 : makeQ 1 2 = 1 / 2 := rfl
  have e1 : ((2 ^ (i + 1) : Nat) : Rat) = ((2 ^ i : Nat) : Rat) * 2 := by rw [Nat.pow_succ, Rat.natCast_mul]; rfl
  have hp := p2_ne i
  have e0 : ((1 : Nat) : Rat) = 1 := rfl
  unfold ovQ
  rw [h2, e1, e0]
  generalize ((2 ^ i : Nat) : Rat) = P at *
  grind
theorem unit_zero : ((1 : Int) : Rat) = ovQ 1 0 := by
  unfold ovQ
  have e0 : ((1 : Nat) : Rat) = 1 := rfl
  have e1 : ((2 ^ 0 : Nat) : Rat) = 1 := rfl
  have e2 : ((1 : Int) : Rat) = 1 := rfl
  rw [e0, e2]; grind
theorem lq_unit {K : Nat} (h : K ≤ 4096) : lq (ovQ 1 K) ≤ 130 := by
  have := lq_ov (a := 1) (m := 1) h (by rw [limbs_one (by omega) (by omega)]; simp)
  omega

/-- The whole part of q times 4 to the power of K. -/
def flN (q : Rat) (K : Nat) : Nat := q.num.natAbs * 2 ^ K * 2 ^ K / q.den
noncomputable def rootQ (q : Rat) (k : Int) : Rat := ovQ (sqN (flN q (kN k))) (kN k)
theorem le_mul_iff {x y c : Rat} (hc : 0 < c) : x ≤ y ↔ x * c ≤ y * c := by
  constructor
  · intro h; exact Rat.mul_le_mul_of_nonneg_right h (by grind)
  · intro h
    refine Rat.not_lt.1 fun e => ?_
    have := Rat.mul_lt_mul_of_pos_right e hc
    grind
theorem den_pos (q : Rat) : (0 : Rat) < (q.den : Rat) := by
  have : (0 : Rat) = ((0 : Nat) : Rat) := rfl
  rw [this, Rat.natCast_lt_natCast]
  exact Nat.pos_of_ne_zero q.den_nz
theorem num_nonneg {q : Rat} (h : 0 ≤ q) : (q.num.natAbs : Int) = q.num := Int.natAbs_of_nonneg (Rat.num_nonneg.2 h)
theorem mul_den {q : Rat} (h : 0 ≤ q) : q * (q.den : Rat) = (q.num.natAbs : Rat) := by
  have h1 : q * (q.den : Rat) = (q.num : Rat) := by
    have h2 := Rat.divInt_eq_div q.num q.den
    rw [Rat.num_divInt_den] at h2
    replace h2 : (q.num : Rat) / (q.den : Rat) = q := h2.symm
    have h3 := den_pos q
    generalize (q.num : Rat) = x at *
    generalize (q.den : Rat) = y at *
    grind
  rw [h1, ← num_nonneg h]; rfl
theorem ov_sq_le {q : Rat} (hq : 0 ≤ q) (a K : Nat) : ovQ a K * ovQ a K ≤ q ↔ a * a ≤ flN q K := by
  have hp := p2_pos K
  have hd := den_pos q
  have hm := mul_den hq
  have hc : (0 : Rat) < ((2 ^ K : Nat) : Rat) * ((2 ^ K : Nat) : Rat) * (q.den : Rat) := Rat.mul_pos (Rat.mul_pos hp hp) hd
  rw [le_mul_iff hc]
  have e1 : ovQ a K * ovQ a K * (((2 ^ K : Nat) : Rat) * ((2 ^ K : Nat) : Rat) * (q.den : Rat)) = ((a * a * q.den : Nat) : Rat) := by
    rw [Rat.natCast_mul, Rat.natCast_mul]
    unfold ovQ
    generalize ((2 ^ K : Nat) : Rat) = P at *
    grind
  have e2 : q * (((2 ^ K : Nat) : Rat) * ((2 ^ K : Nat) : Rat) * (q.den : Rat)) = ((q.num.natAbs * 2 ^ K * 2 ^ K : Nat) : Rat) := by
    rw [Rat.natCast_mul, Rat.natCast_mul, ← hm]
    grind
  rw [e1, e2, Rat.natCast_le_natCast]
  unfold flN
  rw [Nat.le_div_iff_mul_le (Nat.pos_of_ne_zero q.den_nz)]
theorem ov_lt_sq {q : Rat} (hq : 0 ≤ q) (a K : Nat) : q < ovQ a K * ovQ a K ↔ flN q K < a * a := by
  have := ov_sq_le hq a K
  constructor
  · intro h
    refine Nat.lt_of_not_le fun e => ?_
    have := this.2 e
    grind
  · intro h
    refine Rat.not_le.1 fun e => ?_
    have := this.1 e
    omega
theorem ov_sub (a b K : Nat) (h : a ≤ b) : ovQ b K - ovQ a K = ovQ (b - a) K := by
  have e : ((b - a : Nat) : Rat) = (b : Rat) - (a : Rat) := by
    have h1 : (((b - a) + a : Nat) : Rat) = (b : Rat) := by rw [Nat.sub_add_cancel h]
    rw [Rat.natCast_add] at h1
    grind
  unfold ovQ
  rw [e]
  have := p2_ne K
  grind
theorem ov_add (a b K : Nat) : ovQ a K + ovQ b K = ovQ (a + b) K := by
  unfold ovQ
  rw [Rat.natCast_add]
  have := p2_ne K
  grind
theorem ov_le {a b K : Nat} : ovQ a K ≤ ovQ b K ↔ a ≤ b := by
  have hp := p2_pos K
  rw [le_mul_iff hp, ← Rat.natCast_le_natCast (a := a)]
  unfold ovQ
  have e : ∀ x : Rat, x / ((2 ^ K : Nat) : Rat) * ((2 ^ K : Nat) : Rat) = x := fun x => by grind
  rw [e, e]
theorem step_le {a b K : Nat} (h : a ≤ b) : ¬ 0 < cmpQ (ovQ b K - ovQ a K) (ovQ 1 K) ↔ b - a ≤ 1 := by
  rw [cmpQ_pos, ov_sub _ _ _ h]
  have := ov_le (a := b - a) (b := 1) (K := K)
  constructor
  · intro h1; exact this.1 (Rat.not_lt.1 h1)
  · intro h1; exact Rat.not_lt.2 (this.2 h1)
theorem floor_of {x : Rat} {m : Nat} (h1 : (m : Rat) ≤ x) (h2 : x < (m : Rat) + 1) : floorQ x = (m : Rat) := by
  have e : x.floor = (m : Int) := by
    have h3 : (m : Int) ≤ x.floor := Rat.le_floor_iff.2 h1
    have h4 : x.floor < (m : Int) + 1 := by
      refine Int.lt_of_not_ge fun e => ?_
      have h5 : (((m : Int) + 1 : Int) : Rat) ≤ x := Rat.le_floor_iff.1 e
      rw [Rat.intCast_add] at h5
      have e2 : ((1 : Int) : Rat) = 1 := rfl
      rw [e2] at h5
      exact Rat.not_le.2 h2 h5
    omega
  unfold floorQ
  rw [e]; rfl
theorem bis_mid (a b : Nat) (k : Int) : downQ (midQ (ovQ a (kN k)) (ovQ b (kN k))) k = ovQ ((a + b) / 2) (kN k) := by
  have hp := p2_ne (kN k)
  rw [← down_over]
  have e1 : midQ (ovQ a (kN k)) (ovQ b (kN k)) * ((2 ^ kN k : Nat) : Rat) = ((a + b : Nat) : Rat) / 2 := by
    have hh : halfQ = 1 / 2 := by unfold halfQ; rw [sg_f id, Rat.mkRat_eq_div]; rfl
    unfold midQ ovQ
    rw [hh, Rat.natCast_add]
    generalize ((2 ^ kN k : Nat) : Rat) = P at *
    grind
  rw [e1, floor_of (m := (a + b) / 2)]
  · rfl
  · have h1 : (((a + b) / 2 * 2 : Nat) : Rat) ≤ ((a + b : Nat) : Rat) := Rat.natCast_le_natCast.2 (by omega)
    rw [Rat.natCast_mul] at h1
    have e2 : ((2 : Nat) : Rat) = 2 := rfl
    rw [e2] at h1
    generalize ((a + b : Nat) : Rat) = s at *
    generalize (((a + b) / 2 : Nat) : Rat) = t at *
    grind
  · have h1 : ((a + b : Nat) : Rat) < (((a + b) / 2 * 2 + 2 : Nat) : Rat) := Rat.natCast_lt_natCast.2 (by omega)
    rw [Rat.natCast_add ((a + b) / 2 * 2) 2, Rat.natCast_mul] at h1
    have e2 : ((2 : Nat) : Rat) = 2 := rfl
    rw [e2] at h1
    generalize ((a + b : Nat) : Rat) = s at *
    generalize (((a + b) / 2 : Nat) : Rat) = t at *
    grind
/-- The number above the root with which the reference begins. -/
def topN (q : Rat) (K : Nat) : Nat := (q.num.natAbs / q.den + 1) * 2 ^ K
theorem top_eq {q : Rat} (hq : 0 ≤ q) (K : Nat) : floorQ q + ((1 : Int) : Rat) = ovQ (topN q K) K := by
  have hd := den_pos q
  have hm := mul_den hq
  have hl : ((q.num.natAbs / q.den : Nat) : Rat) ≤ q := by
    rw [le_mul_iff hd, hm, ← Rat.natCast_mul, Rat.natCast_le_natCast]
    exact Nat.div_mul_le_self _ _
  have hu : q < ((q.num.natAbs / q.den : Nat) : Rat) + 1 := by
    refine Rat.not_le.1 fun e => ?_
    rw [le_mul_iff hd, hm] at e
    have e1 : (((q.num.natAbs / q.den : Nat) : Rat) + 1) * (q.den : Rat) = (((q.num.natAbs / q.den + 1) * q.den : Nat) : Rat) := by
      rw [Rat.natCast_mul, Rat.natCast_add]; rfl
    rw [e1, Rat.natCast_le_natCast] at e
    have := Nat.lt_mul_div_succ q.num.natAbs (Nat.pos_of_ne_zero q.den_nz)
    rw [Nat.mul_comm] at this
    omega
  rw [floor_of hl hu]
  unfold ovQ topN
  rw [Rat.natCast_mul, Rat.natCast_add]
  have e1 : ((1 : Nat) : Rat) = 1 := rfl
  have e2 : ((1 : Int) : Rat) = 1 := rfl
  have := p2_ne K
  rw [e1, e2]
  grind
theorem top_gt (q : Rat) (K : Nat) : flN q K < topN q K * topN q K := by
  have hd := Nat.pos_of_ne_zero q.den_nz
  have h1 := Nat.lt_mul_div_succ q.num.natAbs hd
  rw [Nat.mul_comm] at h1
  unfold flN topN
  rw [Nat.div_lt_iff_lt_mul hd]
  generalize q.num.natAbs / q.den + 1 = N at *
  generalize q.num.natAbs = X at *
  generalize q.den = D at *
  have hp : 0 < 2 ^ K := Nat.pow_pos (by omega)
  generalize 2 ^ K = P at *
  have hN : 1 ≤ N := by
    rcases Nat.eq_zero_or_pos N with h | h
    · rw [h] at h1; omega
    · exact h
  have h2 : X * P * P < N * D * P * P := Nat.mul_lt_mul_of_pos_right (Nat.mul_lt_mul_of_pos_right h1 hp) hp
  have h3 : N * D * P * P ≤ N * (N * D * P * P) := Nat.le_mul_of_pos_left _ hN
  have e : N * P * (N * P) * D = N * (N * D * P * P) := by grind
  omega
theorem top_len {q : Rat} {k : Nat} (h : lq q ≤ k) (K : Nat) (hK : K ≤ 4096) : (limbs (topN q K)).length ≤ k + 131 := by
  unfold topN
  have h1 := limbs_len_mul (q.num.natAbs / q.den + 1) (2 ^ K)
  have h2 := p2_len hK
  have h3 := limbs_len_add (q.num.natAbs / q.den) 1
  have h4 := limbs_len_mono (Nat.div_le_self q.num.natAbs q.den)
  have h5 := lq_num q
  have h6 : (limbs 1).length = 1 := by rw [limbs_one (by omega) (by omega)]; rfl
  have h7 := lq_pos q
  omega
theorem lq_ovr {q : Rat} {k a : Nat} (h : lq q ≤ k) {K : Nat} (hK : K ≤ 4096) (ha : a ≤ topN q K) : lq (ovQ a K) ≤ k + 140 := by
  have h1 := top_len h K hK
  have h2 := limbs_len_mono ha
  have h3 := lq_ov (a := a) hK (Nat.le_trans h2 h1)
  omega
theorem root_done {q : Rat} {a b K : Nat} (h1 : a * a ≤ flN q K) (h2 : flN q K < b * b) (hab : a < b) (h : b - a ≤ 1) : ovQ a K = ovQ (sqN (flN q K)) K := by
  have : b = a + 1 := by omega
  subst this
  rw [sqN_eq h1 h2]
theorem root_le_top (q : Rat) (K : Nat) : sqN (flN q K) ≤ topN q K := by
  refine Nat.le_of_not_lt fun e => ?_
  have h1 := top_gt q K
  have h2 := sqN_le (flN q K)
  have h3 := sq_mono (Nat.le_of_lt e)
  omega
theorem lq_root {q : Rat} {k : Nat} (h : lq q ≤ k) (n : Int) : lq (rootQ q n) ≤ k + 140 := lq_ovr h (by unfold kN; omega) (root_le_top q _)

theorem sqN_zero : sqN 0 = 0 := by have := sqN_self 0; omega
theorem root_nil {X : Nat} (h : (↑(bitsN X) : Int) = 0) : limbs (sqN X) = [] := by
  have h1 : X = 0 := bitsN_eq_zero.1 (by omega)
  rw [h1, sqN_zero, limbs_zero]
theorem shift_start {X : Nat} (h : (limbs X).length ≤ 1000) : shN 1 ((↑(bitsN X) + 1) / 2) = 2 ^ ((bitsN X + 1) / 2) := by
  have h1 := bits_len X
  have e : ((↑(bitsN X) + 1) / 2 : Int) = (((bitsN X + 1) / 2 : Nat) : Int) := by omega
  rw [e, shN_up (by omega) (by omega), Nat.one_mul]
  rfl
theorem shift_half (Y : Nat) : shN Y (-1) = Y / 2 := by
  rw [shN_down (by omega)]
  rfl
theorem start_len' {X K : Nat} (h : (limbs X).length ≤ K) : (limbs (2 ^ ((bitsN X + 1) / 2))).length ≤ K + 1 := by
  have h1 := bits_len X
  refine Nat.le_trans (limbs_len_mono (Nat.pow_le_pow_right (by omega) (show (bitsN X + 1) / 2 ≤ 32 * K by omega))) ?_
  refine limbs_len_of_lt (k := K + 1) ?_
  rw [show (4294967296 : Nat) = 2 ^ 32 from rfl, ← Nat.pow_mul]
  exact Nat.pow_lt_pow_right (by omega) (by omega)
theorem start_len {X : Nat} (h : (limbs X).length ≤ 1000) : (limbs (2 ^ ((bitsN X + 1) / 2))).length ≤ 1001 := start_len' h
theorem scale_k (X k : Nat) (hk : k ≤ 4096) : shN X (k : Int) = X * 2 ^ k := by rw [shN_up (by omega) (by omega)]; rfl
theorem scaled_len {q : Rat} {k K : Nat} (h : lq q ≤ k) (hK : K ≤ 4096) : (limbs (q.num.natAbs * 2 ^ K)).length ≤ k + 129 ∧ (limbs (q.num.natAbs * 2 ^ K * 2 ^ K)).length ≤ k + 258 ∧ (limbs (flN q K)).length ≤ k + 258 := by
  have h1 := limbs_len_mul q.num.natAbs (2 ^ K)
  have h2 := limbs_len_mul (q.num.natAbs * 2 ^ K) (2 ^ K)
  have h3 := p2_len hK
  have h4 := lq_num q
  have h5 := limbs_len_mono (Nat.div_le_self (q.num.natAbs * 2 ^ K * 2 ^ K) q.den)
  unfold flN
  omega
theorem norm_ov (a K : Nat) : mkRat (sg False (val (limbs a))) (dV (limbs (2 ^ K))) = ovQ a K := by
  have hp : 2 ^ K ≠ 0 := Nat.ne_of_gt (Nat.pow_pos (by omega))
  have h0 : limbs (2 ^ K) ≠ [] := fun e => by
    have := limbs_len_pos.2 hp
    rw [e] at this; simp at this
  unfold dV
  rw [if_neg h0, val_limbs, val_limbs, sg_f id, Rat.mkRat_eq_div]
  rfl
/-- The remainder of the scaled number is none. -/
def moreP (q : Rat) (K : Nat) : Prop := q.num.natAbs * 2 ^ K * 2 ^ K % q.den ≠ 0
theorem ov_exact {q : Rat} (hq : 0 ≤ q) (K : Nat) : (moreP q K ∨ cmpN (sqN (flN q K) * sqN (flN q K)) (flN q K) < 0) ↔ rootQ q = rootQ q ∧ ovQ (sqN (flN q K)) K * ovQ (sqN (flN q K)) K < q := by
  have hp := p2_pos K
  have hd := den_pos q
  have hm := mul_den hq
  have hc : (0 : Rat) < ((2 ^ K : Nat) : Rat) * ((2 ^ K : Nat) : Rat) * (q.den : Rat) := Rat.mul_pos (Rat.mul_pos hp hp) hd
  have key : q ≤ ovQ (sqN (flN q K)) K * ovQ (sqN (flN q K)) K ↔ q.num.natAbs * 2 ^ K * 2 ^ K ≤ sqN (flN q K) * sqN (flN q K) * q.den := by
    rw [le_mul_iff hc]
    generalize sqN (flN q K) = a
    have e1 : ovQ a K * ovQ a K * (((2 ^ K : Nat) : Rat) * ((2 ^ K : Nat) : Rat) * (q.den : Rat)) = ((a * a * q.den : Nat) : Rat) := by
      rw [Rat.natCast_mul, Rat.natCast_mul]
      unfold ovQ
      generalize ((2 ^ K : Nat) : Rat) = P at *
      grind
    have e2 : q * (((2 ^ K : Nat) : Rat) * ((2 ^ K : Nat) : Rat) * (q.den : Rat)) = ((q.num.natAbs * 2 ^ K * 2 ^ K : Nat) : Rat) := by
      rw [Rat.natCast_mul, Rat.natCast_mul, ← hm]
      grind
    rw [e1, e2, Rat.natCast_le_natCast]
  have h1 := sqN_le (flN q K)
  have hdp := Nat.pos_of_ne_zero q.den_nz
  have h2 : flN q K * q.den + q.num.natAbs * 2 ^ K * 2 ^ K % q.den = q.num.natAbs * 2 ^ K * 2 ^ K := by
    unfold flN
    rw [Nat.mul_comm]
    exact Nat.div_add_mod _ _
  rw [cmpN_neg]
  unfold moreP
  generalize q.num.natAbs * 2 ^ K * 2 ^ K = X at *
  generalize hr : X % q.den = r at *
  generalize hs : sqN (flN q K) * sqN (flN q K) = s at *
  generalize flN q K = F at *
  constructor
  · intro h
    refine ⟨rfl, Rat.not_le.1 fun e => ?_⟩
    have h3 := key.1 e
    rcases h with h | h
    · have := Nat.mul_le_mul_right q.den h1
      omega
    · have h4 := Nat.mul_lt_mul_of_pos_right h hdp
      omega
  · rintro ⟨_, h⟩
    refine Classical.byContradiction fun e => ?_
    have e1 : ¬ r ≠ 0 := fun h => e (.inl h)
    have e2 : ¬ s < F := fun h => e (.inr h)
    have e3 : s = F := by omega
    refine Rat.not_le.2 h (key.2 ?_)
    rw [e3]; omega
noncomputable def rtLo (l h : Rat) (k : Int) : Rat := if h < 0 then 0 else rootQ (maxQ l 0) k
noncomputable def rtHi (h : Rat) (k : Int) : Rat := if h < 0 then 0 else if rootQ h k * rootQ h k < h then rootQ h k + ovQ 1 (kN k) else rootQ h k
noncomputable def rtE (h : Rat) : Int := if h < 0 then 7 else 0
theorem flN_zero (K : Nat) : flN 0 K = 0 := by
  unfold flN
  have : (0 : Rat).num.natAbs = 0 := rfl
  rw [this, Nat.zero_mul, Nat.zero_mul, Nat.zero_div]
theorem rootQ_zero (k : Int) : rootQ 0 k = 0 := by unfold rootQ; rw [flN_zero, sqN_zero, ov_zero]
/-- The numerator of the lower end. -/
noncomputable def loN (l : Rat) (K : Nat) : Nat := if 0 < sgnQ l then sqN (flN l K) else 0
theorem sgn_pos {q : Rat} : 0 < sgnQ q ↔ 0 < q := by
  rw [sgnQ_lt]
  by_cases h0 : q = 0
  · rw [if_pos h0, h0]
    constructor
    · intro h; omega
    · intro h; exact absurd h (Rat.lt_irrefl)
  · rw [if_neg h0]
    by_cases h1 : q < 0
    · rw [if_pos h1]
      constructor
      · intro h; omega
      · intro h; grind
    · rw [if_neg h1]
      constructor
      · intro h; grind
      · intro h; omega
theorem sgn_neg {q : Rat} : sgnQ q < 0 ↔ q < 0 := by
  rw [sgnQ_lt]
  by_cases h0 : q = 0
  · rw [if_pos h0, h0]
    constructor
    · intro h; omega
    · intro h; exact absurd h (Rat.lt_irrefl)
  · rw [if_neg h0]
    by_cases h1 : q < 0
    · rw [if_pos h1]; simp [h1]
    · rw [if_neg h1]
      constructor
      · intro h; omega
      · intro h; grind
theorem lo_eq (l : Rat) (k : Int) : ovQ (loN l (kN k)) (kN k) = rootQ (maxQ l 0) k := by
  unfold loN
  by_cases h : 0 < sgnQ l
  · rw [if_pos h]
    have h1 := sgn_pos.1 h
    have h2 : maxQ l 0 = l := by unfold maxQ; rw [if_neg (by grind)]
    rw [h2]; rfl
  · rw [if_neg h, ov_zero]
    have h1 : ¬ 0 < l := fun e => h (sgn_pos.2 e)
    have h2 : maxQ l 0 = 0 := maxQ_of (by grind)
    rw [h2, rootQ_zero]
/-- The numerator of the upper end. -/
noncomputable def hiN (q : Rat) (K : Nat) : Nat := if moreP q K ∨ cmpN (sqN (flN q K) * sqN (flN q K)) (flN q K) < 0 then sqN (flN q K) + 1 else sqN (flN q K)
theorem hi_eq {q : Rat} (h : ¬ q < 0) (k : Int) : ovQ (hiN q (kN k)) (kN k) = rtHi q k := by
  have h0 : 0 ≤ q := by grind
  have h1 := ov_exact h0 (kN k)
  unfold rtHi hiN
  rw [if_neg h]
  by_cases h2 : rootQ q k * rootQ q k < q
  · rw [if_pos h2, if_pos (h1.2 ⟨rfl, h2⟩), ← ov_add]; rfl
  · rw [if_neg h2, if_neg (fun e => h2 (h1.1 e).2)]; rfl
theorem lq_hiN {q : Rat} {k : Nat} (h : lq q ≤ k) (n : Int) : lq (ovQ (hiN q (kN n)) (kN n)) ≤ k + 140 ∧ (limbs (hiN q (kN n))).length ≤ k + 133 := by
  have hK : kN n ≤ 4096 := by unfold kN; omega
  have h1 : hiN q (kN n) ≤ topN q (kN n) + 1 := by
    have := root_le_top q (kN n)
    unfold hiN; split <;> omega
  have h2 := limbs_len_mono h1
  have h3 := limbs_len_add (topN q (kN n)) 1
  have h4 := top_len h (kN n) hK
  have h5 : (limbs 1).length = 1 := by rw [limbs_one (by omega) (by omega)]; rfl
  have h6 : (limbs (hiN q (kN n))).length ≤ k + 133 := by omega
  exact ⟨by have := lq_ov (a := hiN q (kN n)) hK h6; omega, h6⟩
theorem lq_loN {q : Rat} {k : Nat} (h : lq q ≤ k) (n : Int) : lq (ovQ (loN q (kN n)) (kN n)) ≤ k + 140 ∧ (limbs (loN q (kN n))).length ≤ k + 131 := by
  have hK : kN n ≤ 4096 := by unfold kN; omega
  have h1 : loN q (kN n) ≤ topN q (kN n) := by
    have := root_le_top q (kN n)
    unfold loN; split <;> omega
  exact ⟨lq_ovr h hK h1, Nat.le_trans (limbs_len_mono h1) (top_len h _ hK)⟩

theorem newton_zero {n x : Nat} (hx : 0 < x) (h : sqN n ≤ x) (e : (x + n / x) / 2 = 0) : n = 0 := by
  have h0 : n / x = 0 ∧ x = 1 := by generalize n / x = q at *; omega
  obtain ⟨h1, h2⟩ := h0
  rw [h2, Nat.div_one] at h1
  exact h1
theorem span_lq {h : Mem} {v : Value} {s : Rat × Rat} {k l : Nat} (r : (rpP (rpQ k) (rpQ l)).Is h v s) : lq s.1 ≤ k ∧ lq s.2 ≤ l := by
  obtain ⟨cs, ⟨a, b, _, r1, r2⟩, _⟩ := r
  exact ⟨r1.2, r2.2⟩
theorem rt_hi_t {h : Rat} {k : Int} (h0 : ¬ h < 0) (h1 : rootQ h k * rootQ h k < h) : rootQ h k + ovQ 1 (kN k) = rtHi h k := by unfold rtHi; rw [if_neg h0, if_pos h1]
theorem rt_hi_f {h : Rat} {k : Int} (h0 : ¬ h < 0) (h1 : ¬ rootQ h k * rootQ h k < h) : rootQ h k = rtHi h k := by unfold rtHi; rw [if_neg h0, if_neg h1]
theorem lq_rtHi {q : Rat} {k : Nat} (h : lq q ≤ k) (h0 : ¬ q < 0) (n : Int) : lq (rtHi q n) ≤ k + 140 := by
  rw [← hi_eq h0]
  exact (lq_hiN h n).1
theorem rest_len (X d : Nat) : (limbs (if denN d = 0 then 0 else X % denN d)).length ≤ (limbs X).length := by
  refine limbs_len_mono ?_
  split
  · omega
  · exact Nat.mod_le _ _
end Bk

namespace Bk
set_option linter.unusedVariables false
set_option linter.unusedSimpArgs false
open Go Go.RowKit
open Classical
abbrev Sp := Rat × Rat
theorem open_qq {h : Mem} {v : Value} {s : Sp} {k l : Nat} (r : (rpP (rpQ k) (rpQ l)).Is h v s) : ∃ a b c d, v = .agg #[vB (s.1.num < 0), a, b, vB (s.2.num < 0), c, d] ∧ Us .u32 h a (limbs s.1.num.natAbs) ∧ Us .u32 h b (limbs (denN s.1.den)) ∧ Us .u32 h c (limbs s.2.num.natAbs) ∧ Us .u32 h d (limbs (denN s.2.den)) ∧ lq s.1 ≤ k ∧ lq s.2 ≤ l := by
  obtain ⟨cs, ⟨_, _, rfl, ⟨⟨a, b, rfl, h1, h2⟩, h3⟩, ⟨⟨c, d, rfl, h4, h5⟩, h6⟩⟩, rfl⟩ := r
  exact ⟨a, b, c, d, rfl, h1, h2, h4, h5, h3, h6⟩
theorem is_qq {h : Mem} {v : Value} {p q : Rat} {k l : Nat} (r : IsRats h v [p, q]) (hp : lq p ≤ k) (hq : lq q ≤ l) : (rpP (rpQ k) (rpQ l)).Is h v (p, q) := by
  obtain ⟨cs, rfl, a, b, _, rfl, h1, h2, c, d, _, rfl, h4, h5, rfl⟩ := r
  exact ⟨_, ⟨_, _, rfl, ⟨⟨a, b, rfl, h1, h2⟩, hp⟩, ⟨⟨c, d, rfl, h4, h5⟩, hq⟩⟩, rfl⟩
noncomputable def ofS (a b : Rat) : Sp := (minQ a b, maxQ a b)
noncomputable def hullS (a b : Sp) : Sp := (minQ a.1 b.1, maxQ a.2 b.2)
def addS (a b : Sp) : Sp := (a.1 + b.1, a.2 + b.2)
def negS (a : Sp) : Sp := (-a.2, -a.1)
def subS (a b : Sp) : Sp := (a.1 - b.2, a.2 - b.1)
noncomputable def mulS (a b : Sp) : Sp := (mulLo a.1 a.2 b.1 b.2, mulHi a.1 a.2 b.1 b.2)
noncomputable def sqrS (a : Sp) : Sp := (sqrLo a.1 a.2, sqrHi a.1 a.2)
noncomputable def roundS (a : Sp) (n : Int) : Sp := (downQ a.1 n, upQ a.2 n)
noncomputable def quoS (a b : Sp) : Sp := (quoLo a.1 a.2 b.1 b.2, quoHi a.1 a.2 b.1 b.2)
noncomputable def meetS (a b : Sp) : Sp := (if minQ a.2 b.2 < maxQ a.1 b.1 then 0 else maxQ a.1 b.1, if minQ a.2 b.2 < maxQ a.1 b.1 then 0 else minQ a.2 b.2)
noncomputable def rootS (a : Sp) (n : Int) : Sp := (rtLo a.1 a.2 n, rtHi a.2 n)
theorem lq_meet (a b : Sp) : lq (if minQ a.2 b.2 < maxQ a.1 b.1 then 0 else maxQ a.1 b.1) ≤ max (lq a.1) (lq b.1) ∧ lq (if minQ a.2 b.2 < maxQ a.1 b.1 then 0 else minQ a.2 b.2) ≤ max (lq a.2) (lq b.2) := by
  have h1 := lq_min a.2 b.2; have h2 := lq_max a.1 b.1
  have h3 := lq_pos a.1; have h4 := lq_pos a.2
  constructor
  · split
    · rw [lq_zero]; omega
    · exact h2
  · split
    · rw [lq_zero]; omega
    · exact h1

theorem retmut_imp {w0 : World} {h0 h : Mem} {L : List Res} {G G' : Mem → Value → Res → Prop} (k : ∀ g v q, G g v q → G' g v q) (x : Ending) (w : World) (s : RetMut w0 h0 h L G x w) : RetMut w0 h0 h L G' x w := by
  obtain ⟨v, g, K, e, ⟨q, h1, h2, h3⟩, S⟩ := s
  exact ⟨v, g, K, e, ⟨q, h1, h2, k _ _ _ h3⟩, S⟩
noncomputable def withinQ (s : Sp) (n : Int) : Rat := s.1 + partQ n * (s.2 - s.1)
noncomputable def ratQ (n d : Int) : Rat := makeQ (modZ n 41 - 20) (modZ d 8 + 1)
theorem partN_range (n : Int) : 1 ≤ partN n ∧ partN n ≤ 12 := by
  have := modZ_range (n.tdiv 17) (q := 12) (by omega)
  unfold partN
  omega
theorem lq_part (n : Int) : lq (partQ n) ≤ 2 := by
  have h1 := partN_range n
  have h2 := modZ_range n (q := partN n + 1) (by omega)
  exact lq_make (by omega) (by omega) (by omega) (by omega)
theorem lq_within (s : Sp) {n : Int} (h1 : -9223372036854775808 ≤ n) (h2 : n < 9223372036854775808) : lq (withinQ s n) ≤ lq s.1 + lq s.1 + lq s.2 + 4 := by
  have a1 := lq_add s.1 (partQ n * (s.2 - s.1))
  have a2 := lq_mul (partQ n) (s.2 - s.1)
  have a3 := lq_sub s.2 s.1
  have a4 := lq_part n
  unfold withinQ
  omega
theorem part_range (n : Int) : 0 ≤ partQ n ∧ partQ n ≤ 1 := by
  have h1 := partN_range n
  have h2 := modZ_range n (q := partN n + 1) (by omega)
  unfold partQ makeQ
  generalize modZ n (partN n + 1) = a at *
  generalize partN n = b at *
  have hb : (0 : Rat) < (b : Rat) := by
    have : ((0 : Int) : Rat) < (b : Rat) := Rat.intCast_lt_intCast.2 (by omega)
    exact this
  have ha : (0 : Rat) ≤ (a : Rat) := by
    have : ((0 : Int) : Rat) ≤ (a : Rat) := Rat.intCast_le_intCast.2 (by omega)
    exact this
  have hab : (a : Rat) ≤ (b : Rat) := Rat.intCast_le_intCast.2 (by omega)
  constructor
  · rw [le_mul_iff hb]
    have e : (a : Rat) / b * b = a := by grind
    rw [e]; grind
  · rw [le_mul_iff hb]
    have e : (a : Rat) / b * b = a := by grind
    rw [e]; grind
theorem within_has {s : Sp} (h : s.1 ≤ s.2) (n : Int) : hasP s.1 s.2 (withinQ s n) := by
  obtain ⟨h1, h2⟩ := part_range n
  have h3 : 0 ≤ s.2 - s.1 := by grind
  have h4 := Rat.mul_nonneg h1 h3
  have h5 := Rat.mul_le_mul_of_nonneg_right h2 h3
  unfold hasP withinQ
  constructor <;> grind
/-! determinants -/
noncomputable def det2S (a b c d : Sp) : Sp := subS (mulS a d) (mulS b c)
noncomputable def minorS (m : T3 (T3 Sp)) (i j : Nat) : Sp := det2S (m.y.at i) (m.y.at j) (m.z.at i) (m.z.at j)
noncomputable def det3S (m : T3 (T3 Sp)) : Sp := addS (subS (mulS m.x.x (minorS m 1 2)) (mulS m.x.y (minorS m 0 2))) (mulS m.x.z (minorS m 0 1))
/-- All spans of the matrix are in order. -/
def okM (m : T3 (T3 Sp)) : Prop := ∀ i j, ((m.at i).at j).1 ≤ ((m.at i).at j).2

noncomputable def det2L (m : List (List Sp)) : Sp := det2S ((m.getD 0 (List.replicate 2 ((0 : Rat), (0 : Rat)))).getD 0 ((0 : Rat), (0 : Rat))) ((m.getD 0 (List.replicate 2 ((0 : Rat), (0 : Rat)))).getD 1 ((0 : Rat), (0 : Rat))) ((m.getD 1 (List.replicate 2 ((0 : Rat), (0 : Rat)))).getD 0 ((0 : Rat), (0 : Rat))) ((m.getD 1 (List.replicate 2 ((0 : Rat), (0 : Rat)))).getD 1 ((0 : Rat), (0 : Rat)))
theorem okM_zero : okM (T3.mk (T3.mk ((0 : Rat), (0 : Rat)) ((0 : Rat), (0 : Rat)) ((0 : Rat), (0 : Rat))) (T3.mk ((0 : Rat), (0 : Rat)) ((0 : Rat), (0 : Rat)) ((0 : Rat), (0 : Rat))) (T3.mk ((0 : Rat), (0 : Rat)) ((0 : Rat), (0 : Rat)) ((0 : Rat), (0 : Rat)))) := by
  intro i j
  match i, j with
  | 0, 0 | 0, 1 | 0, (n+2) | 1, 0 | 1, 1 | 1, (n+2) | (k+2), 0 | (k+2), 1 | (k+2), (n+2) => exact Rat.le_refl
theorem T3.at_set {α : Type} (p : T3 α) (i k : Nat) (a : α) : (p.set i a).at k = if min i 2 = min k 2 then a else p.at k := by
  match i, k with
  | 0, 0 | 1, 1 | 0, 1 | 1, 0 => rfl
  | (i+2), (k+2) => rw [if_pos (by omega)]; rfl
  | 0, (k+2) => rw [if_neg (by omega)]; rfl
  | 1, (k+2) => rw [if_neg (by omega)]; rfl
  | (i+2), 0 => rw [if_neg (by omega)]; rfl
  | (i+2), 1 => rw [if_neg (by omega)]; rfl
theorem okM_set {m : T3 (T3 Sp)} (h : okM m) {s : Sp} (hs : s.1 ≤ s.2) {i j : Nat} : okM (m.set i ((m.at i).set j s)) := by
  intro a b
  rw [T3.at_set]
  split
  · rw [T3.at_set]
    split
    · exact hs
    · exact h i b
  · exact h a b
def detR (n : T3 (T3 Rat)) : Rat := n.x.x * n.y.y * n.z.z - n.x.x * n.y.z * n.z.y + (n.x.y * n.y.z * n.z.x - n.x.y * n.y.x * n.z.z) + (n.x.z * n.y.x * n.z.y - n.x.z * n.y.y * n.z.x)
theorem detR_eq (n : T3 (T3 Rat)) : (0 : Rat) + (((1 : Int) : Rat) * n.x.x * n.y.y * n.z.z - ((1 : Int) : Rat) * n.x.x * n.y.z * n.z.y) + (((1 : Int) : Rat) * n.x.y * n.y.z * n.z.x - ((1 : Int) : Rat) * n.x.y * n.y.x * n.z.z) + (((1 : Int) : Rat) * n.x.z * n.y.x * n.z.y - ((1 : Int) : Rat) * n.x.z * n.y.y * n.z.x) = detR n := by
  have e : ((1 : Int) : Rat) = 1 := rfl
  rw [e]
  unfold detR
  grind
end Bk

namespace Go.Proofs.Ytfpjclgbieppeaa
open Bk Go
set_option linter.unusedVariables false
set_option linter.unusedSimpArgs false
set_option maxRecDepth 10000

theorem o_dice_number {w0 w : World} {h0 h : Mem} {b k : Nat} {vl : Value} {xs : List Int} (hl : Is h vl xs) (hk : k ≤ xs.length) {L : List Res} (hs : St w0 h0 (.var b 59 [vl, vI ↑k] :: L) h w) : Calls Try.prog 38 #[vP b 0] w (RetMut w0 h0 h L (fun g r q' => ∃ k' : Nat, ∃ q : Rat, q' = .var b 59 [vl, vI ↑k'] ∧ k' ≤ xs.length ∧ (rpQ 2).Is g r q)) :=
  (dice_number hl hk hs).mono (retmut_imp fun g r q' x => by
    obtain ⟨k', q, e, h1, h2, h3⟩ := x
    exact ⟨k', q, e, h1, is_q h3 h2⟩)

end Go.Proofs.Ytfpjclgbieppeaa

namespace Bk
set_option linter.unusedVariables false
set_option linter.unusedSimpArgs false
open Go Go.RowKit
open Classical

abbrev Pt := T3 Rat
abbrev P2 := Rat × Rat
/-- A point, seen along two axes. -/
def pr (p : Pt) (i j : Nat) : P2 := (p.at i, p.at j)
theorem pr_ite {c : Prop} [Decidable c] (a b : Pt) (i j : Nat) : pr (if c then a else b) i j = if c then pr a i j else pr b i j := by split <;> rfl
/-- Twice the area of a triangle. -/
def cr (u v w : P2) : Rat := (v.1 - u.1) * (w.2 - u.2) - (v.2 - u.2) * (w.1 - u.1)
noncomputable def orZ (u v w : P2) : Int := sgnQ (cr u v w)
def betwP (a b x : Rat) : Prop := (a ≤ x ∧ x ≤ b) ∨ (x ≤ a ∧ b ≤ x)
/-- On a segment. -/
def onS (u v p : P2) : Prop := betwP u.1 v.1 p.1 ∧ betwP u.2 v.2 p.2 ∧ cr u v p = 0
def apartP (a b c d : Rat) : Prop := (a < c ∧ a < d ∧ b < c ∧ b < d) ∨ (c < a ∧ d < a ∧ c < b ∧ d < b)
def lx (u v : P2) : Prop := u.1 < v.1 ∨ (u.1 = v.1 ∧ u.2 < v.2)
noncomputable def lo2 (u v : P2) : P2 := if lx v u then v else u
noncomputable def hi2 (u v : P2) : P2 := if lx v u then u else v
/-- Segments on a line, whose ends are in order. -/
noncomputable def alongS (a b c d : P2) : Int :=
  if lx (if lx d b then d else b) (if lx a c then c else a) then 0 else if lx (if lx a c then c else a) (if lx d b then d else b) then 3
  else if ((if lx a c then c else a) = a ∨ (if lx a c then c else a) = b) ∧ ((if lx a c then c else a) = c ∨ (if lx a c then c else a) = d) then 1 else 2
noncomputable def along2 (a b c d : P2) : Int := alongS (lo2 a b) (hi2 a b) (lo2 c d) (hi2 c d)
noncomputable def touch2 (a b c d : P2) : Int :=
  if apartP a.1 b.1 c.1 d.1 ∨ apartP a.2 b.2 c.2 d.2 then 0
  else if orZ a b c = 0 ∧ orZ a b d = 0 ∧ orZ c d a = 0 ∧ orZ c d b = 0 then along2 a b c d
  else if 0 < orZ a b c * orZ a b d ∨ 0 < orZ c d a * orZ c d b then 0
  else if (orZ a b c = 0 ∨ orZ a b d = 0) ∧ (orZ c d a = 0 ∨ orZ c d b = 0) then 1 else 2
/-- The reference's segments on a line: the ends in order; the common end lies on both. -/
noncomputable def lineR (a b c d : P2) : Int :=
  if lx (if lx d b then d else b) (if lx a c then c else a) then 0 else if (if lx a c then c else a) ≠ (if lx d b then d else b) then 3
  else if ((if lx a c then c else a) = a ∨ (if lx a c then c else a) = b) ∧ ((if lx a c then c else a) = c ∨ (if lx a c then c else a) = d) ∧ onS a b (if lx a c then c else a) ∧ onS c d (if lx a c then c else a) then 1
  else if onS a b (if lx a c then c else a) ∧ onS c d (if lx a c then c else a) then 2 else 0
noncomputable def singleR (a b c d : P2) : Int := if (a = b ∧ onS c d a) ∨ (c = d ∧ onS a b c) then 2 else 0
noncomputable def touchS (a b c d : P2) : Int :=
  if orZ a b c = 0 ∧ orZ a b d = 0 ∧ orZ c d a = 0 ∧ orZ c d b = 0 then lineR a b c d
  else if a = b ∨ c = d then singleR a b c d
  else if 0 < orZ a b c * orZ a b d ∨ 0 < orZ c d a * orZ c d b then 0
  else if a = c ∨ a = d ∨ b = c ∨ b = d then 1 else 2
noncomputable def touchR (a b c d : P2) : Int := touchS (lo2 a b) (hi2 a b) (lo2 c d) (hi2 c d)

/-! ### Plain numbers: the same for two coordinates -/
/-- The turn of three points by their coordinates. -/
def cr2 (ax ay bx by' cx cy : Rat) : Rat := (bx - ax) * (cy - ay) - (by' - ay) * (cx - ax)
/-- Between two numbers, as a part of the way. -/
theorem part_between {D e u v : Rat} (hD : 0 < D) (h0 : 0 ≤ e) (h1 : e ≤ D) (h : D * u = v * e) : (0 ≤ v → 0 ≤ u ∧ u ≤ v) ∧ (v ≤ 0 → v ≤ u ∧ u ≤ 0) := by
  constructor
  · intro hv
    constructor
    · refine Rat.not_lt.1 fun hu => ?_
      have h2 := Rat.mul_lt_mul_of_pos_right hu hD
      have h3 := Rat.mul_nonneg hv h0
      grind
    · refine Rat.not_lt.1 fun hu => ?_
      have h2 := Rat.mul_lt_mul_of_pos_right hu hD
      have h3 := Rat.mul_le_mul_of_nonneg_right h1 hv
      grind
  · intro hv
    constructor
    · refine Rat.not_lt.1 fun hu => ?_
      have h2 := Rat.mul_lt_mul_of_pos_right hu hD
      have h3 := Rat.mul_le_mul_of_nonneg_right h1 (c := -v) (by grind)
      grind
    · refine Rat.not_lt.1 fun hu => ?_
      have h2 := Rat.mul_lt_mul_of_pos_right hu hD
      have h3 := Rat.mul_nonneg (a := -v) (b := e) (by grind) h0
      grind
theorem le_cases {a b : Rat} (h : a ≤ b) : a < b ∨ a = b := by grind
theorem mul_zero_or {a b : Rat} (h : a * b = 0) : a = 0 ∨ b = 0 := Rat.mul_eq_zero.1 h
def lex (ax ay bx by' : Rat) : Prop := ax < bx ∨ (ax = bx ∧ ay < by')
theorem lex_not {ax ay bx by' : Rat} : ¬ lex bx by' ax ay ↔ ax < bx ∨ (ax = bx ∧ ay ≤ by') := by
  unfold lex
  grind
/-- On a segment whose ends are in order: in its box, and on its line. -/
theorem on_sorted {ax ay bx by' px py : Rat} (hs : ¬ lex bx by' ax ay) (hc : cr2 ax ay bx by' px py = 0) :
    (¬ lex px py ax ay ∧ ¬ lex bx by' px py) ↔ (betwP ax bx px ∧ betwP ay by' py) := by
  rw [lex_not] at hs
  rw [lex_not, lex_not]
  unfold cr2 at hc
  unfold betwP
  rcases hs with hs | ⟨hx, hy⟩
  · have hD : 0 < bx - ax := by grind
    have he : (bx - ax) * (py - ay) = (by' - ay) * (px - ax) := by grind
    constructor
    · rintro ⟨h1, h2⟩
      have h3 : 0 ≤ px - ax := by grind
      have h4 : px - ax ≤ bx - ax := by grind
      obtain ⟨h5, h6⟩ := part_between hD h3 h4 he
      refine ⟨.inl ⟨by grind, by grind⟩, ?_⟩
      rcases le_tot ay by' with h7 | h7
      · have := h5 (by grind); grind
      · have := h6 (by grind); grind
    · rintro ⟨h1, h2⟩
      have h3 : ax ≤ px ∧ px ≤ bx := by grind
      constructor
      · rcases le_cases h3.1 with h4 | h4
        · exact .inl h4
        · refine .inr ⟨h4, ?_⟩
          have h5 : (bx - ax) * (py - ay) = 0 := by grind
          rcases mul_zero_or h5 with h6 | h6 <;> grind
      · rcases le_cases h3.2 with h4 | h4
        · exact .inl h4
        · refine .inr ⟨h4, ?_⟩
          have h5 : (bx - ax) * (py - by') = 0 := by grind
          rcases mul_zero_or h5 with h6 | h6 <;> grind
  · subst hx
    grind
theorem betwP_comm {a b x : Rat} : betwP a b x ↔ betwP b a x := by unfold betwP; grind
theorem cr2_swap (ax ay bx by' cx cy : Rat) : cr2 bx by' ax ay cx cy = -cr2 ax ay bx by' cx cy := by unfold cr2; grind
theorem cr2_rot (ax ay bx by' cx cy : Rat) : cr2 bx by' cx cy ax ay = cr2 ax ay bx by' cx cy := by unfold cr2; grind
/-- The reference's segment: sorted ends, then the order. -/
theorem on_seg {ax ay bx by' px py : Rat} : (cr2 ax ay bx by' px py = 0 ∧ (if lex bx by' ax ay then ¬ lex px py bx by' ∧ ¬ lex ax ay px py else ¬ lex px py ax ay ∧ ¬ lex bx by' px py)) ↔ (betwP ax bx px ∧ betwP ay by' py ∧ cr2 ax ay bx by' px py = 0) := by
  by_cases hc : cr2 ax ay bx by' px py = 0
  · simp only [hc, true_and, and_true]
    by_cases hl : lex bx by' ax ay
    · rw [if_pos hl]
      have h1 : ¬ lex ax ay bx by' := by unfold lex at *; grind
      have h2 : cr2 bx by' ax ay px py = 0 := by rw [cr2_swap, hc]; grind
      rw [on_sorted h1 h2, betwP_comm, betwP_comm (a := by')]
    · rw [if_neg hl]
      exact on_sorted hl hc
  · simp [hc]

/-! ### Lines that are not the same -/
theorem cross_par {ux uy vx vy wx wy : Rat} (h : ux ≠ 0 ∨ uy ≠ 0) (h1 : vx * uy = vy * ux) (h2 : wx * uy = wy * ux) : vx * wy = vy * wx := by
  rcases h with h | h
  · have e : ux * (vx * wy - vy * wx) = 0 := by grind
    rcases mul_zero_or e with h3 | h3
    · exact absurd h3 h
    · grind
  · have e : uy * (vx * wy - vy * wx) = 0 := by grind
    rcases mul_zero_or e with h3 | h3
    · exact absurd h3 h
    · grind
/-- An end of each segment on the line of the other: it is the same point, or all lie on a line. -/
theorem ends_meet {ax ay bx by' cx cy dx dy : Rat} (hp : cr2 ax ay bx by' cx cy = 0) (hr : cr2 cx cy dx dy ax ay = 0) :
    (ax = cx ∧ ay = cy) ∨ (cr2 ax ay bx by' dx dy = 0 ∧ cr2 cx cy dx dy bx by' = 0) := by
  by_cases h : ax = cx ∧ ay = cy
  · exact .inl h
  · refine .inr ?_
    have hu : cx - ax ≠ 0 ∨ cy - ay ≠ 0 := by grind
    have h1 : (bx - ax) * (cy - ay) = (by' - ay) * (cx - ax) := by unfold cr2 at hp; grind
    have h2 : (dx - ax) * (cy - ay) = (dy - ay) * (cx - ax) := by unfold cr2 at hr; grind
    have h3 := cross_par hu h1 h2
    unfold cr2
    constructor <;> grind

/-- The point in which two segments cross: between the ends of both, in each coordinate. -/
theorem cross_point {ax ay bx by' cx cy dx dy : Rat} (hpq : cr2 ax ay bx by' cx cy ≠ cr2 ax ay bx by' dx dy) (h1 : cr2 ax ay bx by' cx cy * cr2 ax ay bx by' dx dy ≤ 0) (h2 : cr2 cx cy dx dy ax ay * cr2 cx cy dx dy bx by' ≤ 0) (hrs : cr2 cx cy dx dy ax ay ≠ cr2 cx cy dx dy bx by') :
    ∃ x y, betwP ax bx x ∧ betwP ay by' y ∧ betwP cx dx x ∧ betwP cy dy y := by
  obtain ⟨p, ep⟩ : ∃ p, p = cr2 ax ay bx by' cx cy := ⟨_, rfl⟩
  obtain ⟨q, eq⟩ : ∃ q, q = cr2 ax ay bx by' dx dy := ⟨_, rfl⟩
  obtain ⟨r, er⟩ : ∃ r, r = cr2 cx cy dx dy ax ay := ⟨_, rfl⟩
  obtain ⟨s, es⟩ : ∃ s, s = cr2 cx cy dx dy bx by' := ⟨_, rfl⟩
  rw [← ep, ← eq] at hpq h1
  rw [← er, ← es] at hrs h2
  have hw : ∀ {u v : Rat}, u ≠ v → u * v ≤ 0 → 0 ≤ u / (u - v) ∧ u / (u - v) ≤ 1 := by
    intro u v hne hle
    have h3 : u - v ≠ 0 := by grind
    have h4 : 0 < (u - v) * (u - v) := by
      rcases lt_tri (u - v) 0 with h | h | h
      · have := Rat.mul_pos (a := -(u - v)) (b := -(u - v)) (by grind) (by grind); grind
      · exact absurd h h3
      · exact Rat.mul_pos h h
    have e : u / (u - v) * ((u - v) * (u - v)) = u * (u - v) := by grind
    have h5 : 0 ≤ u * u := sq_nonneg u
    have h6 : 0 ≤ v * v := sq_nonneg v
    constructor
    · rw [le_mul_iff h4, e]; grind
    · rw [le_mul_iff h4, e]; grind
  obtain ⟨t1, t2⟩ := hw hpq h1
  obtain ⟨w1, w2⟩ := hw hrs h2
  have hb : ∀ {u v t : Rat}, 0 ≤ t → t ≤ 1 → betwP u v (u + t * (v - u)) := by
    intro u v t h3 h4
    unfold betwP
    rcases le_tot u v with h5 | h5
    · left
      have h6 := Rat.mul_nonneg h3 (show 0 ≤ v - u by grind)
      have h7 := Rat.mul_le_mul_of_nonneg_right h4 (show 0 ≤ v - u by grind)
      constructor <;> grind
    · right
      have h6 := Rat.mul_nonneg h3 (show 0 ≤ u - v by grind)
      have h7 := Rat.mul_le_mul_of_nonneg_right h4 (show 0 ≤ u - v by grind)
      constructor <;> grind
  have hpq' : p - q ≠ 0 := by grind
  have hrs' : r - s ≠ 0 := by grind
  have hsum : p - q = -(r - s) := by rw [ep, eq, er, es]; unfold cr2; grind
  have ex : cx + p / (p - q) * (dx - cx) = ax + r / (r - s) * (bx - ax) := by
    have e1 : (p - q) * (cx + p / (p - q) * (dx - cx)) = (p - q) * (ax + r / (r - s) * (bx - ax)) := by
      have e2 : (p - q) * (cx + p / (p - q) * (dx - cx)) = (p - q) * cx + p * (dx - cx) := by grind
      have e3 : (p - q) * (ax + r / (r - s) * (bx - ax)) = (p - q) * ax - r * (bx - ax) := by grind
      rw [e2, e3, ep, eq, er]
      unfold cr2; grind
    have e4 : (p - q) * ((cx + p / (p - q) * (dx - cx)) - (ax + r / (r - s) * (bx - ax))) = 0 := by grind
    rcases mul_zero_or e4 with h | h
    · exact absurd h hpq'
    · grind
  have ey : cy + p / (p - q) * (dy - cy) = ay + r / (r - s) * (by' - ay) := by
    have e1 : (p - q) * (cy + p / (p - q) * (dy - cy)) = (p - q) * (ay + r / (r - s) * (by' - ay)) := by
      have e2 : (p - q) * (cy + p / (p - q) * (dy - cy)) = (p - q) * cy + p * (dy - cy) := by grind
      have e3 : (p - q) * (ay + r / (r - s) * (by' - ay)) = (p - q) * ay - r * (by' - ay) := by grind
      rw [e2, e3, ep, eq, er]
      unfold cr2; grind
    have e4 : (p - q) * ((cy + p / (p - q) * (dy - cy)) - (ay + r / (r - s) * (by' - ay))) = 0 := by grind
    rcases mul_zero_or e4 with h | h
    · exact absurd h hpq'
    · grind
  exact ⟨_, _, ex ▸ hb w1 w2, ey ▸ hb w1 w2, hb t1 t2, hb t1 t2⟩
theorem apart_between {a b c d x : Rat} (h : apartP a b c d) (h1 : betwP a b x) (h2 : betwP c d x) : False := by unfold apartP betwP at *; grind

theorem cr_eq (u v w : P2) : cr u v w = cr2 u.1 u.2 v.1 v.2 w.1 w.2 := rfl
theorem orZ_zero {u v w : P2} : orZ u v w = 0 ↔ cr u v w = 0 := sgn_zero
theorem lx_not {u v : P2} : ¬ lx v u ↔ lx u v ∨ u = v := by
  unfold lx
  rw [Prod.ext_iff]
  grind
theorem lx_irr (u : P2) : ¬ lx u u := by unfold lx; grind
theorem lx_asym {u v : P2} (h : lx u v) : ¬ lx v u := by unfold lx at *; grind
theorem lx_trans {u v w : P2} (h : lx u v) (k : lx v w) : lx u w := by unfold lx at *; grind
theorem on_seg2 {a b p : P2} : (orZ a b p = 0 ∧ (if lx b a then ¬ lx p b ∧ ¬ lx a p else ¬ lx p a ∧ ¬ lx b p)) ↔ onS a b p := by
  rw [orZ_zero]
  exact on_seg
theorem onS_comm {a b p : P2} : onS a b p ↔ onS b a p := by
  unfold onS
  rw [betwP_comm, betwP_comm (a := a.2), cr_eq, cr_eq, cr2_swap]
  grind
theorem on_sorted2 {a b p : P2} (hs : ¬ lx b a) (hc : cr a b p = 0) : (¬ lx p a ∧ ¬ lx b p) ↔ onS a b p := by
  have := on_sorted hs hc
  unfold onS
  rw [← and_assoc, and_iff_left hc]
  exact this
theorem cr_swap (a b c : P2) : cr b a c = -cr a b c := cr2_swap _ _ _ _ _ _
theorem or_swap (a b c : P2) : orZ b a c = -orZ a b c := by
  unfold orZ
  rw [cr_swap, sgnQ_lt, sgnQ_lt]
  grind
theorem cr_self (a c : P2) : cr a a c = 0 := by unfold cr; grind
theorem cr_end (a c : P2) : cr a c c = 0 := by unfold cr; grind
theorem cr_end' (a c : P2) : cr a c a = 0 := by unfold cr; grind
theorem apartP_swap {a b c d : Rat} : apartP b a c d ↔ apartP a b c d := by unfold apartP; grind
theorem apartP_swap' {a b c d : Rat} : apartP a b d c ↔ apartP a b c d := by unfold apartP; grind
theorem lo2_comm (a b : P2) : lo2 a b = lo2 b a := by
  unfold lo2
  by_cases h : lx b a
  · rw [if_pos h, if_neg (lx_asym h)]
  · rw [if_neg h]
    rcases lx_not.1 h with h1 | h1
    · rw [if_pos h1]
    · rw [h1, if_neg (lx_irr _)]
theorem hi2_comm (a b : P2) : hi2 a b = hi2 b a := by
  unfold hi2
  by_cases h : lx b a
  · rw [if_pos h, if_neg (lx_asym h)]
  · rw [if_neg h]
    rcases lx_not.1 h with h1 | h1
    · rw [if_pos h1]
    · rw [h1, if_neg (lx_irr _)]
theorem touch_swap1 (a b c d : P2) : touch2 b a c d = touch2 a b c d := by
  have e : along2 b a c d = along2 a b c d := by unfold along2; rw [lo2_comm b a, hi2_comm b a]
  unfold touch2
  rw [e, apartP_swap, apartP_swap (a := a.2), or_swap a b c, or_swap a b d]
  have h1 : -orZ a b c * -orZ a b d = orZ a b c * orZ a b d := by grind
  have h2 : orZ c d b * orZ c d a = orZ c d a * orZ c d b := Int.mul_comm _ _
  rw [h1, h2]
  have h3 : (-orZ a b c = 0 ∧ -orZ a b d = 0 ∧ orZ c d b = 0 ∧ orZ c d a = 0) ↔ (orZ a b c = 0 ∧ orZ a b d = 0 ∧ orZ c d a = 0 ∧ orZ c d b = 0) := by grind
  have h4 : ((-orZ a b c = 0 ∨ -orZ a b d = 0) ∧ (orZ c d b = 0 ∨ orZ c d a = 0)) ↔ ((orZ a b c = 0 ∨ orZ a b d = 0) ∧ (orZ c d a = 0 ∨ orZ c d b = 0)) := by grind
  simp only [h3, h4]
theorem touch_swap2 (a b c d : P2) : touch2 a b d c = touch2 a b c d := by
  have e : along2 a b d c = along2 a b c d := by unfold along2; rw [lo2_comm d c, hi2_comm d c]
  unfold touch2
  rw [e, apartP_swap', apartP_swap' (a := a.2), or_swap c d a, or_swap c d b]
  have h1 : -orZ c d a * -orZ c d b = orZ c d a * orZ c d b := by grind
  have h2 : orZ a b d * orZ a b c = orZ a b c * orZ a b d := Int.mul_comm _ _
  rw [h1, h2]
  have h3 : (orZ a b d = 0 ∧ orZ a b c = 0 ∧ -orZ c d a = 0 ∧ -orZ c d b = 0) ↔ (orZ a b c = 0 ∧ orZ a b d = 0 ∧ orZ c d a = 0 ∧ orZ c d b = 0) := by grind
  have h4 : ((orZ a b d = 0 ∨ orZ a b c = 0) ∧ (-orZ c d a = 0 ∨ -orZ c d b = 0)) ↔ ((orZ a b c = 0 ∨ orZ a b d = 0) ∧ (orZ c d a = 0 ∨ orZ c d b = 0)) := by grind
  simp only [h3, h4]
theorem touch_sorted (a b c d : P2) : touch2 a b c d = touch2 (lo2 a b) (hi2 a b) (lo2 c d) (hi2 c d) := by
  unfold lo2 hi2
  split
  · split
    · rw [touch_swap1, touch_swap2]
    · rw [touch_swap1]
  · split
    · rw [touch_swap2]
    · rfl
theorem lo_hi (a b : P2) : ¬ lx (hi2 a b) (lo2 a b) := by
  unfold lo2 hi2
  split
  · rename_i h; exact lx_asym h
  · rename_i h; exact h
theorem lo2_sorted {a b : P2} (h : ¬ lx b a) : lo2 a b = a ∧ hi2 a b = b := ⟨if_neg h, if_neg h⟩

/-- All on a line, and apart in a coordinate: the one segment ends before the other begins. -/
theorem line_apart {a b c d : P2} (hab : ¬ lx b a) (hcd : ¬ lx d c) (h1 : cr a b c = 0) (h2 : cr a b d = 0) (h3 : cr c d a = 0) (h4 : cr c d b = 0) (hap : apartP a.1 b.1 c.1 d.1 ∨ apartP a.2 b.2 c.2 d.2) : lx b c ∨ lx d a := by
  rcases hap with hap | hap
  · unfold apartP at hap
    unfold lx
    grind
  · -- the order along the line is that of the second coordinate, or its reverse
    rw [lx_not] at hab hcd
    refine Classical.byContradiction fun hn => ?_
    have n1 : ¬ lx b c := fun e => hn (.inl e)
    have n2 : ¬ lx d a := fun e => hn (.inr e)
    rw [lx_not] at n1 n2
    -- c ≤ b and a ≤ d in the order of the line: the segments share a point
    have ho1 : onS a b c ∨ onS c d a := by
      by_cases e : lx c a
      · right
        refine (on_sorted2 (lx_not.2 hcd) h3).1 ⟨?_, ?_⟩
        · exact lx_asym e
        · exact lx_not.2 n2
      · left
        refine (on_sorted2 (lx_not.2 hab) h1).1 ⟨e, lx_not.2 n1⟩
    rcases ho1 with ⟨_, hb, _⟩ | ⟨_, hb, _⟩
    · exact apart_between hap hb (by unfold betwP; grind)
    · exact apart_between hap (x := a.2) (by unfold betwP; grind) hb
theorem line_eq {a b c d : P2} (hab : ¬ lx b a) (hcd : ¬ lx d c) (h1 : cr a b c = 0) (h2 : cr a b d = 0) (h3 : cr c d a = 0) (h4 : cr c d b = 0) : lineR a b c d = alongS a b c d := by
  unfold lineR alongS
  by_cases hh : lx (if lx d b then d else b) (if lx a c then c else a)
  · rw [if_pos hh, if_pos hh]
  · rw [if_neg hh, if_neg hh]
    by_cases he : (if lx a c then c else a) = (if lx d b then d else b)
    · rw [if_neg (fun e => e he), if_neg (show ¬ lx (if lx a c then c else a) (if lx d b then d else b) by rw [he]; exact lx_irr _)]
      have ho : onS a b (if lx a c then c else a) ∧ onS c d (if lx a c then c else a) := by
        have k1 : ¬ lx (if lx a c then c else a) a := by
          split
          · rename_i h; exact lx_asym h
          · exact lx_irr _
        have k2 : ¬ lx (if lx a c then c else a) c := by
          split
          · exact lx_irr _
          · rename_i h; exact h
        have k3 : ¬ lx b (if lx a c then c else a) := by
          rw [he]
          split
          · rename_i h; exact lx_asym h
          · exact lx_irr _
        have k4 : ¬ lx d (if lx a c then c else a) := by
          rw [he]
          split
          · exact lx_irr _
          · rename_i h; exact h
        have k5 : cr a b (if lx a c then c else a) = 0 := by
          split
          · exact h1
          · exact cr_end' a b
        have k6 : cr c d (if lx a c then c else a) = 0 := by
          split
          · exact cr_end' c d
          · exact h3
        exact ⟨(on_sorted2 hab k5).1 ⟨k1, k3⟩, (on_sorted2 hcd k6).1 ⟨k2, k4⟩⟩
      by_cases hx : ((if lx a c then c else a) = a ∨ (if lx a c then c else a) = b) ∧ ((if lx a c then c else a) = c ∨ (if lx a c then c else a) = d)
      · rw [if_pos ⟨hx.1, hx.2, ho⟩, if_pos hx]
      · rw [if_neg (fun e => hx ⟨e.1, e.2.1⟩), if_pos ho, if_neg hx]
    · rw [if_pos he, if_pos ((lx_not.1 hh).resolve_right he)]
theorem sgn_mul_pos {x y : Rat} : 0 < sgnQ x * sgnQ y ↔ 0 < x * y := by
  have h1 := sgnQ_lt x
  have h2 := sgnQ_lt y
  rcases lt_tri x 0 with hx | hx | hx <;> rcases lt_tri y 0 with hy | hy | hy
  · have := Rat.mul_pos (a := -x) (b := -y) (by grind) (by grind)
    have e1 : sgnQ x = -1 := by grind
    have e2 : sgnQ y = -1 := by grind
    rw [e1, e2]; grind
  · subst hy; have e : x * 0 = 0 := by grind
    have e2 : sgnQ 0 = 0 := by grind
    rw [e, e2]; simp
  · have := Rat.mul_pos (a := -x) (b := y) (by grind) hy
    have e1 : sgnQ x = -1 := by grind
    have e2 : sgnQ y = 1 := by grind
    rw [e1, e2]; grind
  · subst hx; have e : 0 * y = 0 := by grind
    have e2 : sgnQ 0 = 0 := by grind
    rw [e, e2]; simp
  · subst hx; have e : 0 * y = 0 := by grind
    have e2 : sgnQ 0 = 0 := by grind
    rw [e, e2]; simp
  · subst hx; have e : 0 * y = 0 := by grind
    have e2 : sgnQ 0 = 0 := by grind
    rw [e, e2]; simp
  · have := Rat.mul_pos (a := x) (b := -y) hx (by grind)
    have e1 : sgnQ x = 1 := by grind
    have e2 : sgnQ y = -1 := by grind
    rw [e1, e2]; grind
  · subst hy; have e : x * 0 = 0 := by grind
    have e2 : sgnQ 0 = 0 := by grind
    rw [e, e2]; simp
  · have := Rat.mul_pos hx hy
    have e1 : sgnQ x = 1 := by grind
    have e2 : sgnQ y = 1 := by grind
    rw [e1, e2]; grind
theorem or_mul_pos {a b c d e f : P2} : 0 < orZ a b c * orZ d e f ↔ 0 < cr a b c * cr d e f := sgn_mul_pos
/-- An end of each segment on the other's line. -/
theorem ends_eq {a b c d : P2} (hn : ¬ (cr a b c = 0 ∧ cr a b d = 0 ∧ cr c d a = 0 ∧ cr c d b = 0)) : ((cr a b c = 0 ∨ cr a b d = 0) ∧ (cr c d a = 0 ∨ cr c d b = 0)) ↔ (a = c ∨ a = d ∨ b = c ∨ b = d) := by
  have sw : ∀ u v w : P2, cr u v w = -cr v u w := fun u v w => cr_swap v u w
  constructor
  · rintro ⟨h1, h2⟩
    -- one end of each
    have key : ∀ {p q r s : P2}, cr p q r = 0 → cr r s p = 0 → p = r ∨ (cr p q s = 0 ∧ cr r s q = 0) := by
      intro p q r s k1 k2
      rcases ends_meet k1 k2 with h | h
      · exact .inl (Prod.ext h.1 h.2)
      · exact .inr h
    rcases h1 with h1 | h1 <;> rcases h2 with h2 | h2
    · rcases key h1 h2 with h | h
      · exact .inl h
      · exact absurd ⟨h1, h.1, h2, h.2⟩ hn
    · rcases key (p := b) (q := a) (r := c) (s := d) (by rw [cr_swap, h1]; grind) h2 with h | h
      · exact .inr (.inr (.inl h))
      · exact absurd ⟨h1, by rw [sw, h.1]; grind, h.2, h2⟩ hn
    · rcases key (p := a) (q := b) (r := d) (s := c) h1 (by rw [cr_swap, h2]; grind) with h | h
      · exact .inr (.inl h)
      · exact absurd ⟨h.1, h1, h2, by rw [sw, h.2]; grind⟩ hn
    · rcases key (p := b) (q := a) (r := d) (s := c) (by rw [cr_swap, h1]; grind) (by rw [cr_swap, h2]; grind) with h | h
      · exact .inr (.inr (.inr h))
      · exact absurd ⟨by rw [sw, h.1]; grind, h1, by rw [sw, h.2]; grind, h2⟩ hn
  · rintro (h | h | h | h)
    · subst h; exact ⟨.inl (cr_end' a b), .inl (cr_end' a d)⟩
    · subst h; exact ⟨.inr (cr_end' a b), .inl (cr_end c a)⟩
    · subst h; exact ⟨.inl (cr_end a b), .inr (cr_end' b d)⟩
    · subst h; exact ⟨.inr (cr_end a b), .inr (cr_end c b)⟩
theorem touch_S {a b c d : P2} (hab : ¬ lx b a) (hcd : ¬ lx d c) : touch2 a b c d = touchS a b c d := by
  unfold touch2 touchS
  simp only [orZ_zero]
  by_cases hz : cr a b c = 0 ∧ cr a b d = 0 ∧ cr c d a = 0 ∧ cr c d b = 0
  · obtain ⟨h1, h2, h3, h4⟩ := hz
    rw [if_pos (show cr a b c = 0 ∧ cr a b d = 0 ∧ cr c d a = 0 ∧ cr c d b = 0 from ⟨h1, h2, h3, h4⟩), if_pos (show cr a b c = 0 ∧ cr a b d = 0 ∧ cr c d a = 0 ∧ cr c d b = 0 from ⟨h1, h2, h3, h4⟩), line_eq hab hcd h1 h2 h3 h4]
    unfold along2
    rw [(lo2_sorted hab).1, (lo2_sorted hab).2, (lo2_sorted hcd).1, (lo2_sorted hcd).2]
    by_cases hap : apartP a.1 b.1 c.1 d.1 ∨ apartP a.2 b.2 c.2 d.2
    · rw [if_pos hap]
      have hl := line_apart hab hcd h1 h2 h3 h4 hap
      unfold alongS
      rw [if_pos]
      rcases hl with hl | hl
      · have e1 : lx a c := by
          rcases lx_not.1 hab with e | e
          · exact lx_trans e hl
          · rw [e]; exact hl
        have e2 : ¬ lx d b := by
          refine lx_asym ?_
          rcases lx_not.1 hcd with e | e
          · exact lx_trans hl e
          · rw [← e]; exact hl
        rw [if_neg e2, if_pos e1]; exact hl
      · have e1 : ¬ lx a c := by
          refine lx_asym ?_
          rcases lx_not.1 hcd with e | e
          · exact lx_trans e hl
          · rw [e]; exact hl
        have e2 : lx d b := by
          rcases lx_not.1 hab with e | e
          · exact lx_trans hl e
          · rw [← e]; exact hl
        rw [if_pos e2, if_neg e1]; exact hl
    · rw [if_neg hap]
  · rw [if_neg hz, if_neg hz]
    by_cases hd : a = b ∨ c = d
    · rw [if_pos hd]
      have e0 : singleR a b c d = 0 := by
        unfold singleR
        rw [if_neg]
        rintro (⟨e, h⟩ | ⟨e, h⟩)
        · subst e
          exact hz ⟨cr_self _ _, cr_self _ _, h.2.2, h.2.2⟩
        · subst e
          exact hz ⟨h.2.2, h.2.2, cr_self _ _, cr_self _ _⟩
      rw [e0]
      by_cases hap : apartP a.1 b.1 c.1 d.1 ∨ apartP a.2 b.2 c.2 d.2
      · rw [if_pos hap]
      · rw [if_neg hap, if_pos]
        rw [or_mul_pos, or_mul_pos]
        have sqp : ∀ x : Rat, x ≠ 0 → 0 < x * x := by
          intro x hx
          rcases lt_tri x 0 with h | h | h
          · have := Rat.mul_pos (a := -x) (b := -x) (by grind) (by grind); grind
          · exact absurd h hx
          · exact Rat.mul_pos h h
        rcases hd with e | e
        · subst e
          right
          refine sqp _ fun h => ?_
          exact hz ⟨cr_self _ _, cr_self _ _, h, h⟩
        · subst e
          left
          refine sqp _ fun h => ?_
          exact hz ⟨h, h, cr_self _ _, cr_self _ _⟩
    · rw [if_neg hd]
      by_cases hs : 0 < orZ a b c * orZ a b d ∨ 0 < orZ c d a * orZ c d b
      · rw [if_pos hs, if_pos hs]
        split <;> rfl
      · rw [if_neg hs, if_neg hs]
        rw [or_mul_pos, or_mul_pos] at hs
        have hs1 : cr a b c * cr a b d ≤ 0 := Rat.not_lt.1 fun e => hs (.inl e)
        have hs2 : cr c d a * cr c d b ≤ 0 := Rat.not_lt.1 fun e => hs (.inr e)
        have hnap : ¬ (apartP a.1 b.1 c.1 d.1 ∨ apartP a.2 b.2 c.2 d.2) := by
          intro hap
          have par : ∀ {p q r s : P2}, p ≠ q → cr p q r = 0 → cr p q s = 0 → cr r s p = 0 ∧ cr r s q = 0 := by
            intro p q r s hne k1 k2
            have hu : q.1 - p.1 ≠ 0 ∨ q.2 - p.2 ≠ 0 := by
              refine Classical.byContradiction fun e => hne (Prod.ext ?_ ?_) <;> grind
            have k3 : (r.1 - p.1) * (q.2 - p.2) = (r.2 - p.2) * (q.1 - p.1) := by unfold cr at k1; grind
            have k4 : (s.1 - p.1) * (q.2 - p.2) = (s.2 - p.2) * (q.1 - p.1) := by unfold cr at k2; grind
            have k5 := cross_par hu k3 k4
            unfold cr
            constructor <;> grind
          have hsum : cr a b c - cr a b d = -(cr c d a - cr c d b) := by unfold cr; grind
          have hpq : cr a b c ≠ cr a b d := by
            intro e
            rw [e] at hs1
            have h5 := sq_nonneg (cr a b d)
            have h6 : cr a b d * cr a b d = 0 := by grind
            have h7 : cr a b d = 0 := by rcases mul_zero_or h6 with h | h <;> exact h
            obtain ⟨h8, h9⟩ := par (fun e => hd (.inl e)) (by rw [e]; exact h7) h7
            exact hz ⟨by rw [e]; exact h7, h7, h8, h9⟩
          obtain ⟨x, y, k1, k2, k3, k4⟩ := cross_point (ax := a.1) (ay := a.2) (bx := b.1) (by' := b.2) (cx := c.1) (cy := c.2) (dx := d.1) (dy := d.2) hpq hs1 hs2 (by intro e; apply hpq; rw [cr_eq c d a, cr_eq c d b, e] at hsum; grind)
          rcases hap with h | h
          · exact apart_between h k1 k3
          · exact apart_between h k2 k4
        rw [if_neg hnap]
        by_cases he : (cr a b c = 0 ∨ cr a b d = 0) ∧ (cr c d a = 0 ∨ cr c d b = 0)
        · rw [if_pos he, if_pos ((ends_eq hz).1 he)]
        · rw [if_neg he, if_neg (fun e => he ((ends_eq hz).2 e))]
theorem touch_eq (a b c d : P2) : touch2 a b c d = touchR a b c d := by
  rw [touch_sorted]
  unfold touchR
  exact touch_S (lo_hi a b) (lo_hi c d)
/-- The segments the other way round. -/
theorem touch_comm (a b c d : P2) : touch2 c d a b = touch2 a b c d := by
  have hal : ∀ (a b c d : P2), ¬ lx b a → ¬ lx d c → alongS c d a b = alongS a b c d := by
    intro a b c d _ _
    unfold alongS
    have e1 : (if lx c a then a else c) = (if lx a c then c else a) := by
      by_cases h : lx a c
      · rw [if_pos h, if_neg (lx_asym h)]
      · rw [if_neg h]
        rcases lx_not.1 h with h1 | h1
        · rw [if_pos h1]
        · rw [h1, if_neg (lx_irr _)]
    have e2 : (if lx b d then b else d) = (if lx d b then d else b) := by
      by_cases h : lx d b
      · rw [if_pos h, if_neg (lx_asym h)]
      · rw [if_neg h]
        rcases lx_not.1 h with h1 | h1
        · rw [if_pos h1]
        · rw [h1, if_neg (lx_irr _)]
    rw [e1, e2]
    simp only [and_comm]
  have hap : ∀ {a b c d : Rat}, apartP c d a b ↔ apartP a b c d := by intro a b c d; unfold apartP; grind
  unfold touch2
  have e : along2 c d a b = along2 a b c d := hal _ _ _ _ (lo_hi a b) (lo_hi c d)
  rw [e, hap (a := a.1) (b := b.1) (c := c.1) (d := d.1), hap (a := a.2) (b := b.2) (c := c.2) (d := d.2)]
  have h3 : (orZ c d a = 0 ∧ orZ c d b = 0 ∧ orZ a b c = 0 ∧ orZ a b d = 0) ↔ (orZ a b c = 0 ∧ orZ a b d = 0 ∧ orZ c d a = 0 ∧ orZ c d b = 0) := by grind
  have h4 : (0 < orZ c d a * orZ c d b ∨ 0 < orZ a b c * orZ a b d) ↔ (0 < orZ a b c * orZ a b d ∨ 0 < orZ c d a * orZ c d b) := or_comm
  have h5 : ((orZ c d a = 0 ∨ orZ c d b = 0) ∧ (orZ a b c = 0 ∨ orZ a b d = 0)) ↔ ((orZ a b c = 0 ∨ orZ a b d = 0) ∧ (orZ c d a = 0 ∨ orZ c d b = 0)) := and_comm
  simp only [h3, h4, h5]
end Bk

namespace Bk
set_option linter.unusedVariables false
set_option linter.unusedSimpArgs false
open Go Go.RowKit
open Classical

/-! small numbers -/
def smZ (q : Rat) : Int := if q.den ≠ 1 ∨ 1 < (limbs q.num.natAbs).length then 0 else q.num
def smB (q : Rat) : Prop := q.den = 1 ∧ q.num.natAbs < 268435456
theorem len_le_one {n : Nat} (h : n < 4294967296) : (limbs n).length ≤ 1 := limbs_len_of_lt (by rw [Nat.pow_one]; exact h)
theorem smB_len {q : Rat} (h : smB q) : (limbs q.num.natAbs).length ≤ 1 := len_le_one (by have := h.2; omega)
theorem sm_eq {q : Rat} (h : smB q) : q = ((smZ q : Int) : Rat) ∧ -268435456 < smZ q ∧ smZ q < 268435456 := by
  have h1 := smB_len h
  have e : smZ q = q.num := by unfold smZ; rw [if_neg]; rintro (e | e); exact e h.1; omega
  have h2 := h.2
  refine ⟨?_, by rw [e]; omega, by rw [e]; omega⟩
  rw [e]
  have h3 := Rat.divInt_eq_div q.num q.den
  rw [Rat.num_divInt_den, h.1] at h3
  rw [h3]
  have e1 : ((1 : Nat) : Int) = 1 := rfl
  have : ((q.num : Rat) / ((((1 : Nat) : Int)) : Rat)) = (q.num : Rat) := by rw [e1]; have e2 : ((1 : Int) : Rat) = 1 := rfl; rw [e2]; grind
  rw [this]
  rw [h3] at *
  simp
theorem sm_e1 {q : Rat} (h : (0 : Int) < ↑(limbs (denN q.den)).length ∨ (1 : Int) < ↑(limbs q.num.natAbs).length) : smZ q = 0 ∧ ¬ smB q := by
  have h1 : q.den ≠ 1 ∨ 1 < (limbs q.num.natAbs).length := by
    rcases h with h | h
    · left; intro e; rw [e, denN_one, limbs_zero] at h; simp at h
    · right; omega
  refine ⟨if_pos h1, fun hb => ?_⟩
  rcases h1 with e | e
  · exact e hb.1
  · have := smB_len hb; omega
theorem sm_den {q : Rat} (h : ¬ ((0 : Int) < ↑(limbs (denN q.den)).length ∨ (1 : Int) < ↑(limbs q.num.natAbs).length)) : q.den = 1 ∧ (limbs q.num.natAbs).length ≤ 1 := by
  refine ⟨(denL_nil_iff q.den_nz).1 ?_, by omega⟩
  have : (limbs (denN q.den)).length = 0 := by omega
  exact List.eq_nil_of_length_eq_zero this
theorem sm_num {q : Rat} (h : ¬ ((0 : Int) < ↑(limbs (denN q.den)).length ∨ (1 : Int) < ↑(limbs q.num.natAbs).length)) : smZ q = q.num := by
  obtain ⟨h1, h2⟩ := sm_den h
  unfold smZ
  rw [if_neg]
  rintro (e | e)
  · exact e h1
  · omega
theorem sm_e2 {q : Rat} (h : ¬ ((0 : Int) < ↑(limbs (denN q.den)).length ∨ (1 : Int) < ↑(limbs q.num.natAbs).length)) (h0 : (↑(limbs q.num.natAbs).length : Int) = 0) : smZ q = 0 ∧ smB q := by
  obtain ⟨h1, h2⟩ := sm_den h
  have hn : q.num.natAbs = 0 := by
    refine Classical.byContradiction fun e => ?_
    have := limbs_len_pos.2 e
    omega
  refine ⟨by rw [sm_num h]; omega, h1, by omega⟩
theorem sm_limb {q : Rat} (h : ¬ ((0 : Int) < ↑(limbs (denN q.den)).length ∨ (1 : Int) < ↑(limbs q.num.natAbs).length)) (h0 : ¬ (↑(limbs q.num.natAbs).length : Int) = 0) : (limbs q.num.natAbs).getD 0 0 = q.num.natAbs ∧ q.num.natAbs < 4294967296 ∧ (smB q ↔ q.num.natAbs < 268435456) := by
  obtain ⟨h1, h2⟩ := sm_den h
  have h3 := val_one (xs := limbs q.num.natAbs) (by omega)
  rw [val_limbs] at h3
  have h4 := limbs_lt_pow q.num.natAbs
  have h5 : (limbs q.num.natAbs).length = 1 := by omega
  rw [h5, Nat.pow_one] at h4
  exact ⟨h3.symm, h4, fun e => e.2, fun e => ⟨h1, e⟩⟩
theorem tup_small {x y : Int} {p q : Prop} (h1 : x = y) (h2 : p ↔ q) : Value.tuple #[vI x, vB p] = .tuple #[vI y, vB q] := by subst h1; rw [vB_iff h2]
theorem prod_b {u v : Int} (h1 : -536870912 < u) (h2 : u < 536870912) (h3 : -536870912 < v) (h4 : v < 536870912) : -288230376151711744 ≤ u * v ∧ u * v ≤ 288230376151711744 := by
  have key : ∀ {a b : Int}, 0 ≤ a → a < 536870912 → 0 ≤ b → b < 536870912 → 0 ≤ a * b ∧ a * b ≤ 288230376151711744 := by
    intro a b ha ha' hb hb'
    have k1 := Int.mul_nonneg ha hb
    have k2 : a * b ≤ 536870912 * 536870912 := Int.mul_le_mul (by omega) (by omega) hb (by omega)
    omega
  rcases Int.le_total 0 u with hu | hu <;> rcases Int.le_total 0 v with hv | hv
  · have := key hu h2 hv h4; omega
  · have := key hu h2 (b := -v) (by omega) (by omega)
    rw [Int.mul_neg] at this; omega
  · have := key (a := -u) (by omega) (by omega) hv h4
    rw [Int.neg_mul] at this; omega
  · have := key (a := -u) (b := -v) (by omega) (by omega) (by omega) (by omega)
    rw [Int.neg_mul_neg] at this; omega
def sgnZ (n : Int) : Int := if 0 < n then 1 else if n < 0 then -1 else 0
theorem sgn_cast (n : Int) : sgnQ (n : Rat) = sgnZ n := by
  rw [sgnQ_lt]
  unfold sgnZ
  have h0 : ((n : Rat) = 0) ↔ n = 0 := by
    have e : (0 : Rat) = ((0 : Int) : Rat) := rfl
    rw [e, Rat.intCast_inj]
  have h1 : ((n : Rat) < 0) ↔ n < 0 := by
    have e : (0 : Rat) = ((0 : Int) : Rat) := rfl
    rw [e, Rat.intCast_lt_intCast]
  simp only [h0, h1]
  split
  · rename_i h; subst h; simp
  · split
    · rw [if_neg (by omega)]
    · rw [if_pos (by omega)]
theorem or_small {a b c : P2} (h1 : smB a.1 ∧ smB a.2) (h2 : smB b.1 ∧ smB b.2) (h3 : smB c.1 ∧ smB c.2) :
    sgnZ ((smZ b.1 - smZ a.1) * (smZ c.2 - smZ a.2) - (smZ b.2 - smZ a.2) * (smZ c.1 - smZ a.1)) = orZ a b c := by
  rw [← sgn_cast]
  unfold orZ cr
  congr 1
  rw [Rat.intCast_sub, Rat.intCast_mul, Rat.intCast_mul, Rat.intCast_sub, Rat.intCast_sub, Rat.intCast_sub, Rat.intCast_sub]
  rw [← (sm_eq h1.1).1, ← (sm_eq h1.2).1, ← (sm_eq h2.1).1, ← (sm_eq h2.2).1, ← (sm_eq h3.1).1, ← (sm_eq h3.2).1]
theorem or_cmp (a b c : P2) : cmpQ ((b.1 - a.1) * (c.2 - a.2)) ((b.2 - a.2) * (c.1 - a.1)) = orZ a b c := by rw [cmpQ_sub]; rfl
theorem or_range (a b c : P2) : -1 ≤ orZ a b c ∧ orZ a b c ≤ 1 := sgnQ_range _
theorem pr_eq {a b : Pt} {i j : Nat} : pr a i j = pr b i j ↔ a.at i = b.at i ∧ a.at j = b.at j := by unfold pr; rw [Prod.ext_iff]
theorem betw_iff {a b x : Rat} : ((cmpQ a x ≤ 0 ∧ cmpQ x b ≤ 0) ∨ (0 ≤ cmpQ a x ∧ 0 ≤ cmpQ x b)) ↔ betwP a b x := by
  have h1 := cmp_le_iff (a := a) (b := x)
  have h2 := cmp_le_iff (a := x) (b := b)
  have h3 := cmpQ_anti a x
  have h4 := cmpQ_anti x b
  have h5 := cmp_le_iff (a := x) (b := a)
  have h6 := cmp_le_iff (a := b) (b := x)
  unfold betwP
  rw [← h1, ← h2, ← h5, ← h6]
  omega
theorem apart_iff {a b c d : Rat} : ((((cmpQ a c < 0 ∧ cmpQ a d < 0) ∧ cmpQ b c < 0) ∧ cmpQ b d < 0) ∨ (((0 < cmpQ a c ∧ 0 < cmpQ a d) ∧ 0 < cmpQ b c) ∧ 0 < cmpQ b d)) ↔ apartP a b c d := by
  unfold apartP
  simp only [cmpQ_neg, cmpQ_pos]
  grind
theorem less_iff {a b : Pt} {i j : Nat} : (cmpQ (a.at i) (b.at i) < 0 ∨ (cmpQ (a.at i) (b.at i) = 0 ∧ cmpQ (a.at j) (b.at j) < 0)) ↔ lx (pr a i j) (pr b i j) := by
  rw [cmpQ_neg, cmpQ_zero, cmpQ_neg]; rfl
/-! the ends of segments, with all coordinates -/
noncomputable def loT (a b : Pt) (i j : Nat) : Pt := if lx (pr b i j) (pr a i j) then b else a
noncomputable def hiT (a b : Pt) (i j : Nat) : Pt := if lx (pr b i j) (pr a i j) then a else b
noncomputable def mxT (a c : Pt) (i j : Nat) : Pt := if lx (pr a i j) (pr c i j) then c else a
noncomputable def mnT (b d : Pt) (i j : Nat) : Pt := if lx (pr d i j) (pr b i j) then d else b
theorem along_T (a b c d : Pt) (i j : Nat) {A B C D LO HI : Pt} (hA : A = loT a b i j) (hB : B = hiT a b i j) (hC : C = loT c d i j) (hD : D = hiT c d i j) (hL : LO = mxT A C i j) (hH : HI = mnT B D i j) :
    along2 (pr a i j) (pr b i j) (pr c i j) (pr d i j) = if lx (pr HI i j) (pr LO i j) then 0 else if lx (pr LO i j) (pr HI i j) then 3 else if (pr LO i j = pr A i j ∨ pr LO i j = pr B i j) ∧ (pr LO i j = pr C i j ∨ pr LO i j = pr D i j) then 1 else 2 := by
  unfold along2 alongS
  have e1 : lo2 (pr a i j) (pr b i j) = pr A i j := by rw [hA]; unfold lo2 loT; rw [pr_ite]
  have e2 : hi2 (pr a i j) (pr b i j) = pr B i j := by rw [hB]; unfold hi2 hiT; rw [pr_ite]
  have e3 : lo2 (pr c i j) (pr d i j) = pr C i j := by rw [hC]; unfold lo2 loT; rw [pr_ite]
  have e4 : hi2 (pr c i j) (pr d i j) = pr D i j := by rw [hD]; unfold hi2 hiT; rw [pr_ite]
  have e5 : (if lx (pr A i j) (pr C i j) then pr C i j else pr A i j) = pr LO i j := by rw [hL]; unfold mxT; rw [pr_ite]
  have e6 : (if lx (pr D i j) (pr B i j) then pr D i j else pr B i j) = pr HI i j := by rw [hH]; unfold mnT; rw [pr_ite]
  rw [e1, e2, e3, e4, e5, e6]
theorem touch_range (a b c d : P2) : 0 ≤ touch2 a b c d ∧ touch2 a b c d ≤ 3 := by
  unfold touch2 along2 alongS
  repeat' split
  all_goals omega
end Bk

namespace Bk
set_option linter.unusedVariables false
set_option linter.unusedSimpArgs false
open Go Go.RowKit
open Classical

/-- A point of a list. -/
def gp (l : List Pt) (m : Nat) : Pt := l.getD m (T3.mk (0 : Rat) (0 : Rat) (0 : Rat))
/-- Twice the area, of the first edges. -/
def areaTo (l : List Pt) (i j : Nat) : Nat → Rat
  | 0 => 0
  | m + 1 => areaTo l i j m + ((gp l m).at i * (gp l ((m + 1) % l.length)).at j - (gp l ((m + 1) % l.length)).at i * (gp l m).at j)
theorem turn_eq (a b c : Pt) : sgnQ (areaTo [a, b, c] 0 1 3) = orZ (pr a 0 1) (pr b 0 1) (pr c 0 1) := by
  have : areaTo [a, b, c] 0 1 3 = cr (pr a 0 1) (pr b 0 1) (pr c 0 1) := by
    simp [areaTo, gp, pr, cr, T3.at]
    grind
  unfold orZ
  rw [this]
/-- An edge changes the side. -/
def crossP (a b p : P2) : Prop := ¬ (a.2 ≤ p.2 ↔ b.2 ≤ p.2) ∧ ((a.2 ≤ p.2 ∧ 0 < orZ a b p) ∨ (b.2 ≤ p.2 ∧ orZ a b p < 0))
def edgeA (l : List Pt) (i j m : Nat) : P2 := pr (gp l m) i j
def edgeB (l : List Pt) (i j m : Nat) : P2 := pr (gp l ((m + 1) % l.length)) i j
def oddTo (l : List Pt) (p : P2) (i j : Nat) : Nat → Prop
  | 0 => False
  | m + 1 => (crossP (edgeA l i j m) (edgeB l i j m) p ∧ ¬ oddTo l p i j m) ∨ (¬ crossP (edgeA l i j m) (edgeB l i j m) p ∧ oddTo l p i j m)
noncomputable def insZ (l : List Pt) (p : P2) (i j : Nat) : Int :=
  if ∃ m, m < l.length ∧ onS (edgeA l i j m) (edgeB l i j m) p then 0 else if oddTo l p i j l.length then 1 else -1
theorem ins_on {l : List Pt} {p : P2} {i j m : Nat} (hm : m < l.length) (h : onS (edgeA l i j m) (edgeB l i j m) p) : 0 = insZ l p i j := (if_pos ⟨m, hm, h⟩).symm
theorem ins_in {l : List Pt} {p : P2} {i j n : Nat} (hn : ¬ n < l.length) (hn2 : n ≤ l.length) (h : ∀ q, q < n → ¬ onS (edgeA l i j q) (edgeB l i j q) p) (ho : oddTo l p i j n) : 1 = insZ l p i j := by
  have e : n = l.length := by omega
  subst e
  unfold insZ
  rw [if_neg (fun ⟨m, hm, hq⟩ => h m hm hq), if_pos ho]
theorem ins_out {l : List Pt} {p : P2} {i j n : Nat} (hn : ¬ n < l.length) (hn2 : n ≤ l.length) (h : ∀ q, q < n → ¬ onS (edgeA l i j q) (edgeB l i j q) p) (ho : ¬ oddTo l p i j n) : -1 = insZ l p i j := by
  have e : n = l.length := by omega
  subst e
  unfold insZ
  rw [if_neg (fun ⟨m, hm, hq⟩ => h m hm hq), if_neg ho]
theorem on_next {l : List Pt} {p : P2} {i j n : Nat} (h : ∀ q, q < n → ¬ onS (edgeA l i j q) (edgeB l i j q) p) (h1 : ¬ onS (edgeA l i j n) (edgeB l i j n) p) : ∀ q, q < n + 1 → ¬ onS (edgeA l i j q) (edgeB l i j q) p := fun q hq => by
  rcases Nat.lt_succ_iff_lt_or_eq.1 hq with h2 | h2
  · exact h q h2
  · subst h2; exact h1
theorem odd_same {l : List Pt} {p : P2} {i j n : Nat} (h : (edgeA l i j n).2 ≤ p.2 ↔ (edgeB l i j n).2 ≤ p.2) : oddTo l p i j n = oddTo l p i j (n + 1) := by
  have : ¬ crossP (edgeA l i j n) (edgeB l i j n) p := fun hc => hc.1 h
  show _ = (_ ∨ _)
  simp [this]
theorem odd_flip {l : List Pt} {p : P2} {i j n : Nat} (h : ¬ ((edgeA l i j n).2 ≤ p.2 ↔ (edgeB l i j n).2 ≤ p.2)) (h1 : ((edgeA l i j n).2 ≤ p.2 ∧ 0 < orZ (edgeA l i j n) (edgeB l i j n) p) ∨ ((edgeB l i j n).2 ≤ p.2 ∧ orZ (edgeA l i j n) (edgeB l i j n) p < 0)) : (¬ oddTo l p i j n) = oddTo l p i j (n + 1) := by
  have : crossP (edgeA l i j n) (edgeB l i j n) p := ⟨h, h1⟩
  show _ = (_ ∨ _)
  simp [this]
theorem odd_stay {l : List Pt} {p : P2} {i j n : Nat} (h1 : ¬ (((edgeA l i j n).2 ≤ p.2 ∧ 0 < orZ (edgeA l i j n) (edgeB l i j n) p) ∨ ((edgeB l i j n).2 ≤ p.2 ∧ orZ (edgeA l i j n) (edgeB l i j n) p < 0))) : oddTo l p i j n = oddTo l p i j (n + 1) := by
  have : ¬ crossP (edgeA l i j n) (edgeB l i j n) p := fun hc => h1 hc.2
  show _ = (_ ∨ _)
  simp [this]
theorem less_1 {a b : Pt} (h : ¬ cmpQ a.x b.x = 0) : cmpQ a.x b.x < 0 ↔ lx (pr a 0 1) (pr b 0 1) := by
  have h2 := less_iff (a := a) (b := b) (i := 0) (j := 1)
  rw [← h2]
  exact ⟨.inl, fun e => e.elim id fun e => absurd e.1 h⟩
theorem less_2 {a b : Pt} (h : ¬ ¬ cmpQ a.x b.x = 0) : cmpQ a.y b.y < 0 ↔ lx (pr a 0 1) (pr b 0 1) := by
  have h1 := Classical.not_not.1 h
  have h2 := less_iff (a := a) (b := b) (i := 0) (j := 1)
  rw [← h2]
  exact ⟨fun e => .inr ⟨h1, e⟩, fun e => e.elim (fun e => absurd h1 (by have : cmpQ a.x b.x < 0 := e; omega)) fun e => e.2⟩
theorem pr_loT (a b : Pt) (i j : Nat) : pr (loT a b i j) i j = lo2 (pr a i j) (pr b i j) := pr_ite _ _ _ _
theorem pr_hiT (a b : Pt) (i j : Nat) : pr (hiT a b i j) i j = hi2 (pr a i j) (pr b i j) := pr_ite _ _ _ _
/-- On a segment, by its ends in order. -/
theorem on_T {a b p : Pt} {i j : Nat} : (orZ (pr (loT a b i j) i j) (pr (hiT a b i j) i j) (pr p i j) = 0 ∧ ¬ lx (pr p i j) (pr (loT a b i j) i j) ∧ ¬ lx (pr (hiT a b i j) i j) (pr p i j)) ↔ onS (pr a i j) (pr b i j) (pr p i j) := by
  rw [pr_loT, pr_hiT, ← on_seg2, orZ_zero, orZ_zero]
  unfold lo2 hi2
  split
  · rw [cr_swap]
    grind
  · exact Iff.rfl
noncomputable def lineT (a b c d lo hi : Pt) : Int :=
  if lx (pr hi 0 1) (pr lo 0 1) then 0 else if ¬ pr lo 0 1 = pr hi 0 1 then 3
  else if (((pr lo 0 1 = pr a 0 1 ∨ pr lo 0 1 = pr b 0 1) ∧ (pr lo 0 1 = pr c 0 1 ∨ pr lo 0 1 = pr d 0 1)) ∧ onS (pr a 0 1) (pr b 0 1) (pr lo 0 1)) ∧ onS (pr c 0 1) (pr d 0 1) (pr lo 0 1) then 1
  else if onS (pr a 0 1) (pr b 0 1) (pr lo 0 1) ∧ onS (pr c 0 1) (pr d 0 1) (pr lo 0 1) then 2 else 0
theorem line_T {a b c d lo hi : Pt} (h1 : lo = mxT a c 0 1) (h2 : hi = mnT b d 0 1) : lineT a b c d lo hi = lineR (pr a 0 1) (pr b 0 1) (pr c 0 1) (pr d 0 1) := by
  have e1 : pr lo 0 1 = if lx (pr a 0 1) (pr c 0 1) then pr c 0 1 else pr a 0 1 := by rw [h1]; exact pr_ite _ _ _ _
  have e2 : pr hi 0 1 = if lx (pr d 0 1) (pr b 0 1) then pr d 0 1 else pr b 0 1 := by rw [h2]; exact pr_ite _ _ _ _
  unfold lineT lineR
  rw [e1, e2]
  simp only [and_assoc, ne_eq]
noncomputable def touchT (a b c d : Pt) : Int :=
  if ((orZ (pr a 0 1) (pr b 0 1) (pr c 0 1) = 0 ∧ orZ (pr a 0 1) (pr b 0 1) (pr d 0 1) = 0) ∧ orZ (pr c 0 1) (pr d 0 1) (pr a 0 1) = 0) ∧ orZ (pr c 0 1) (pr d 0 1) (pr b 0 1) = 0 then lineR (pr a 0 1) (pr b 0 1) (pr c 0 1) (pr d 0 1)
  else if pr a 0 1 = pr b 0 1 ∨ pr c 0 1 = pr d 0 1 then singleR (pr a 0 1) (pr b 0 1) (pr c 0 1) (pr d 0 1)
  else if 0 < orZ (pr a 0 1) (pr b 0 1) (pr c 0 1) * orZ (pr a 0 1) (pr b 0 1) (pr d 0 1) ∨ 0 < orZ (pr c 0 1) (pr d 0 1) (pr a 0 1) * orZ (pr c 0 1) (pr d 0 1) (pr b 0 1) then 0
  else if ((pr a 0 1 = pr c 0 1 ∨ pr a 0 1 = pr d 0 1) ∨ pr b 0 1 = pr c 0 1) ∨ pr b 0 1 = pr d 0 1 then 1 else 2
theorem touch_T {a b c d A B C D : Pt} (h1 : A = loT (T3.mk a.x a.y 0) (T3.mk b.x b.y 0) 0 1) (h2 : B = hiT (T3.mk a.x a.y 0) (T3.mk b.x b.y 0) 0 1) (h3 : C = loT (T3.mk c.x c.y 0) (T3.mk d.x d.y 0) 0 1) (h4 : D = hiT (T3.mk c.x c.y 0) (T3.mk d.x d.y 0) 0 1) :
    touchT A B C D = touchR (pr a 0 1) (pr b 0 1) (pr c 0 1) (pr d 0 1) := by
  have e1 : pr A 0 1 = lo2 (pr a 0 1) (pr b 0 1) := by rw [h1]; exact pr_loT _ _ _ _
  have e2 : pr B 0 1 = hi2 (pr a 0 1) (pr b 0 1) := by rw [h2]; exact pr_hiT _ _ _ _
  have e3 : pr C 0 1 = lo2 (pr c 0 1) (pr d 0 1) := by rw [h3]; exact pr_loT _ _ _ _
  have e4 : pr D 0 1 = hi2 (pr c 0 1) (pr d 0 1) := by rw [h4]; exact pr_hiT _ _ _ _
  unfold touchT touchR touchS
  rw [e1, e2, e3, e4]
  simp only [and_assoc, or_assoc]
/-- The chapter's examples. -/
theorem sane_area : areaTo [(T3.mk ((0 : Int) : Rat) ((0 : Int) : Rat) ((0 : Int) : Rat)), (T3.mk ((2 : Int) : Rat) ((0 : Int) : Rat) ((0 : Int) : Rat)), (T3.mk ((0 : Int) : Rat) ((2 : Int) : Rat) ((0 : Int) : Rat))] 0 1 3 = ((4 : Int) : Rat) := by decide +kernel
theorem sane_in : insZ [(T3.mk ((0 : Int) : Rat) ((0 : Int) : Rat) ((0 : Int) : Rat)), (T3.mk ((2 : Int) : Rat) ((0 : Int) : Rat) ((0 : Int) : Rat)), (T3.mk ((0 : Int) : Rat) ((2 : Int) : Rat) ((0 : Int) : Rat))] (pr (T3.mk ((1 : Int) : Rat) ((1 : Int) : Rat) ((0 : Int) : Rat)) 0 1) 0 1 = 0 := by
  refine if_pos ⟨1, by decide, ?_⟩
  unfold onS betwP
  decide +kernel
theorem sane_touch : touch2 (pr (T3.mk ((0 : Int) : Rat) ((0 : Int) : Rat) ((0 : Int) : Rat)) 0 1) (pr (T3.mk ((2 : Int) : Rat) ((0 : Int) : Rat) ((0 : Int) : Rat)) 0 1) (pr (T3.mk ((1 : Int) : Rat) ((0 : Int) : Rat) ((0 : Int) : Rat)) 0 1) (pr (T3.mk ((1 : Int) : Rat) ((5 : Int) : Rat) ((0 : Int) : Rat)) 0 1) = 2 := by
  unfold touch2
  simp only [orZ_zero, or_mul_pos]
  unfold apartP
  rw [if_neg (by decide +kernel), if_neg (by decide +kernel), if_neg (by decide +kernel), if_neg (by decide +kernel)]
end Bk
