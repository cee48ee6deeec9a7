/- Texts that the proof needs, part 4. -/
import Derived.Test.YtghhjjmjpeehdaaGreatK3
namespace Bk
set_option linter.unusedVariables false
set_option linter.unusedSimpArgs false
open Go Go.RowKit
def amask (o : Oper) : Nat := o.after.toList.foldl (fun a e => if Region.binds .any e then a ||| (1 <<< e.on) else a) 0
theorem testBit_bit (k j : Nat) : (1 <<< k).testBit j = decide (j = k) := by
  rw [Nat.one_shiftLeft, Nat.testBit_two_pow]
  exact Bool.eq_iff_iff.2 (by simp [eq_comm])
theorem amask_spec (o : Oper) (k : Nat) : (amask o).testBit k = true ↔ ∃ e ∈ o.after, Region.binds .any e = true ∧ e.on = k := by
  have key : ∀ (l : List Edge) (a : Nat), (l.foldl (fun a e => if Region.binds .any e then a ||| (1 <<< e.on) else a) a).testBit k = true ↔ a.testBit k = true ∨ ∃ e ∈ l, Region.binds .any e = true ∧ e.on = k := by
    intro l
    induction l with
    | nil => intro a; simp
    | cons e l ih =>
      intro a
      rw [List.foldl_cons, ih]
      by_cases hb : Region.binds .any e = true
      · rw [if_pos hb, Nat.testBit_or, testBit_bit]
        simp only [Bool.or_eq_true, decide_eq_true_eq, List.mem_cons, exists_eq_or_imp, hb, true_and, or_assoc]
        constructor
        · rintro (h | h | h)
          · exact .inl h
          · exact .inr (.inl h.symm)
          · exact .inr (.inr h)
        · rintro (h | h | h)
          · exact .inl h
          · exact .inr (.inl h.symm)
          · exact .inr (.inr h)
      · rw [if_neg hb]
        simp only [List.mem_cons, exists_eq_or_imp, hb, false_and, false_or]
        simp
  unfold amask
  rw [key]
  simp
def fmask (ops : Array Oper) (ams : List Nat) (i : Nat) : Nat := (List.range ops.size).foldl (fun a j => if j == i || (ams.getD j 0).testBit i || (ops.getD i default).apart ops (ops.getD j default) then a ||| (1 <<< j) else a) 0
theorem fmask_spec (ops : Array Oper) (ams : List Nat) (i k : Nat) : (fmask ops ams i).testBit k = true → k < ops.size ∧ (k = i ∨ (ams.getD k 0).testBit i = true ∨ (ops.getD i default).apart ops (ops.getD k default) = true) := by
  have key : ∀ (l : List Nat) (a : Nat), (l.foldl (fun a j => if j == i || (ams.getD j 0).testBit i || (ops.getD i default).apart ops (ops.getD j default) then a ||| (1 <<< j) else a) a).testBit k = true → a.testBit k = true ∨ (k ∈ l ∧ (k = i ∨ (ams.getD k 0).testBit i = true ∨ (ops.getD i default).apart ops (ops.getD k default) = true)) := by
    intro l
    induction l with
    | nil => intro a h; exact .inl h
    | cons j l ih =>
      intro a h
      rw [List.foldl_cons] at h
      rcases ih _ h with h1 | ⟨h1, h2⟩
      · split at h1
        · rename_i hc
          rw [Nat.testBit_or, testBit_bit] at h1
          simp only [Bool.or_eq_true, decide_eq_true_eq] at h1
          rcases h1 with h1 | h1
          · exact .inl h1
          · subst h1
            simp only [Bool.or_eq_true, beq_iff_eq, or_assoc] at hc
            exact .inr ⟨.head _, hc⟩
        · exact .inl h1
      · exact .inr ⟨.tail _ h1, h2⟩
  intro h
  rcases key _ _ h with h1 | ⟨h1, h2⟩
  · simp at h1
  · exact ⟨List.mem_range.1 h1, h2⟩
def readyAt (ams : List Nat) (x i : Nat) : Bool := !x.testBit i && (ams.getD i 0 &&& x == ams.getD i 0)
def readyF (ams : List Nat) (n x : Nat) : List Nat := (List.range n).filter (readyAt ams x)
def bitsOf (x : Nat) (l : List Nat) : Nat := l.foldl (fun x i => x ||| (1 <<< i)) x
def chkF (ops : Array Oper) (n m : Nat) (ams frs : List Nat) : List (Nat × Kd) → Nat → List Nat → Bool
  | [], x, pend => pend.isEmpty && (readyF ams n x).isEmpty
  | (i, .q) :: r, x, pend => decide (i < m) && decide (i < n) && readyAt ams x i && ((frs.getD i 0 ||| x) &&& (1 <<< n - 1) == 1 <<< n - 1) && !pend.contains i &&
      ((List.range n).all fun k => decide (k < m) || (ams.getD k 0).testBit i || waits ops k i) && chkF ops n m ams frs r (x ||| (1 <<< i)) pend
  | (i, .a) :: r, x, pend => pend.contains i && (readyF ams n (bitsOf x (pend.filter (· != i))) == [i]) && chkF ops n m ams frs r (x ||| (1 <<< i)) (pend.filter (· != i))
  | (i, .c) :: r, x, pend => decide (i < m) && !pend.contains i && (readyF ams n (bitsOf x pend) == [i]) && chkF ops n m ams frs r (x ||| (1 <<< i)) pend
  | (i, .b j) :: r, x, pend => decide (i < m) && decide (j < m) && !pend.contains i && !pend.contains j && decide (i ≠ j) && (readyF ams n (bitsOf x pend) == [i, j]) &&
      (readyF ams n (bitsOf (x ||| (1 <<< i)) pend) == [j]) && (readyF ams n (bitsOf (x ||| (1 <<< j)) pend) == [i]) && chkF ops n m ams frs r ((x ||| (1 <<< i)) ||| (1 <<< j)) pend
  | (i, .t) :: r, x, pend => pend.isEmpty && (r.all fun y => match y.2 with | .t => true | _ => false) && decide (m ≤ i) && (readyF ams n x == [i]) && chkF ops n m ams frs r (x ||| (1 <<< i)) []
  | (i, .p) :: r, x, pend => decide (i < m) && decide (i < n) && readyAt ams x i && ((frs.getD i 0 ||| x) &&& (1 <<< n - 1) == 1 <<< n - 1) && !pend.contains i && chkF ops n m ams frs r (x ||| (1 <<< i)) pend
  | (i, .d i2 j) :: r, x, pend => (decide (i < m) && decide (i2 < m) && decide (j < m) && !pend.contains i && !pend.contains i2 && !pend.contains j) && (decide (i ≠ i2) && decide (i ≠ j) && decide (i2 ≠ j)) &&
      (readyF ams n (bitsOf x pend) == [i, j]) && (readyF ams n (bitsOf (x ||| (1 <<< i)) pend) == [i2, j]) && (readyF ams n (bitsOf (x ||| (1 <<< j)) pend) == [i]) &&
      (readyF ams n (bitsOf ((x ||| (1 <<< i)) ||| (1 <<< i2)) pend) == [j]) && (readyF ams n (bitsOf ((x ||| (1 <<< i)) ||| (1 <<< j)) pend) == [i2]) &&
      chkF ops n m ams frs r (((x ||| (1 <<< i)) ||| (1 <<< i2)) ||| (1 <<< j)) pend
  | (_, .m _ _) :: _, _, _ => false
section
variable {ops : Array Oper} {ams frs : List Nat}
def SetR (ops : Array Oper) (b : Array Bool) (x : Nat) : Prop := b.size = ops.size ∧ ∀ i, i < ops.size → b[i]? = some (x.testBit i)
theorem SetR.getF {b : Array Bool} {x : Nat} (h : SetR ops b x) {i : Nat} (hi : i < ops.size) (d : Bool) : b.getD i d = x.testBit i := by
  rw [Array.getD_eq_getD_getElem?, h.2 i hi]; rfl
theorem SetR.set {b : Array Bool} {x : Nat} (h : SetR ops b x) (i : Nat) : SetR ops (b.setIfInBounds i true) (x ||| (1 <<< i)) := by
  refine ⟨by simpa using h.1, fun k hk => ?_⟩
  rw [Nat.testBit_or, testBit_bit, Array.getElem?_setIfInBounds]
  by_cases e : i = k
  · subst e
    have : i < b.size := by rw [h.1]; exact hk
    simp [this]
  · rw [if_neg e, h.2 k hk]
    simp [Ne.symm e]
theorem SetR.setAll {b : Array Bool} {x : Nat} (h : SetR ops b x) : ∀ (l : List Nat), SetR ops (setAll b l) (bitsOf x l) := by
  intro l
  induction l generalizing b x with
  | nil => exact h
  | cons i l ih => exact ih (h.set i)
theorem SetR.start : SetR ops (Array.replicate ops.size false) 0 := ⟨by simp, fun i hi => by simp [hi]⟩
def TabOk (ops : Array Oper) (ams frs : List Nat) : Bool := (ops.toList.map amask == ams) && ((List.range ops.size).map (fmask ops ams) == frs)
theorem tab_am (h : TabOk ops ams frs = true) {i : Nat} (hi : i < ops.size) : ams.getD i 0 = amask (ops.getD i default) := by
  simp only [TabOk, Bool.and_eq_true, beq_iff_eq] at h
  rw [← h.1, List.getD_eq_getElem?_getD, List.getElem?_map, Array.getElem?_toList, Array.getD_eq_getD_getElem?]
  simp [hi]
theorem tab_fr (h : TabOk ops ams frs = true) {i : Nat} (hi : i < ops.size) : frs.getD i 0 = fmask ops ams i := by
  simp only [TabOk, Bool.and_eq_true, beq_iff_eq] at h
  rw [← h.2, List.getD_eq_getElem?_getD, List.getElem?_map]
  simp [hi]
theorem on_lt (hl : ∀ o ∈ ops, ∀ e ∈ o.after, e.on < ops.size) {i : Nat} (hi : i < ops.size) {e : Edge} (he : e ∈ (ops.getD i default).after) : e.on < ops.size := by
  refine hl _ ?_ e he
  rw [Array.getD_eq_getD_getElem?, Array.getElem?_eq_getElem hi]
  exact Array.getElem_mem hi
theorem readyAt_eq (ht : TabOk ops ams frs = true) (hl : ∀ o ∈ ops, ∀ e ∈ o.after, e.on < ops.size) {b : Array Bool} {x i : Nat} (hs : SetR ops b x) (hi : i < ops.size) :
    readyAt ams x i = (!b.getD i true && ((ops[i]?).map (·.after.all fun e => !Region.binds .any e || b.getD e.on false)).getD false) := by
  unfold readyAt
  rw [hs.getF hi, tab_am ht hi]
  congr 1
  have ho : ops[i]? = some (ops.getD i default) := getOp hi
  rw [ho]
  simp only [Option.map_some, Option.getD_some]
  rw [Bool.eq_iff_iff, beq_iff_eq, Array.all_eq_true_iff_forall_mem]
  constructor
  · intro h e he
    by_cases hb : Region.binds .any e = true
    · have h1 := (amask_spec (ops.getD i default) e.on).2 ⟨e, he, hb, rfl⟩
      rw [← h, Nat.testBit_and, Bool.and_eq_true] at h1
      rw [hs.getF (on_lt hl hi he), h1.2]
      simp
    · simp [hb]
  · intro h
    apply Nat.eq_of_testBit_eq
    intro k
    rw [Nat.testBit_and]
    by_cases hk : (amask (ops.getD i default)).testBit k = true
    · obtain ⟨e, he, hb, rfl⟩ := (amask_spec _ _).1 hk
      have h1 := h e he
      rw [hb, hs.getF (on_lt hl hi he)] at h1
      simp at h1
      rw [hk, h1]; rfl
    · have : (amask (ops.getD i default)).testBit k = false := by simpa using hk
      rw [this]; rfl
theorem jR (ht : TabOk ops ams frs = true) (hl : ∀ o ∈ ops, ∀ e ∈ o.after, e.on < ops.size) {b : Array Bool} {x : Nat} (hs : SetR ops b x) : Region.ready .any ops b = readyF ams ops.size x := by
  unfold Region.ready readyF
  apply List.filter_congr
  intro i hi
  exact (readyAt_eq ht hl hs (List.mem_range.1 hi)).symm
theorem ready_contains (ht : TabOk ops ams frs = true) (hl : ∀ o ∈ ops, ∀ e ∈ o.after, e.on < ops.size) {b : Array Bool} {x i : Nat} (hs : SetR ops b x) (hi : i < ops.size) (h : readyAt ams x i = true) : (Region.ready .any ops b).contains i = true := by
  rw [jR ht hl hs]
  unfold readyF
  simp [hi, h]
theorem mask_full {y n k : Nat} (h : y &&& (1 <<< n - 1) = 1 <<< n - 1) (hk : k < n) : y.testBit k = true := by
  have h1 : (1 <<< n - 1).testBit k = true := by rw [Nat.one_shiftLeft, Nat.testBit_two_pow_sub_one]; simpa using hk
  rw [← h, Nat.testBit_and, Bool.and_eq_true] at h1
  exact h1.1
theorem free_of (ht : TabOk ops ams frs = true) {b : Array Bool} {x i : Nat} (hs : SetR ops b x) (hi : i < ops.size) (h : (frs.getD i 0 ||| x) &&& (1 <<< ops.size - 1) = 1 <<< ops.size - 1) : Region.free .any ops b i = true := by
  unfold Region.free
  rw [getOp hi]
  simp only [List.all_eq_true, List.mem_range]
  intro j hj
  have h1 := mask_full h hj
  rw [Nat.testBit_or, Bool.or_eq_true, tab_fr ht hi] at h1
  rw [getOp hj, hs.getF hj]
  simp only [Bool.or_eq_true, beq_iff_eq]
  rcases h1 with h1 | h1
  · obtain ⟨_, h2 | h2 | h2⟩ := fmask_spec _ _ _ _ h1
    · exact .inl (.inl h2)
    · rw [tab_am ht hj] at h2
      obtain ⟨e, he, hb, ho⟩ := (amask_spec _ _).1 h2
      refine .inr (.inl ?_)
      rw [Array.any_eq_true']
      exact ⟨e, he, by simp [hb, ho]⟩
    · exact .inr (.inr h2)
  · exact .inl (.inr h1)
theorem waits_of (ht : TabOk ops ams frs = true) {k i : Nat} (hk : k < ops.size) (h : (ams.getD k 0).testBit i = true) : waits ops k i = true := by
  rw [tab_am ht hk] at h
  obtain ⟨e, he, hb, ho⟩ := (amask_spec _ _).1 h
  unfold waits
  rw [Array.any_eq_true']
  refine ⟨e, he, ?_⟩
  rw [hb, ho]
  simp [waitsF]
theorem chkF_ok (ht : TabOk ops ams frs = true) (hl : ∀ o ∈ ops, ∀ e ∈ o.after, e.on < ops.size) {m : Nat} : ∀ (ord : List (Nat × Kd)) (b : Array Bool) (x : Nat) (pend : List Nat), SetR ops b x → chkF ops ops.size m ams frs ord x pend = true → chk ops m ord b pend = true
  | [], b, x, pend, hs, h => by
    simp only [chkF, Bool.and_eq_true] at h
    simp only [chk, Bool.and_eq_true, jR ht hl hs]
    exact h
  | (i, .q) :: r, b, x, pend, hs, h => by
    simp only [chkF, Bool.and_eq_true, beq_iff_eq, decide_eq_true_eq] at h
    obtain ⟨⟨⟨⟨⟨⟨h1, h2⟩, h3⟩, h4⟩, h5⟩, h6⟩, h7⟩ := h
    simp only [chk, Bool.and_eq_true, decide_eq_true_eq]
    refine ⟨⟨⟨⟨⟨h1, ready_contains ht hl hs h2 h3⟩, free_of ht hs h2 h4⟩, h5⟩, ?_⟩, chkF_ok ht hl r _ _ _ (hs.set i) h7⟩
    rw [List.all_eq_true] at h6 ⊢
    intro k hk
    have := h6 k hk
    simp only [Bool.or_eq_true] at this ⊢
    rcases this with (h8 | h8) | h8
    · exact .inl h8
    · exact .inr (waits_of ht (List.mem_range.1 hk) h8)
    · exact .inr h8
  | (i, .a) :: r, b, x, pend, hs, h => by
    simp only [chkF, Bool.and_eq_true] at h
    obtain ⟨⟨h1, h2⟩, h3⟩ := h
    simp only [chk, Bool.and_eq_true, jR ht hl (hs.setAll _)]
    exact ⟨⟨h1, h2⟩, chkF_ok ht hl r _ _ _ (hs.set i) h3⟩
  | (i, .c) :: r, b, x, pend, hs, h => by
    simp only [chkF, Bool.and_eq_true] at h
    obtain ⟨⟨⟨h1, h2⟩, h3⟩, h4⟩ := h
    simp only [chk, Bool.and_eq_true, jR ht hl (hs.setAll _)]
    exact ⟨⟨⟨h1, h2⟩, h3⟩, chkF_ok ht hl r _ _ _ (hs.set i) h4⟩
  | (i, .b j) :: r, b, x, pend, hs, h => by
    simp only [chkF, Bool.and_eq_true] at h
    obtain ⟨⟨⟨⟨⟨⟨⟨⟨h1, h2⟩, h3⟩, h4⟩, h5⟩, h6⟩, h7⟩, h8⟩, h9⟩ := h
    simp only [chk, Bool.and_eq_true, jR ht hl (hs.setAll _), jR ht hl ((hs.set i).setAll _), jR ht hl ((hs.set j).setAll _)]
    exact ⟨⟨⟨⟨⟨⟨⟨⟨h1, h2⟩, h3⟩, h4⟩, h5⟩, h6⟩, h7⟩, h8⟩, chkF_ok ht hl r _ _ _ ((hs.set i).set j) h9⟩
  | (i, .t) :: r, b, x, pend, hs, h => by
    simp only [chkF, Bool.and_eq_true] at h
    obtain ⟨⟨⟨⟨h1, h2⟩, h3⟩, h4⟩, h5⟩ := h
    simp only [chk, Bool.and_eq_true, jR ht hl hs]
    exact ⟨⟨⟨⟨h1, h2⟩, h3⟩, h4⟩, chkF_ok ht hl r _ _ _ (hs.set i) h5⟩
  | (i, .p) :: r, b, x, pend, hs, h => by
    simp only [chkF, Bool.and_eq_true, beq_iff_eq, decide_eq_true_eq] at h
    obtain ⟨⟨⟨⟨⟨h1, h2⟩, h3⟩, h4⟩, h5⟩, h7⟩ := h
    simp only [chk, Bool.and_eq_true, decide_eq_true_eq]
    exact ⟨⟨⟨⟨h1, ready_contains ht hl hs h2 h3⟩, free_of ht hs h2 h4⟩, h5⟩, chkF_ok ht hl r _ _ _ (hs.set i) h7⟩
  | (i, .d i2 j) :: r, b, x, pend, hs, h => by
    simp only [chkF, Bool.and_eq_true] at h
    obtain ⟨⟨⟨⟨⟨⟨⟨h1, h2⟩, h3⟩, h4⟩, h5⟩, h6⟩, h7⟩, h8⟩ := h
    simp only [chk, Bool.and_eq_true, jR ht hl (hs.setAll _), jR ht hl ((hs.set i).setAll _), jR ht hl ((hs.set j).setAll _), jR ht hl (((hs.set i).set i2).setAll _), jR ht hl (((hs.set i).set j).setAll _)]
    exact ⟨⟨⟨⟨⟨⟨⟨h1, h2⟩, h3⟩, h4⟩, h5⟩, h6⟩, h7⟩, chkF_ok ht hl r _ _ _ (((hs.set i).set i2).set j) h8⟩
  | (_, .m _ _) :: _, _, _, _, _, h => by simp [chkF] at h
def chkAll (l : List Oper) (m : Nat) (ams frs : List Nat) (al : Als) (ord : List (Nat × Kd)) : Bool :=
  Region.noSelect l.toArray && chkAl l.toArray al && (al.all fun x => decide (x.1 < m)) && (l.all fun o => o.after.all fun e => decide (e.on < l.length)) && TabOk l.toArray ams frs && chkF l.toArray l.length m ams frs ord 0 (al.map (·.1))
theorem chk_of {l : List Oper} {m : Nat} {al : Als} {ord : List (Nat × Kd)} (ams frs : List Nat) (h : chkAll l m ams frs al ord = true) :
    (Region.noSelect l.toArray && chkAl l.toArray al && (al.all fun x => decide (x.1 < m)) && chk l.toArray m ord (Array.replicate l.length false) (al.map (·.1))) = true := by
  simp only [chkAll, Bool.and_eq_true] at h
  obtain ⟨⟨⟨⟨⟨h1, h2⟩, h3⟩, h4⟩, h5⟩, h6⟩ := h
  simp only [Bool.and_eq_true]
  refine ⟨⟨⟨h1, h2⟩, h3⟩, ?_⟩
  have hl : ∀ o ∈ l.toArray, ∀ e ∈ o.after, e.on < l.toArray.size := by
    intro o ho e he
    have := List.all_eq_true.1 h4 o (by simpa using ho)
    have := Array.all_eq_true_iff_forall_mem.1 this e he
    simpa using this
  exact chkF_ok h5 hl ord _ 0 _ SetR.start h6
end
end Bk
namespace Go.Proofs.YtghhjjmjpeehdaaGreat
open Bk Go Tryz
theorem ty3 : TyOk Tryz.prog 3 1 false := ⟨sizeOf3, isAgg3⟩
theorem ty27 : TyOk Tryz.prog 27 1 false := ⟨sizeOf27, isAgg27⟩
theorem xS : TyOk Tryz.prog 30 3 true := ⟨sizeOf30, isAgg30⟩
theorem xJ : TyOk Tryz.prog 32 9 true := ⟨sizeOf32, isAgg32⟩
theorem kH : TyOk Tryz.prog 34 12 true := ⟨sizeOf34, isAgg34⟩
theorem ty66 : TyOk Tryz.prog 66 3 true := ⟨sizeOf66, isAgg66⟩
end Go.Proofs.YtghhjjmjpeehdaaGreat
namespace Go.Proofs.YtghhjjmjpeehdaaGreat
open Bk Go Tryz
set_option linter.unusedVariables false
set_option linter.unusedSimpArgs false
set_option maxRecDepth 10000
theorem o_rat_add {w0 : World} {h0 : Mem} (hs : MLe h0 (mem w0)) {k l : Nat} {va : Value} {a : Rat} (ra : (rpQ k).Is h0 va a) {vb : Value} {b : Rat} (rb : (rpQ l).Is h0 vb b) (hcd0 : k + l ≤ 10000000000)  :
    Calls Tryz.prog 71 #[va, vb] w0 (Ret w0 h0 (fun h r => (rpQ (k + l + 1)).Is h r (a + b))) := by
  obtain ⟨vna, vda, rfl, hna, hda, hla⟩ := uS ra
  obtain ⟨vnb, vdb, rfl, hnb, hdb, hlb⟩ := uS rb
  exact (rat_add hs hna hda hnb hdb (by omega) (by omega) ).mono (jM fun h r x => is_q x (by have := lq_add a b; omega))
theorem o_rat_sub {w0 : World} {h0 : Mem} (hs : MLe h0 (mem w0)) {k l : Nat} {va : Value} {a : Rat} (ra : (rpQ k).Is h0 va a) {vb : Value} {b : Rat} (rb : (rpQ l).Is h0 vb b) (hcd0 : k + l ≤ 10000000000)  :
    Calls Tryz.prog 70 #[va, vb] w0 (Ret w0 h0 (fun h r => (rpQ (k + l + 1)).Is h r (a - b))) := by
  obtain ⟨vna, vda, rfl, hna, hda, hla⟩ := uS ra
  obtain ⟨vnb, vdb, rfl, hnb, hdb, hlb⟩ := uS rb
  exact (rat_sub hs hna hda hnb hdb (by omega) (by omega) ).mono (jM fun h r x => is_q x (by have := lq_sub a b; omega))
theorem o_rat_mul {w0 : World} {h0 : Mem} (hs : MLe h0 (mem w0)) {k l : Nat} {va : Value} {a : Rat} (ra : (rpQ k).Is h0 va a) {vb : Value} {b : Rat} (rb : (rpQ l).Is h0 vb b) (hcd0 : k + l ≤ 10000000000)  :
    Calls Tryz.prog 103 #[va, vb] w0 (Ret w0 h0 (fun h r => (rpQ (k + l)).Is h r (a * b))) := by
  obtain ⟨vna, vda, rfl, hna, hda, hla⟩ := uS ra
  obtain ⟨vnb, vdb, rfl, hnb, hdb, hlb⟩ := uS rb
  exact (rat_mul hs hna hda hnb hdb (by omega) (by omega) ).mono (jM fun h r x => is_q x (by have := lq_mul a b; omega))
theorem o_rat_min {w0 : World} {h0 : Mem} (hs : MLe h0 (mem w0)) {k : Nat} {va : Value} {a : Rat} (ra : (rpQ k).Is h0 va a) {vb : Value} {b : Rat} (rb : (rpQ k).Is h0 vb b) (hcd0 : k ≤ 10000000000)  :
    Calls Tryz.prog 67 #[va, vb] w0 (Ret w0 h0 (fun h r => (rpQ k).Is h r (kM a b))) := by
  obtain ⟨vna, vda, rfl, hna, hda, hla⟩ := uS ra
  obtain ⟨vnb, vdb, rfl, hnb, hdb, hlb⟩ := uS rb
  exact (rat_min hs hna hda hnb hdb (by omega) (by omega) ).mono (jM fun h r x => is_q x (by have := lq_min a b; omega))
theorem o_rat_max {w0 : World} {h0 : Mem} (hs : MLe h0 (mem w0)) {k : Nat} {va : Value} {a : Rat} (ra : (rpQ k).Is h0 va a) {vb : Value} {b : Rat} (rb : (rpQ k).Is h0 vb b) (hcd0 : k ≤ 10000000000)  :
    Calls Tryz.prog 68 #[va, vb] w0 (Ret w0 h0 (fun h r => (rpQ k).Is h r (kL a b))) := by
  obtain ⟨vna, vda, rfl, hna, hda, hla⟩ := uS ra
  obtain ⟨vnb, vdb, rfl, hnb, hdb, hlb⟩ := uS rb
  exact (rat_max hs hna hda hnb hdb (by omega) (by omega) ).mono (jM fun h r x => is_q x (by have := lq_max a b; omega))
theorem o_rat_cmp {w0 : World} {h0 : Mem} (hs : MLe h0 (mem w0)) {k l : Nat} {va : Value} {a : Rat} (ra : (rpQ k).Is h0 va a) {vb : Value} {b : Rat} (rb : (rpQ l).Is h0 vb b) (hcd0 : k + l ≤ 10000000000)  :
    Calls Tryz.prog 104 #[va, vb] w0 (Ret w0 h0 (fun _ r => r = vI (kO a b))) := by
  obtain ⟨vna, vda, rfl, hna, hda, hla⟩ := uS ra
  obtain ⟨vnb, vdb, rfl, hnb, hdb, hlb⟩ := uS rb
  exact rat_cmp hs hna hda hnb hdb (by omega) (by omega)
theorem o_rat_sign {w0 : World} {h0 : Mem} (hs : MLe h0 (mem w0)) {k : Nat} {va : Value} {a : Rat} (ra : (rpQ k).Is h0 va a) (hcd0 : k ≤ 10000000000)  :
    Calls Tryz.prog 101 #[va] w0 (Ret w0 h0 (fun _ r => r = vI (uT a))) := by
  obtain ⟨vna, vda, rfl, hna, hda, hla⟩ := uS ra
  exact rat_sign hs hna hda (by omega)
theorem o_rat_same {w0 : World} {h0 : Mem} (hs : MLe h0 (mem w0)) {k l : Nat} {va : Value} {a : Rat} (ra : (rpQ k).Is h0 va a) {vb : Value} {b : Rat} (rb : (rpQ l).Is h0 vb b) (hcd0 : k + l ≤ 10000000000)  :
    Calls Tryz.prog 122 #[va, vb] w0 (Ret w0 h0 (fun _ r => r = vB (a = b))) := by
  obtain ⟨vna, vda, rfl, hna, hda, hla⟩ := uS ra
  obtain ⟨vnb, vdb, rfl, hnb, hdb, hlb⟩ := uS rb
  exact rat_same hs hna hda hnb hdb (by omega) (by omega)
theorem o_rat_quo {w0 : World} {h0 : Mem} (hs : MLe h0 (mem w0)) {k l : Nat} {va : Value} {a : Rat} (ra : (rpQ k).Is h0 va a) {vb : Value} {b : Rat} (rb : (rpQ l).Is h0 vb b) (hcd0 : k + l ≤ 10000000000)  :
    Calls Tryz.prog 110 #[va, vb] w0 (Ret w0 h0 (fun h r => ∃ u0, r = .tuple #[u0, vI (if b = 0 then 3 else 0)] ∧ (rpQ (k + l)).Is h u0 (if b = 0 then 0 else a / b))) := by
  obtain ⟨vna, vda, rfl, hna, hda, hla⟩ := uS ra
  obtain ⟨vnb, vdb, rfl, hnb, hdb, hlb⟩ := uS rb
  exact (rat_quo hs hna hda hnb hdb (by omega) (by omega) ).mono (jM fun h r x => by obtain ⟨u, e, y⟩ := x; exact ⟨u, e, is_q y (by have := lq_quo' a b; omega)⟩)
theorem o_rref_add {w0 : World} {h0 : Mem} (hs : MLe h0 (mem w0)) {k l : Nat} {va : Value} {a : Rat} (ra : (rpQ k).Is h0 va a) {vb : Value} {b : Rat} (rb : (rpQ l).Is h0 vb b) (hcd0 : k + l ≤ 10000000000)  :
    Calls Tryz.prog 53 #[va, vb] w0 (Ret w0 h0 (fun h r => (rpQ (k + l + 1)).Is h r (a + b))) := by
  obtain ⟨vna, vda, rfl, hna, hda, hla⟩ := uS ra
  obtain ⟨vnb, vdb, rfl, hnb, hdb, hlb⟩ := uS rb
  exact (rref_add hs hna hda hnb hdb (by omega) (by omega) ).mono (jM fun h r x => is_q x (by have := lq_add a b; omega))
theorem jG {w0 : World} {h0 : Mem} (hs : MLe h0 (mem w0)) {k l : Nat} {va : Value} {a : Rat} (ra : (rpQ k).Is h0 va a) {vb : Value} {b : Rat} (rb : (rpQ l).Is h0 vb b) (hcd0 : k + l ≤ 10000000000)  :
    Calls Tryz.prog 56 #[va, vb] w0 (Ret w0 h0 (fun h r => (rpQ (k + l + 1)).Is h r (a - b))) := by
  obtain ⟨vna, vda, rfl, hna, hda, hla⟩ := uS ra
  obtain ⟨vnb, vdb, rfl, hnb, hdb, hlb⟩ := uS rb
  exact (rref_sub hs hna hda hnb hdb (by omega) (by omega) ).mono (jM fun h r x => is_q x (by have := lq_sub a b; omega))
theorem jH {w0 : World} {h0 : Mem} (hs : MLe h0 (mem w0)) {k l : Nat} {va : Value} {a : Rat} (ra : (rpQ k).Is h0 va a) {vb : Value} {b : Rat} (rb : (rpQ l).Is h0 vb b) (hcd0 : k + l ≤ 10000000000)  :
    Calls Tryz.prog 54 #[va, vb] w0 (Ret w0 h0 (fun h r => (rpQ (k + l)).Is h r (a * b))) := by
  obtain ⟨vna, vda, rfl, hna, hda, hla⟩ := uS ra
  obtain ⟨vnb, vdb, rfl, hnb, hdb, hlb⟩ := uS rb
  exact (rref_mul hs hna hda hnb hdb (by omega) (by omega) ).mono (jM fun h r x => is_q x (by have := lq_mul a b; omega))
theorem o_rref_min {w0 : World} {h0 : Mem} (hs : MLe h0 (mem w0)) {k : Nat} {va : Value} {a : Rat} (ra : (rpQ k).Is h0 va a) {vb : Value} {b : Rat} (rb : (rpQ k).Is h0 vb b) (hcd0 : k ≤ 10000000000)  :
    Calls Tryz.prog 74 #[va, vb] w0 (Ret w0 h0 (fun h r => (rpQ k).Is h r (kM a b))) := by
  obtain ⟨vna, vda, rfl, hna, hda, hla⟩ := uS ra
  obtain ⟨vnb, vdb, rfl, hnb, hdb, hlb⟩ := uS rb
  exact (rref_min hs hna hda hnb hdb (by omega) (by omega) ).mono (jM fun h r x => is_q x (by have := lq_min a b; omega))
theorem o_rref_max {w0 : World} {h0 : Mem} (hs : MLe h0 (mem w0)) {k : Nat} {va : Value} {a : Rat} (ra : (rpQ k).Is h0 va a) {vb : Value} {b : Rat} (rb : (rpQ k).Is h0 vb b) (hcd0 : k ≤ 10000000000)  :
    Calls Tryz.prog 75 #[va, vb] w0 (Ret w0 h0 (fun h r => (rpQ k).Is h r (kL a b))) := by
  obtain ⟨vna, vda, rfl, hna, hda, hla⟩ := uS ra
  obtain ⟨vnb, vdb, rfl, hnb, hdb, hlb⟩ := uS rb
  exact (rref_max hs hna hda hnb hdb (by omega) (by omega) ).mono (jM fun h r x => is_q x (by have := lq_max a b; omega))
theorem o_rref_sign {w0 : World} {h0 : Mem} (hs : MLe h0 (mem w0)) {k : Nat} {va : Value} {a : Rat} (ra : (rpQ k).Is h0 va a) (hcd0 : k ≤ 10000000000)  :
    Calls Tryz.prog 50 #[va] w0 (Ret w0 h0 (fun _ r => r = vI (uT a))) := by
  obtain ⟨vna, vda, rfl, hna, hda, hla⟩ := uS ra
  exact rref_sign hs hna hda (by omega)
theorem o_rref_same {w0 : World} {h0 : Mem} (hs : MLe h0 (mem w0)) {k l : Nat} {va : Value} {a : Rat} (ra : (rpQ k).Is h0 va a) {vb : Value} {b : Rat} (rb : (rpQ l).Is h0 vb b) (hcd0 : k + l ≤ 10000000000)  :
    Calls Tryz.prog 62 #[va, vb] w0 (Ret w0 h0 (fun _ r => r = vB (a = b))) := by
  obtain ⟨vna, vda, rfl, hna, hda, hla⟩ := uS ra
  obtain ⟨vnb, vdb, rfl, hnb, hdb, hlb⟩ := uS rb
  exact rref_same hs hna hda hnb hdb (by omega) (by omega)
theorem o_rref_quo {w0 : World} {h0 : Mem} (hs : MLe h0 (mem w0)) {k l : Nat} {va : Value} {a : Rat} (ra : (rpQ k).Is h0 va a) {vb : Value} {b : Rat} (rb : (rpQ l).Is h0 vb b) (hcd0 : k + l ≤ 10000000000)  :
    Calls Tryz.prog 88 #[va, vb] w0 (Ret w0 h0 (fun h r => ∃ u0, r = .tuple #[u0, vI (if b = 0 then 3 else 0)] ∧ (rpQ (k + l)).Is h u0 (if b = 0 then 0 else a / b))) := by
  obtain ⟨vna, vda, rfl, hna, hda, hla⟩ := uS ra
  obtain ⟨vnb, vdb, rfl, hnb, hdb, hlb⟩ := uS rb
  exact (rref_quo hs hna hda hnb hdb (by omega) (by omega) ).mono (jM fun h r x => by obtain ⟨u, e, y⟩ := x; exact ⟨u, e, is_q y (by have := lq_quo' a b; omega)⟩)
theorem o_rref_int {w0 : World} {h0 : Mem} (hs : MLe h0 (mem w0)) {n : Int} (hn1 : -9223372036854775808 ≤ n) (hn2 : n < 9223372036854775808)  :
    Calls Tryz.prog 45 #[vI n] w0 (Ret w0 h0 (fun h r => (rpQ 2).Is h r ((n : Int) : Rat))) := by
  exact (rref_int hs   hn1 hn2).mono (jM fun h r x => is_q x (by exact lq_int n hn1 hn2))
theorem o_rref_frac {w0 : World} {h0 : Mem} (hs : MLe h0 (mem w0)) {n : Int} (hn1 : -9223372036854775808 ≤ n) (hn2 : n < 9223372036854775808) {d : Int} (hd1 : -9223372036854775808 ≤ d) (hd2 : d < 9223372036854775808)  :
    Calls Tryz.prog 46 #[vI n, vI d] w0 (Ret w0 h0 (fun h r => (rpQ 2).Is h r (qR n d))) := by
  exact (rref_frac hs   hn1 hn2 hd1 hd2).mono (jM fun h r x => is_q x (by exact lq_make hn1 hn2 hd1 hd2))
end Go.Proofs.YtghhjjmjpeehdaaGreat
namespace Bk
set_option linter.unusedVariables false
set_option linter.unusedSimpArgs false
open Go Go.RowKit
open Classical
end Bk
namespace Bk
set_option linter.unusedVariables false
set_option linter.unusedSimpArgs false
open Go Go.RowKit
open Classical
theorem sgnQ_lt (q : Rat) : uT q = if q = 0 then 0 else if q < 0 then -1 else 1 := by unfold uT; simp only [num_neg_iff]
theorem cmpQ_sub (a b : Rat) : kO a b = uT (a - b) := by rw [sgnQ_lt]; unfold kO; grind
theorem lt_tri (a b : Rat) : a < b ∨ a = b ∨ b < a := by grind
theorem cmpQ_mul (a b c : Rat) : kO (a * c) (b * c) = kO a b * uT c := by
  rw [sgnQ_lt]
  by_cases h0 : c = 0
  · subst h0
    have : kO (a * 0) (b * 0) = 0 := cmpQ_zero.2 (by grind)
    rw [this, if_pos rfl, Int.mul_zero]
  · rw [if_neg h0]
    by_cases hc : c < 0
    · rw [if_pos hc]
      rcases lt_tri a b with h | h | h
      · have h1 : b * c < a * c := by
          have := Rat.mul_lt_mul_of_pos_right h (c := -c) (by grind)
          grind
        unfold kO; grind
      · subst h; unfold kO; simp
      · have h1 : a * c < b * c := by
          have := Rat.mul_lt_mul_of_pos_right h (c := -c) (by grind)
          grind
        unfold kO; grind
    · rw [if_neg hc]
      have hc' : 0 < c := by grind
      rcases lt_tri a b with h | h | h
      · have h1 := Rat.mul_lt_mul_of_pos_right h hc'
        unfold kO; grind
      · subst h; unfold kO; simp
      · have h1 := Rat.mul_lt_mul_of_pos_right h hc'
        unfold kO; grind
theorem mul_range {x y : Int} (hx : -1 ≤ x ∧ x ≤ 1) (hy : -1 ≤ y ∧ y ≤ 1) : -1 ≤ x * y ∧ x * y ≤ 1 := by
  have : x = -1 ∨ x = 0 ∨ x = 1 := by omega
  rcases this with h | h | h <;> subst h <;> omega
theorem pow_pos (k : Int) : (0 : Rat) < ((2 ^ kN k : Nat) : Rat) := by
  have : (0 : Rat) = ((0 : Nat) : Rat) := rfl
  rw [this, Rat.natCast_lt_natCast]
  exact Nat.pow_pos (by omega)
end Bk
namespace Bk
set_option linter.unusedVariables false
set_option linter.unusedSimpArgs false
open Go Go.RowKit
open Classical
theorem le_tot (a b : Rat) : a ≤ b ∨ b ≤ a := by grind
theorem minQ_le (a b : Rat) : kM a b ≤ a ∧ kM a b ≤ b := by unfold kM; split <;> grind
theorem maxQ_ge (a b : Rat) : a ≤ kL a b ∧ b ≤ kL a b := by unfold kL; split <;> grind
def hasP (a b r : Rat) : Prop := a ≤ r ∧ r ≤ b
noncomputable def mulLo (a b c d : Rat) : Rat := kM (kM (kM (a * c) (a * d)) (b * c)) (b * d)
noncomputable def mulHi (a b c d : Rat) : Rat := kL (kL (kL (a * c) (a * d)) (b * c)) (b * d)
noncomputable def invQ (a : Rat) : Rat := if a = 0 then 0 else ((1 : Int) : Rat) / a
noncomputable def sqrLo (a b : Rat) : Rat := if hasP a b 0 then 0 else kM (a * a) (b * b)
noncomputable def sqrHi (a b : Rat) : Rat := kL (a * a) (b * b)
theorem mul_mono {a b c : Rat} (h : a ≤ b) (hc : 0 ≤ c) : a * c ≤ b * c := Rat.mul_le_mul_of_nonneg_right h hc
theorem lin_lo {a b x c : Rat} (h1 : a ≤ x) (h2 : x ≤ b) : a * c ≤ x * c ∨ b * c ≤ x * c := by
  rcases le_tot 0 c with hc | hc
  · exact .inl (mul_mono h1 hc)
  · refine .inr ?_
    have := mul_mono (c := -c) h2 (by grind)
    grind
theorem lin_hi {a b x c : Rat} (h1 : a ≤ x) (h2 : x ≤ b) : x * c ≤ a * c ∨ x * c ≤ b * c := by
  rcases le_tot 0 c with hc | hc
  · exact .inr (mul_mono h2 hc)
  · refine .inl ?_
    have := mul_mono (c := -c) h1 (by grind)
    grind
theorem mul_has {a b c d r s : Rat} (hr : hasP a b r) (hs : hasP c d s) : hasP (mulLo a b c d) (mulHi a b c d) (r * s) := by
  obtain ⟨h1, h2⟩ := hr
  obtain ⟨h3, h4⟩ := hs
  have e : ∀ x y : Rat, x * y = y * x := Rat.mul_comm
  have m1 := minQ_le (kM (kM (a * c) (a * d)) (b * c)) (b * d); have m2 := minQ_le (kM (a * c) (a * d)) (b * c); have m3 := minQ_le (a * c) (a * d)
  have n1 := maxQ_ge (kL (kL (a * c) (a * d)) (b * c)) (b * d); have n2 := maxQ_ge (kL (a * c) (a * d)) (b * c); have n3 := maxQ_ge (a * c) (a * d)
  have l1 := lin_lo (c := s) h1 h2
  have l2 := lin_lo (c := a) h3 h4
  have l3 := lin_lo (c := b) h3 h4
  have u1 := lin_hi (c := s) h1 h2
  have u2 := lin_hi (c := a) h3 h4
  have u3 := lin_hi (c := b) h3 h4
  rw [e c a, e d a, e s a] at l2 u2
  rw [e c b, e d b, e s b] at l3 u3
  unfold hasP mulLo mulHi
  constructor <;> grind
theorem minQ_mem (a b : Rat) : kM a b = a ∨ kM a b = b := by unfold kM; split <;> simp
theorem maxQ_mem (a b : Rat) : kL a b = a ∨ kL a b = b := by unfold kL; split <;> simp
theorem hasP_lo {a b : Rat} (h : a ≤ b) : hasP a b a := ⟨Rat.le_refl, h⟩
theorem hasP_hi {a b : Rat} (h : a ≤ b) : hasP a b b := ⟨h, Rat.le_refl⟩
theorem mulLo_mem (a b c d : Rat) : mulLo a b c d = a * c ∨ mulLo a b c d = a * d ∨ mulLo a b c d = b * c ∨ mulLo a b c d = b * d := by
  unfold mulLo
  have h1 := minQ_mem (kM (kM (a * c) (a * d)) (b * c)) (b * d); have h2 := minQ_mem (kM (a * c) (a * d)) (b * c); have h3 := minQ_mem (a * c) (a * d)
  grind
theorem mulHi_mem (a b c d : Rat) : mulHi a b c d = a * c ∨ mulHi a b c d = a * d ∨ mulHi a b c d = b * c ∨ mulHi a b c d = b * d := by
  unfold mulHi
  have h1 := maxQ_mem (kL (kL (a * c) (a * d)) (b * c)) (b * d); have h2 := maxQ_mem (kL (a * c) (a * d)) (b * c); have h3 := maxQ_mem (a * c) (a * d)
  grind
theorem mul_sub {a b c d x y : Rat} (hcd : c ≤ d) (hx : hasP a b x) (hy : hasP a b y) : hasP (mulLo a b c d) (mulHi a b c d) (mulLo x y c d) ∧ hasP (mulLo a b c d) (mulHi a b c d) (mulHi x y c d) := by
  have h1 := mul_has hx (hasP_lo hcd); have h2 := mul_has hx (hasP_hi hcd); have h3 := mul_has hy (hasP_lo hcd); have h4 := mul_has hy (hasP_hi hcd)
  constructor
  · rcases mulLo_mem x y c d with h | h | h | h <;> rw [h] <;> assumption
  · rcases mulHi_mem x y c d with h | h | h | h <;> rw [h] <;> assumption
noncomputable def quoLo (a b c d : Rat) : Rat := if hasP c d 0 then 0 else mulLo a b (kM (invQ c) (invQ d)) (kL (invQ c) (invQ d))
noncomputable def quoHi (a b c d : Rat) : Rat := if hasP c d 0 then 0 else mulHi a b (kM (invQ c) (invQ d)) (kL (invQ c) (invQ d))
noncomputable def quoE (c d : Rat) : Int := if hasP c d 0 then 3 else 0
end Bk
namespace Go.Proofs.YtghhjjmjpeehdaaGreat
open Bk Go Tryz
set_option linter.unusedVariables false
set_option linter.unusedSimpArgs false
set_option maxRecDepth 10000
end Go.Proofs.YtghhjjmjpeehdaaGreat
namespace Go.Proofs.YtghhjjmjpeehdaaGreat
open Bk Go Tryz
set_option linter.unusedVariables false
set_option linter.unusedSimpArgs false
set_option maxRecDepth 10000
theorem made_mod {w0 : World} {h0 : Mem}  (hs : MLe h0 (mem w0)) {n m : Int} (hm : 0 < m) (hm2 : m < 4611686018427387904) :
    Calls Tryz.prog 55 #[vI n, vI m] w0 (Ret w0 h0 (fun _ r => r = vI (modZ n m))) := by
 have htr := tmod_range n hm
 refine zM (n := 14) (e := [(0, vI n), (1, vI m)]) (vs := [vI n, vI m]) func55 rfl rfl (bL rfl) hs e2z (zC (zA (asg (v := vI (0)) rfl rfl (zD (zB (zC (zA (mv rfl rfl (mv rfl rfl (gv (ov_remt_i rfl rfl (by omega)) rfl (asg rfl rfl (zD (zB ?_)))))))))))))
 refine zC (zC (zA (mv rfl rfl (gv (zW (q := 0) rfl rfl) rfl (zD (zB ?_))))))
 refine zN rfl (fun hc9 => ?_) (fun hc9 => ?_)
 ·
  refine zA (mv rfl rfl (mv rfl rfl (gv (zS rfl rfl (by omega) (by omega)) rfl (asg rfl rfl (zD (zJ (e' := [(0, _)]) ⟨rfl, trivial⟩ (zB (zC (zA (mv rfl rfl (asg rfl rfl (zD (zB ?_)))))))))))))
  refine zQ (yC rfl rfl ?_)
  rw [modZ, if_pos hc9]
 refine zK (zB (zC (zA (mv rfl rfl (asg rfl rfl (zD (zB (zQ (yC rfl rfl ?_)))))))))
 rw [modZ, if_neg hc9]
theorem made_light {w0 : World} {h0 : Mem}  (hs : MLe h0 (mem w0)) {vl : Value} {xs : List Int} (hl : Is h0 vl xs) :
    Calls Tryz.prog 9 #[vl] w0 (Ret w0 h0 (fun _ r => r = vB ((↑xs.length : Int) ≤ 500))) := by
 refine zM (n := 6) (e := [(0, vl)]) (vs := [vl]) func9 rfl rfl (bL rfl) hs ⟨rfl, trivial⟩ (zC (zA (asg rfl rfl (zD (zB (zC (zA (mv rfl rfl (gv (ov_len_is underlying22 rfl hl) rfl (gv (ov_leq_i (q := 500) rfl rfl) rfl (asg rfl rfl (zD (zB ?_)))))))))))))
 refine zQ (yC rfl rfl ?_)
 rfl
theorem made_roll {w0 : World} {h0 : Mem}  (hs : MLe h0 (mem w0)) {vl : Value} {xs : List Int} (hl : Is h0 vl xs) :
    Calls Tryz.prog 11 #[vl] w0 (RetOwn w0 h0 (fun _ r L => ∃ b, r = vP b 0 ∧ L = [.var b 65 [vl, vI ↑0]])) := by
 refine zM (n := 6) (e := [(0, vl)]) (vs := [vl]) func11 rfl rfl (bL rfl) hs ⟨rfl, trivial⟩ (zC (zA (asg rfl rfl (zD (zB (zC (zA (mv rfl rfl (gv (wK (ps' := [(0, _)]) (vs := [vl, vI 0]) underlying65 info65 rfl (places65 underlying65) e2z (vD (A := []) (B := [_]) (C := [_]) (cs := [_]) (off := 0) (size := 1) rfl rfl rfl rfl hl.cells qI)) rfl (zI (wZ (cs := [_, _]) rfl rfl) rfl rfl rfl ?_))))))))))
 intro v5 r5 hr5
 obtain ⟨b5, rfl, rfl⟩ := hr5
 refine asg rfl rfl (zD (zB (zQ (jN rfl rfl ?_))))
 exact ⟨_, rfl, rfl⟩
theorem dice_next {w0 w : World} {h0 h : Mem} {b k : Nat} {vl : Value} {xs : List Int} (hl : Is h vl xs) (hk : k ≤ xs.length) {n : Int} (hn : 0 < n) (hn2 : n < 4611686018427387904) {L : List Res} (hs : St w0 h0 (.var b 65 [vl, vI ↑k] :: L) h w) :
    Calls Tryz.prog 22 #[vP b 0, vI n] w (RetMut w0 h0 h L (fun g r q' => ∃ k' : Nat, ∃ z, q' = .var b 65 [vl, vI ↑k'] ∧ k' ≤ xs.length ∧ (r = vI z ∧ 0 ≤ z ∧ z < n))) := by
 have hlen := hl.lt63
 refine kW (n := 35) (e := [(0, vP b 0), (1, vI n)]) (vs := [vP b 0, vI n]) func22 rfl rfl (bL rfl) hs e2z (zC (zA (asg (v := vI (0)) rfl rfl (zD (zB (zC (zC ?_)))))))
 refine yF 10 _ [] [(0, .q), (1, .q), (2, .q), (3, .q), (4, .q), (5, .q), (6, .q), (7, .q), (8, .q), (9, .q)] xH nX (by kernel_rfl) nX (fun r hr => hr) (yH rfl rfl rfl (yK rfl (fun _ _ => ov_nilcheck rfl) rfl (yK rfl (fun _ _ => zG underlying65 rfl sizeOf3 rfl) rfl (w_q rfl (fun h' L' hh hR => zR (hR _ mh0) isAgg3 rfl rfl) rfl (yH rfl rfl rfl (yK rfl (fun _ _ => ov_nilcheck rfl) rfl (yK rfl (fun _ _ => zG underlying65 rfl sizeOf22 rfl) rfl (w_q rfl (fun h' L' hh hR => zR (hR _ mh0) isAgg22 rfl rfl) rfl (w_q rfl (fun h' L' hh hR => ov_len_is underlying22 rfl (hl.mono hh)) rfl (yK rfl (fun _ _ => qT rfl rfl) rfl (xB (zJ (e' := [(0, _), (1, _), (14, _)]) e3z (zB ?_)))))))))))))
 refine zN rfl (fun hc14 => ?_) (fun hc14 => ?_)
 ·
  refine zC (zA (asg (v := vI (0)) rfl rfl (zD (zB (zQ (zV (jN rfl rfl ?_)))))))
  exact ⟨_, (List.Sublist.refl _), (MLe.refl _), k, 0, rfl, hk, rfl, by omega, hn⟩
 refine zK (zB (zC (zA (mv rfl rfl (gv (ov_nilcheck rfl) rfl (gv (zG underlying65 rfl sizeOf3 rfl) rfl (gv (zR mh0 isAgg3 rfl rfl) rfl (gv (zS (q := 1) rfl rfl (by omega) (by omega)) rfl (gv (ov_nilcheck rfl) rfl (gv (zG underlying65 rfl sizeOf3 rfl) rfl (wY (A := []) (r' := .var b 65 [vl, vI ((↑k : Int) + (1 : Int))]) (yA (k := 1) (cs := [_, _]) (vs := [_]) rfl rfl rfl rfl size3 (bL rfl)) rfl rfl rfl (zD (zB ?_)))))))))))))
 refine zC ?_
 refine yF 14 _ [] [(0, .q), (1, .q), (2, .q), (3, .q), (4, .q), (5, .q), (6, .q), (7, .q), (8, .q), (9, .q), (10, .q), (11, .q), (12, .c), (13, .q)] xH nX (by kernel_rfl) nX (fun r hr => hr) (yH rfl rfl rfl (yK rfl (fun _ _ => ov_nilcheck rfl) rfl (yK rfl (fun _ _ => zG underlying65 rfl sizeOf22 rfl) rfl (w_q rfl (fun h' L' hh hR => zR (hR _ mh0) isAgg22 rfl rfl) rfl (yH rfl rfl rfl (yK rfl (fun _ _ => ov_nilcheck rfl) rfl (yK rfl (fun _ _ => zG underlying65 rfl sizeOf3 rfl) rfl (w_q rfl (fun h' L' hh hR => zR (hR _ mh0) isAgg3 rfl rfl) rfl (yK rfl (fun _ _ => xO (q := 1) rfl rfl (by omega) (by omega)) rfl (w_q rfl (fun h' L' hh hR => ov_index_is (k) underlying22 sizeOf3 rfl rfl (hl.mono hh) (by omega) (by omega)) rfl (w_q rfl (fun h' L' hh hR => ov_load_is isAgg3 rfl (hl.mono hh) (by omega)) rfl (yH rfl rfl rfl ?_))))))))))))
 refine w_c rfl ?_
 refine zY (vs := [_, _]) call55 e2z (fun w hs => made_mod hs (by omega) (by omega)) rfl ?_
 intro v34 h1 hh1 hr34
 have hmz34 := modZ_range ((xs).getD (k) 0) (q := n) (by omega)
 subst hr34
 refine uG rfl rfl rfl (xB (zJ (e' := [(4, _)]) ⟨rfl, trivial⟩ (zB (zQ (jN rfl rfl ?_)))))
 exact ⟨_, (List.Sublist.refl _), hh1, k + 1, _, rfl, by omega, rfl, hmz34.1, hmz34.2⟩
end Go.Proofs.YtghhjjmjpeehdaaGreat
namespace Bk
set_option linter.unusedVariables false
set_option linter.unusedSimpArgs false
open Go Go.RowKit
open Classical
theorem sq_exists (n : Nat) : ∃ m, m * m ≤ n ∧ n < (m + 1) * (m + 1) := by
  induction n with
  | zero => exact ⟨0, by decide, by decide⟩
  | succ n ih =>
    obtain ⟨m, h1, h2⟩ := ih
    by_cases h : (m + 1) * (m + 1) ≤ n + 1
    · refine ⟨m + 1, h, ?_⟩
      have : (m + 1) * (m + 1) < (m + 1 + 1) * (m + 1 + 1) := Nat.mul_self_lt_mul_self (by omega)
      omega
    · exact ⟨m, by omega, by omega⟩
noncomputable def sqN (n : Nat) : Nat := Classical.choose (sq_exists n)
end Bk
namespace Bk
set_option linter.unusedVariables false
set_option linter.unusedSimpArgs false
open Go Go.RowKit
open Classical
noncomputable def ovQ (a K : Nat) : Rat := (a : Rat) / ((2 ^ K : Nat) : Rat)
def flN (q : Rat) (K : Nat) : Nat := q.num.natAbs * 2 ^ K * 2 ^ K / q.den
noncomputable def rootQ (q : Rat) (k : Int) : Rat := ovQ (sqN (flN q (kN k))) (kN k)
theorem den_pos (q : Rat) : (0 : Rat) < (q.den : Rat) := by
  have : (0 : Rat) = ((0 : Nat) : Rat) := rfl
  rw [this, Rat.natCast_lt_natCast]
  exact Nat.pos_of_ne_zero q.den_nz
theorem num_nonneg {q : Rat} (h : 0 ≤ q) : (q.num.natAbs : Int) = q.num := Int.natAbs_of_nonneg (Rat.num_nonneg.2 h)
def topN (q : Rat) (K : Nat) : Nat := (q.num.natAbs / q.den + 1) * 2 ^ K
def moreP (q : Rat) (K : Nat) : Prop := q.num.natAbs * 2 ^ K * 2 ^ K % q.den ≠ 0
noncomputable def rtLo (l h : Rat) (k : Int) : Rat := if h < 0 then 0 else rootQ (kL l 0) k
noncomputable def rtHi (h : Rat) (k : Int) : Rat := if h < 0 then 0 else if rootQ h k * rootQ h k < h then rootQ h k + ovQ 1 (kN k) else rootQ h k
noncomputable def rtE (h : Rat) : Int := if h < 0 then 7 else 0
noncomputable def loN (l : Rat) (K : Nat) : Nat := if 0 < uT l then sqN (flN l K) else 0
theorem sgn_pos {q : Rat} : 0 < uT q ↔ 0 < q := by
  rw [sgnQ_lt]
  by_cases h0 : q = 0
  · rw [if_pos h0, h0]
    constructor
    · intro h; omega
    · intro h; exact absurd h (Rat.lt_irrefl)
  · rw [if_neg h0]
    by_cases h1 : q < 0
    · rw [if_pos h1]
      constructor
      · intro h; omega
      · intro h; grind
    · rw [if_neg h1]
      constructor
      · intro h; grind
      · intro h; omega
theorem qY {q : Rat} : uT q < 0 ↔ q < 0 := by
  rw [sgnQ_lt]
  by_cases h0 : q = 0
  · rw [if_pos h0, h0]
    constructor
    · intro h; omega
    · intro h; exact absurd h (Rat.lt_irrefl)
  · rw [if_neg h0]
    by_cases h1 : q < 0
    · rw [if_pos h1]; simp [h1]
    · rw [if_neg h1]
      constructor
      · intro h; omega
      · intro h; grind
noncomputable def hiN (q : Rat) (K : Nat) : Nat := if moreP q K ∨ cmpN (sqN (flN q K) * sqN (flN q K)) (flN q K) < 0 then sqN (flN q K) + 1 else sqN (flN q K)
end Bk
namespace Bk
set_option linter.unusedVariables false
set_option linter.unusedSimpArgs false
open Go Go.RowKit
open Classical
abbrev Sp := Rat × Rat
noncomputable def ofS (a b : Rat) : Sp := (kM a b, kL a b)
noncomputable def hullS (a b : Sp) : Sp := (kM a.1 b.1, kL a.2 b.2)
def addS (a b : Sp) : Sp := (a.1 + b.1, a.2 + b.2)
def negS (a : Sp) : Sp := (-a.2, -a.1)
def subS (a b : Sp) : Sp := (a.1 - b.2, a.2 - b.1)
noncomputable def mulS (a b : Sp) : Sp := (mulLo a.1 a.2 b.1 b.2, mulHi a.1 a.2 b.1 b.2)
noncomputable def sqrS (a : Sp) : Sp := (sqrLo a.1 a.2, sqrHi a.1 a.2)
noncomputable def roundS (a : Sp) (n : Int) : Sp := (downQ a.1 n, upQ a.2 n)
noncomputable def quoS (a b : Sp) : Sp := (quoLo a.1 a.2 b.1 b.2, quoHi a.1 a.2 b.1 b.2)
noncomputable def meetS (a b : Sp) : Sp := (if kM a.2 b.2 < kL a.1 b.1 then 0 else kL a.1 b.1, if kM a.2 b.2 < kL a.1 b.1 then 0 else kM a.2 b.2)
noncomputable def rootS (a : Sp) (n : Int) : Sp := (rtLo a.1 a.2 n, rtHi a.2 n)
noncomputable def withinQ (s : Sp) (n : Int) : Rat := s.1 + partQ n * (s.2 - s.1)
noncomputable def ratQ (n d : Int) : Rat := qR (modZ n 41 - 20) (modZ d 8 + 1)
noncomputable def det2S (a b c d : Sp) : Sp := subS (mulS a d) (mulS b c)
noncomputable def minorS (m : T3 (T3 Sp)) (i j : Nat) : Sp := det2S (m.y.at i) (m.y.at j) (m.z.at i) (m.z.at j)
noncomputable def det3S (m : T3 (T3 Sp)) : Sp := addS (subS (mulS m.x.x (minorS m 1 2)) (mulS m.x.y (minorS m 0 2))) (mulS m.x.z (minorS m 0 1))
def okM (m : T3 (T3 Sp)) : Prop := ∀ i j, ((m.at i).at j).1 ≤ ((m.at i).at j).2
noncomputable def det2L (m : List (List Sp)) : Sp := det2S ((m.getD 0 (List.replicate 2 ((0 : Rat), (0 : Rat)))).getD 0 ((0 : Rat), (0 : Rat))) ((m.getD 0 (List.replicate 2 ((0 : Rat), (0 : Rat)))).getD 1 ((0 : Rat), (0 : Rat))) ((m.getD 1 (List.replicate 2 ((0 : Rat), (0 : Rat)))).getD 0 ((0 : Rat), (0 : Rat))) ((m.getD 1 (List.replicate 2 ((0 : Rat), (0 : Rat)))).getD 1 ((0 : Rat), (0 : Rat)))
def detR (n : T3 (T3 Rat)) : Rat := n.x.x * n.y.y * n.z.z - n.x.x * n.y.z * n.z.y + (n.x.y * n.y.z * n.z.x - n.x.y * n.y.x * n.z.z) + (n.x.z * n.y.x * n.z.y - n.x.z * n.y.y * n.z.x)
end Bk
namespace Go.Proofs.YtghhjjmjpeehdaaGreat
open Bk Go Tryz
set_option linter.unusedVariables false
set_option linter.unusedSimpArgs false
set_option maxRecDepth 10000
end Go.Proofs.YtghhjjmjpeehdaaGreat
namespace Bk
set_option linter.unusedVariables false
set_option linter.unusedSimpArgs false
open Go Go.RowKit
open Classical
abbrev Pt := T3 Rat
abbrev P2 := Rat × Rat
def pr (p : Pt) (i j : Nat) : P2 := (p.at i, p.at j)
def cr (u v w : P2) : Rat := (v.1 - u.1) * (w.2 - u.2) - (v.2 - u.2) * (w.1 - u.1)
noncomputable def orZ (u v w : P2) : Int := uT (cr u v w)
def betwP (a b x : Rat) : Prop := (a ≤ x ∧ x ≤ b) ∨ (x ≤ a ∧ b ≤ x)
def onS (u v p : P2) : Prop := betwP u.1 v.1 p.1 ∧ betwP u.2 v.2 p.2 ∧ cr u v p = 0
def apartP (a b c d : Rat) : Prop := (a < c ∧ a < d ∧ b < c ∧ b < d) ∨ (c < a ∧ d < a ∧ c < b ∧ d < b)
def lx (u v : P2) : Prop := u.1 < v.1 ∨ (u.1 = v.1 ∧ u.2 < v.2)
noncomputable def lo2 (u v : P2) : P2 := if lx v u then v else u
noncomputable def hi2 (u v : P2) : P2 := if lx v u then u else v
noncomputable def alongS (a b c d : P2) : Int :=
  if lx (if lx d b then d else b) (if lx a c then c else a) then 0 else if lx (if lx a c then c else a) (if lx d b then d else b) then 3
  else if ((if lx a c then c else a) = a ∨ (if lx a c then c else a) = b) ∧ ((if lx a c then c else a) = c ∨ (if lx a c then c else a) = d) then 1 else 2
noncomputable def along2 (a b c d : P2) : Int := alongS (lo2 a b) (hi2 a b) (lo2 c d) (hi2 c d)
noncomputable def touch2 (a b c d : P2) : Int :=
  if apartP a.1 b.1 c.1 d.1 ∨ apartP a.2 b.2 c.2 d.2 then 0
  else if orZ a b c = 0 ∧ orZ a b d = 0 ∧ orZ c d a = 0 ∧ orZ c d b = 0 then along2 a b c d
  else if 0 < orZ a b c * orZ a b d ∨ 0 < orZ c d a * orZ c d b then 0
  else if (orZ a b c = 0 ∨ orZ a b d = 0) ∧ (orZ c d a = 0 ∨ orZ c d b = 0) then 1 else 2
noncomputable def lineR (a b c d : P2) : Int :=
  if lx (if lx d b then d else b) (if lx a c then c else a) then 0 else if (if lx a c then c else a) ≠ (if lx d b then d else b) then 3
  else if ((if lx a c then c else a) = a ∨ (if lx a c then c else a) = b) ∧ ((if lx a c then c else a) = c ∨ (if lx a c then c else a) = d) ∧ onS a b (if lx a c then c else a) ∧ onS c d (if lx a c then c else a) then 1
  else if onS a b (if lx a c then c else a) ∧ onS c d (if lx a c then c else a) then 2 else 0
noncomputable def singleR (a b c d : P2) : Int := if (a = b ∧ onS c d a) ∨ (c = d ∧ onS a b c) then 2 else 0
noncomputable def touchS (a b c d : P2) : Int :=
  if orZ a b c = 0 ∧ orZ a b d = 0 ∧ orZ c d a = 0 ∧ orZ c d b = 0 then lineR a b c d
  else if a = b ∨ c = d then singleR a b c d
  else if 0 < orZ a b c * orZ a b d ∨ 0 < orZ c d a * orZ c d b then 0
  else if a = c ∨ a = d ∨ b = c ∨ b = d then 1 else 2
noncomputable def touchR (a b c d : P2) : Int := touchS (lo2 a b) (hi2 a b) (lo2 c d) (hi2 c d)
def cr2 (ax ay bx by' cx cy : Rat) : Rat := (bx - ax) * (cy - ay) - (by' - ay) * (cx - ax)
def lex (ax ay bx by' : Rat) : Prop := ax < bx ∨ (ax = bx ∧ ay < by')
theorem cr2_swap (ax ay bx by' cx cy : Rat) : cr2 bx by' ax ay cx cy = -cr2 ax ay bx by' cx cy := by unfold cr2; grind
theorem cr_swap (a b c : P2) : cr b a c = -cr a b c := cr2_swap _ _ _ _ _ _
theorem cr_self (a c : P2) : cr a a c = 0 := by unfold cr; grind
theorem cr_end' (a c : P2) : cr a c a = 0 := by unfold cr; grind
end Bk
namespace Bk
set_option linter.unusedVariables false
set_option linter.unusedSimpArgs false
open Go Go.RowKit
open Classical
def smZ (q : Rat) : Int := if q.den ≠ 1 ∨ 1 < (zF q.num.natAbs).length then 0 else q.num
def smB (q : Rat) : Prop := q.den = 1 ∧ q.num.natAbs < 268435456
theorem len_le_one {n : Nat} (h : n < 4294967296) : (zF n).length ≤ 1 := uR (by rw [Nat.pow_one]; exact h)
theorem smB_len {q : Rat} (h : smB q) : (zF q.num.natAbs).length ≤ 1 := len_le_one (by have := h.2; omega)
theorem sm_eq {q : Rat} (h : smB q) : q = ((smZ q : Int) : Rat) ∧ -268435456 < smZ q ∧ smZ q < 268435456 := by
  have h1 := smB_len h
  have e : smZ q = q.num := by unfold smZ; rw [if_neg]; rintro (e | e); exact e h.1; omega
  have h2 := h.2
  refine ⟨?_, by rw [e]; omega, by rw [e]; omega⟩
  rw [e]
  have h3 := Rat.divInt_eq_div q.num q.den
  rw [Rat.num_divInt_den, h.1] at h3
  rw [h3]
  have e1 : ((1 : Nat) : Int) = 1 := rfl
  have : ((q.num : Rat) / ((((1 : Nat) : Int)) : Rat)) = (q.num : Rat) := by rw [e1]; have e2 : ((1 : Int) : Rat) = 1 := rfl; rw [e2]; grind
  rw [this]
  rw [h3] at *
  simp
theorem sm_e1 {q : Rat} (h : (0 : Int) < ↑(zF (vO q.den)).length ∨ (1 : Int) < ↑(zF q.num.natAbs).length) : smZ q = 0 ∧ ¬ smB q := by
  have h1 : q.den ≠ 1 ∨ 1 < (zF q.num.natAbs).length := by
    rcases h with h | h
    · left; intro e; rw [e, denN_one, wD] at h; simp at h
    · right; omega
  refine ⟨if_pos h1, fun hb => ?_⟩
  rcases h1 with e | e
  · exact e hb.1
  · have := smB_len hb; omega
theorem sm_den {q : Rat} (h : ¬ ((0 : Int) < ↑(zF (vO q.den)).length ∨ (1 : Int) < ↑(zF q.num.natAbs).length)) : q.den = 1 ∧ (zF q.num.natAbs).length ≤ 1 := by
  refine ⟨(denL_nil_iff q.den_nz).1 ?_, by omega⟩
  have : (zF (vO q.den)).length = 0 := by omega
  exact List.eq_nil_of_length_eq_zero this
theorem sm_num {q : Rat} (h : ¬ ((0 : Int) < ↑(zF (vO q.den)).length ∨ (1 : Int) < ↑(zF q.num.natAbs).length)) : smZ q = q.num := by
  obtain ⟨h1, h2⟩ := sm_den h
  unfold smZ
  rw [if_neg]
  rintro (e | e)
  · exact e h1
  · omega
theorem sm_e2 {q : Rat} (h : ¬ ((0 : Int) < ↑(zF (vO q.den)).length ∨ (1 : Int) < ↑(zF q.num.natAbs).length)) (h0 : (↑(zF q.num.natAbs).length : Int) = 0) : smZ q = 0 ∧ smB q := by
  obtain ⟨h1, h2⟩ := sm_den h
  have hn : q.num.natAbs = 0 := by
    refine Classical.byContradiction fun e => ?_
    have := wF.2 e
    omega
  refine ⟨by rw [sm_num h]; omega, h1, by omega⟩
theorem sm_limb {q : Rat} (h : ¬ ((0 : Int) < ↑(zF (vO q.den)).length ∨ (1 : Int) < ↑(zF q.num.natAbs).length)) (h0 : ¬ (↑(zF q.num.natAbs).length : Int) = 0) : (zF q.num.natAbs).getD 0 0 = q.num.natAbs ∧ q.num.natAbs < 4294967296 ∧ (smB q ↔ q.num.natAbs < 268435456) := by
  obtain ⟨h1, h2⟩ := sm_den h
  have h3 := val_one (xs := zF q.num.natAbs) (by omega)
  rw [zU] at h3
  have h4 := uL q.num.natAbs
  have h5 : (zF q.num.natAbs).length = 1 := by omega
  rw [h5, Nat.pow_one] at h4
  exact ⟨h3.symm, h4, fun e => e.2, fun e => ⟨h1, e⟩⟩
theorem tup_small {x y : Int} {p q : Prop} (h1 : x = y) (h2 : p ↔ q) : Value.tuple #[vI x, vB p] = .tuple #[vI y, vB q] := by subst h1; rw [vB_iff h2]
theorem prod_b {u v : Int} (h1 : -536870912 < u) (h2 : u < 536870912) (h3 : -536870912 < v) (h4 : v < 536870912) : -288230376151711744 ≤ u * v ∧ u * v ≤ 288230376151711744 := by
  have key : ∀ {a b : Int}, 0 ≤ a → a < 536870912 → 0 ≤ b → b < 536870912 → 0 ≤ a * b ∧ a * b ≤ 288230376151711744 := by
    intro a b ha ha' hb hb'
    have k1 := Int.mul_nonneg ha hb
    have k2 : a * b ≤ 536870912 * 536870912 := Int.mul_le_mul (by omega) (by omega) hb (by omega)
    omega
  rcases Int.le_total 0 u with hu | hu <;> rcases Int.le_total 0 v with hv | hv
  · have := key hu h2 hv h4; omega
  · have := key hu h2 (b := -v) (by omega) (by omega)
    rw [Int.mul_neg] at this; omega
  · have := key (a := -u) (by omega) (by omega) hv h4
    rw [Int.neg_mul] at this; omega
  · have := key (a := -u) (b := -v) (by omega) (by omega) (by omega) (by omega)
    rw [Int.neg_mul_neg] at this; omega
def sgnZ (n : Int) : Int := if 0 < n then 1 else if n < 0 then -1 else 0
theorem sgn_cast (n : Int) : uT (n : Rat) = sgnZ n := by
  rw [sgnQ_lt]
  unfold sgnZ
  have h0 : ((n : Rat) = 0) ↔ n = 0 := by
    have e : (0 : Rat) = ((0 : Int) : Rat) := rfl
    rw [e, Rat.intCast_inj]
  have h1 : ((n : Rat) < 0) ↔ n < 0 := by
    have e : (0 : Rat) = ((0 : Int) : Rat) := rfl
    rw [e, Rat.intCast_lt_intCast]
  simp only [h0, h1]
  split
  · rename_i h; subst h; simp
  · split
    · rw [if_neg (by omega)]
    · rw [if_pos (by omega)]
theorem or_small {a b c : P2} (h1 : smB a.1 ∧ smB a.2) (h2 : smB b.1 ∧ smB b.2) (h3 : smB c.1 ∧ smB c.2) :
    sgnZ ((smZ b.1 - smZ a.1) * (smZ c.2 - smZ a.2) - (smZ b.2 - smZ a.2) * (smZ c.1 - smZ a.1)) = orZ a b c := by
  rw [← sgn_cast]
  unfold orZ cr
  congr 1
  rw [Rat.intCast_sub, Rat.intCast_mul, Rat.intCast_mul, Rat.intCast_sub, Rat.intCast_sub, Rat.intCast_sub, Rat.intCast_sub]
  rw [← (sm_eq h1.1).1, ← (sm_eq h1.2).1, ← (sm_eq h2.1).1, ← (sm_eq h2.2).1, ← (sm_eq h3.1).1, ← (sm_eq h3.2).1]
theorem or_cmp (a b c : P2) : kO ((b.1 - a.1) * (c.2 - a.2)) ((b.2 - a.2) * (c.1 - a.1)) = orZ a b c := by rw [cmpQ_sub]; rfl
theorem or_range (a b c : P2) : -1 ≤ orZ a b c ∧ orZ a b c ≤ 1 := uE _
noncomputable def loT (a b : Pt) (i j : Nat) : Pt := if lx (pr b i j) (pr a i j) then b else a
noncomputable def hiT (a b : Pt) (i j : Nat) : Pt := if lx (pr b i j) (pr a i j) then a else b
noncomputable def mxT (a c : Pt) (i j : Nat) : Pt := if lx (pr a i j) (pr c i j) then c else a
noncomputable def mnT (b d : Pt) (i j : Nat) : Pt := if lx (pr d i j) (pr b i j) then d else b
end Bk
namespace Bk
set_option linter.unusedVariables false
set_option linter.unusedSimpArgs false
open Go Go.RowKit
open Classical
def gp (l : List Pt) (m : Nat) : Pt := l.getD m (T3.mk (0 : Rat) 0 0)
def areaTo (l : List Pt) (i j : Nat) : Nat → Rat
  | 0 => 0
  | m + 1 => areaTo l i j m + ((gp l m).at i * (gp l ((m + 1) % l.length)).at j - (gp l ((m + 1) % l.length)).at i * (gp l m).at j)
def crossP (a b p : P2) : Prop := ¬ (a.2 ≤ p.2 ↔ b.2 ≤ p.2) ∧ ((a.2 ≤ p.2 ∧ 0 < orZ a b p) ∨ (b.2 ≤ p.2 ∧ orZ a b p < 0))
def edgeA (l : List Pt) (i j m : Nat) : P2 := pr (gp l m) i j
def edgeB (l : List Pt) (i j m : Nat) : P2 := pr (gp l ((m + 1) % l.length)) i j
def oddTo (l : List Pt) (p : P2) (i j : Nat) : Nat → Prop
  | 0 => False
  | m + 1 => (crossP (edgeA l i j m) (edgeB l i j m) p ∧ ¬ oddTo l p i j m) ∨ (¬ crossP (edgeA l i j m) (edgeB l i j m) p ∧ oddTo l p i j m)
noncomputable def insZ (l : List Pt) (p : P2) (i j : Nat) : Int :=
  if ∃ m, m < l.length ∧ onS (edgeA l i j m) (edgeB l i j m) p then 0 else if oddTo l p i j l.length then 1 else -1
noncomputable def lineT (a b c d lo hi : Pt) : Int :=
  if lx (pr hi 0 1) (pr lo 0 1) then 0 else if ¬ pr lo 0 1 = pr hi 0 1 then 3
  else if (((pr lo 0 1 = pr a 0 1 ∨ pr lo 0 1 = pr b 0 1) ∧ (pr lo 0 1 = pr c 0 1 ∨ pr lo 0 1 = pr d 0 1)) ∧ onS (pr a 0 1) (pr b 0 1) (pr lo 0 1)) ∧ onS (pr c 0 1) (pr d 0 1) (pr lo 0 1) then 1
  else if onS (pr a 0 1) (pr b 0 1) (pr lo 0 1) ∧ onS (pr c 0 1) (pr d 0 1) (pr lo 0 1) then 2 else 0
noncomputable def touchT (a b c d : Pt) : Int :=
  if ((orZ (pr a 0 1) (pr b 0 1) (pr c 0 1) = 0 ∧ orZ (pr a 0 1) (pr b 0 1) (pr d 0 1) = 0) ∧ orZ (pr c 0 1) (pr d 0 1) (pr a 0 1) = 0) ∧ orZ (pr c 0 1) (pr d 0 1) (pr b 0 1) = 0 then lineR (pr a 0 1) (pr b 0 1) (pr c 0 1) (pr d 0 1)
  else if pr a 0 1 = pr b 0 1 ∨ pr c 0 1 = pr d 0 1 then singleR (pr a 0 1) (pr b 0 1) (pr c 0 1) (pr d 0 1)
  else if 0 < orZ (pr a 0 1) (pr b 0 1) (pr c 0 1) * orZ (pr a 0 1) (pr b 0 1) (pr d 0 1) ∨ 0 < orZ (pr c 0 1) (pr d 0 1) (pr a 0 1) * orZ (pr c 0 1) (pr d 0 1) (pr b 0 1) then 0
  else if ((pr a 0 1 = pr c 0 1 ∨ pr a 0 1 = pr d 0 1) ∨ pr b 0 1 = pr c 0 1) ∨ pr b 0 1 = pr d 0 1 then 1 else 2
end Bk
namespace Go.Proofs.YtghhjjmjpeehdaaGreat
open Bk Go Tryz
set_option linter.unusedVariables false
set_option linter.unusedSimpArgs false
set_option maxRecDepth 10000
theorem pl_small {w0 : World} {h0 : Mem}  (hs : MLe h0 (mem w0)) {qa : Rat} {vna vda : Value} (hna : Us .u32 h0 vna (zF qa.num.natAbs)) (hda : Us .u32 h0 vda (zF (vO qa.den))) :
    Calls Tryz.prog 98 #[.agg #[vB (qa.num < 0), vna, vda]] w0 (Ret w0 h0 (fun _ r => r = .tuple #[vI (smZ qa), vB (smB qa)])) := by
 refine zM (n := 33) (e := [(0, .agg #[vB (qa.num < 0), vna, vda])]) (vs := [.agg #[vB (qa.num < 0), vna, vda]]) func98 rfl rfl (bL rfl) hs ⟨rfl, trivial⟩ (zC (zA (zI (wZ (cs := [_, _, _]) rfl rfl) rfl rfl rfl ?_)))
 intro v1 r1 hr1
 obtain ⟨b1, rfl, rfl⟩ := hr1
 refine asg (v := vI (0)) rfl rfl (asg rfl rfl (zD (zB (zC (zC (zA (gv (zG underlying30 rfl sizeOf28 rfl) rfl (gv (zR mh0 isAgg28 rfl rfl) rfl (gv (zZ underlying28 rfl hda) rfl (gv (uH (q := 0) rfl rfl) rfl ?_))))))))))
 refine vY (ι := Unit) 6 (fun _ => True) (fun _ => [(14, vB (((0 : Int) < (↑(zF (vO qa.den)).length : Int)) ∨ ((1 : Int) < (↑(zF qa.num.natAbs).length : Int)))), (1, vP b1 0)]) (fun _ => [.var b1 30 [vB (qa.num < 0), vna, vda]]) (fun _ => h0) ?_ ?_
 ·
  refine wL ((0 : Int) < (↑(zF (vO qa.den)).length : Int)) (fun hg => ?_) (fun hg => ?_)
  ·
   refine xE (yO (v := .bool true) (congrArg some (xL hg))) rfl rfl rfl (yI rfl rfl rfl rfl rfl rfl (yI rfl rfl rfl rfl rfl rfl (yI rfl rfl rfl rfl rfl rfl (yI rfl rfl rfl rfl rfl rfl (gv (xM rfl rfl) rfl (zD ?_))))))
   refine yM () trivial ⟨?_, rfl, trivial⟩ rfl rfl
   exact congrArg some (jZ hg)
  refine xE (yO (v := .bool false) (congrArg some (yX hg))) rfl rfl rfl (yY rfl rfl rfl (gv (zG underlying30 rfl sizeOf28 rfl) rfl (yY rfl rfl rfl (gv (zR mh0 isAgg28 rfl rfl) rfl (yY rfl rfl rfl (gv (zZ underlying28 rfl hna) rfl (yY rfl rfl rfl (gv (uH (q := 1) rfl rfl) rfl (gv (xW rfl rfl) rfl (zD ?_))))))))))
  refine yM () trivial ⟨?_, rfl, trivial⟩ rfl rfl
  exact congrArg some (kA hg)
 intro _ _
 show GL _ _ _ _ _ _ _ [(14, vB (((0 : Int) < (↑(zF (vO qa.den)).length : Int)) ∨ ((1 : Int) < (↑(zF qa.num.natAbs).length : Int)))), (1, vP b1 0)] [.var b1 30 [vB (qa.num < 0), vna, vda]] h0
 refine zD (zB ?_)
 refine zN rfl (fun hc14 => ?_) (fun hc14 => ?_)
 ·
  refine zC (zA (asg (v := vI (0)) rfl rfl (asg rfl rfl (zD (zB (zQ (zV (vK rfl rfl rfl ?_))))))))
  obtain ⟨e1, e2⟩ := sm_e1 hc14
  rw [e1, yX e2]
 refine zK (zB (zC (zC (zA (gv (zG underlying30 rfl sizeOf28 rfl) rfl (gv (zR mh0 isAgg28 rfl rfl) rfl (gv (zZ underlying28 rfl hna) rfl (gv (xU (q := 0) rfl rfl) rfl (zD (zB ?_))))))))))
 refine zN rfl (fun hc18 => ?_) (fun hc18 => ?_)
 ·
  refine zC (zA (asg (v := vI (0)) rfl rfl (asg rfl rfl (zD (zB (zQ (zV (vK rfl rfl rfl ?_))))))))
  obtain ⟨e1, e2⟩ := sm_e2 hc14 hc18
  rw [e1, xL e2]
 obtain ⟨hs1, hs2, hs3⟩ := sm_limb hc14 hc18
 have hs4 := sm_num hc14
 refine zK (zB (zC (zA (gv (zG underlying30 rfl sizeOf28 rfl) rfl (gv (zR mh0 isAgg28 rfl rfl) rfl (gv (yN (q := 0) (0) underlying28 sizeOf124 rfl rfl hna rfl (by omega)) rfl (gv (yQ isAgg124 rfl hna (by omega)) rfl ?_)))))))
 rw [hs1]
 refine gv (ov_conv_ui (k := .u32) underlying124 underlying2 rfl (by omega)) rfl (asg rfl rfl (zD (zJ (e' := [(1, _), (4, _)]) e2z (zB (zC (zC (zA (gv (zG underlying30 rfl sizeOf4 rfl) rfl (gv (zR mh0 isAgg4 rfl rfl) rfl (zD (zB ?_)))))))))))
 refine zN rfl (fun hc25 => ?_) (fun hc25 => ?_)
 ·
  have hneg := hc25
  refine zC (zA (mv rfl rfl (gv (ov_neg_i rfl (by omega) (by omega)) rfl (mv rfl rfl (gv (zW (q := 268435456) rfl rfl) rfl (asg rfl rfl (asg rfl rfl (zD (zB (zQ (zV (vK rfl rfl rfl ?_))))))))))))
  exact tup_small (by omega) (Iff.trans (by omega) hs3.symm)
 have hneg := hc25
 refine zK (zB (zC (zA (mv rfl rfl (mv rfl rfl (gv (zW (q := 268435456) rfl rfl) rfl (asg rfl rfl (asg rfl rfl (zD (zB (zQ (vK rfl rfl rfl ?_))))))))))))
 exact tup_small (by omega) (Iff.trans (by omega) hs3.symm)
theorem o_pl_small {w0 : World} {h0 : Mem} (hs : MLe h0 (mem w0)) {k : Nat} {va : Value} {a : Rat} (ra : (rpQ k).Is h0 va a) : Calls Tryz.prog 98 #[va] w0 (Ret w0 h0 (fun _ r => r = .tuple #[vI (smZ a), vB (smB a)])) := by
  obtain ⟨vna, vda, rfl, hna, hda, hla⟩ := uS ra
  exact pl_small hs hna hda
theorem o_pl_sign {w0 : World} {h0 : Mem}  (hs : MLe h0 (mem w0)) {n : Int} (hn1 : -9223372036854775808 ≤ n) (hn2 : n < 9223372036854775808)  :
    Calls Tryz.prog 100 #[vI n] w0 (Ret w0 h0 (fun _ r => r = vI (sgnZ n))) := by
 refine zM (n := 9) (e := [(0, vI n)]) (vs := [vI n]) func100 rfl rfl (bL rfl) hs ⟨rfl, trivial⟩ (zC (zA (asg (v := vI (0)) rfl rfl (zD (zB (zC (zP (zC (zA (mv rfl rfl (gv (uH (q := 0) rfl rfl) rfl (asg rfl rfl (zD ?_)))))))))))))
 refine zB ?_
 refine zN rfl (fun hc3 => ?_) (fun hc3 => ?_)
 ·
  refine zC (zA (asg (v := vI (1)) rfl rfl (zD (zB (zQ (vC (zV (yC rfl rfl ?_))))))))
  unfold sgnZ; rw [if_pos hc3]
 refine zC (zA (mv rfl rfl (gv (zW (q := 0) rfl rfl) rfl (asg rfl rfl (zD (zB ?_))))))
 refine zN rfl (fun hc6 => ?_) (fun hc6 => ?_)
 ·
  refine zC (zA (asg (v := vI (-1)) rfl rfl (zD (zB (zQ (vC (zV (yC rfl rfl ?_))))))))
  unfold sgnZ; rw [if_neg hc3, if_pos hc6]
 refine zK (xC (zB (zC (zA (asg (v := vI (0)) rfl rfl (zD (zB (zQ (yC rfl rfl ?_)))))))))
 unfold sgnZ; rw [if_neg hc3, if_neg hc6]
theorem o_pl_pair {w0 : World} {h0 : Mem}  (hs : MLe h0 (mem w0)) {k : Nat} {vp : Value} {p : (T3 Rat)} (rp : (rpT (rpQ k)).Is h0 vp p) {i : Nat} {j : Nat} (hcd0 : i < 3) (hcd1 : j < 3)  :
    Calls Tryz.prog 102 #[vp, vI ↑i, vI ↑j] w0 (Ret w0 h0 (fun h r => r = .tuple #[vI (smZ (p.at i)), vI (smZ (p.at j)), vB (smB (p.at i) ∧ smB (p.at j))])) := by
 refine zM (n := 33) (e := [(0, vp), (1, vI ↑i), (2, vI ↑j)]) (vs := [vp, vI ↑i, vI ↑j]) func102 rfl rfl (bL rfl) hs e3z (zC (zA (zI (yU (ρ := (rpT (rpQ k))) rfl rp) rfl rfl rfl ?_)))
 intro v3 q3 hq3
 obtain ⟨b3, cs3, rfl, rfl, rb3⟩ := hq3
 refine asg (v := vI (0)) rfl rfl (asg (v := vI (0)) rfl rfl (asg rfl rfl (zD (zB (zC (zA (mv rfl rfl (gv ((zH (sz := 3) i underlying32 sizeOf30 rfl rfl rfl (by omega)).cv (show _ = vP b3 ((i * 3 + 0)) from congrArg (vP b3) (by omega))) rfl (xX (F := fun v_ => (rpQ k).Is h0 v_ (p.at i)) (zE xS (Pc.ta (Pc.here _) i (by omega)) rfl rfl rb3 rfl) (yD mh0) rfl ?_)))))))))
 intro v16 r16
 refine zO (vs := [_]) rfl rfl rfl rfl call98 ⟨rfl, trivial⟩ (fun w hs => o_pl_small hs r16) ?_
 intro v17 h1 hh1 r17
 obtain rfl := r17
 refine mv rfl rfl (gv (zL (vs := [_, _]) rfl rfl) rfl (gv (zL (vs := [_, _]) rfl rfl) rfl (asg rfl rfl (asg rfl rfl (zD (zJ (e' := [(2, _), (3, _), (9, _), (10, _)]) e4z (zB (zC (zA (mv rfl rfl (gv ((zH (sz := 3) j underlying32 sizeOf30 rfl rfl rfl (by omega)).cv (show _ = vP b3 ((j * 3 + 0)) from congrArg (vP b3) (by omega))) rfl ?_)))))))))))
 replace rb3 := rb3.mono hh1
 refine xX (F := fun v_ => (rpQ k).Is h1 v_ (p.at j)) (zE xS (Pc.ta (Pc.here _) j (by omega)) rfl rfl rb3 rfl) (yD mh0) rfl ?_
 intro v23 r23
 refine zO (vs := [_]) rfl rfl rfl rfl call98 ⟨rfl, trivial⟩ (fun w hs => o_pl_small hs r23) ?_
 intro v24 h2 hh2 r24
 obtain rfl := r24
 refine mv rfl rfl (gv (zL (vs := [_, _]) rfl rfl) rfl (gv (zL (vs := [_, _]) rfl rfl) rfl (asg rfl rfl (asg rfl rfl (zD (zB (zC (zA (mv rfl rfl (mv rfl rfl (mv rfl rfl ?_)))))))))))
 refine vY (ι := Unit) 3 (fun _ => True) (fun _ => [(32, vB ((smB (p.at i)) ∧ (smB (p.at j)))), (27, vI (smZ (p.at i))), (28, vI (smZ (p.at j)))]) (fun _ => [.var b3 32 cs3]) (fun _ => h2) ?_ ?_
 ·
  refine wL (smB (p.at i)) (fun hg => ?_) (fun hg => ?_)
  ·
   refine xE (yO (v := .bool true) (congrArg some (xL hg))) rfl rfl rfl (yY rfl rfl rfl (mv rfl rfl (gv (xM rfl rfl) rfl (zD ?_))))
   refine yM () trivial ⟨?_, rfl, rfl, trivial⟩ rfl rfl
   exact congrArg some (uC hg)
  refine xE (yO (v := .bool false) (congrArg some (yX hg))) rfl rfl rfl (yI rfl rfl rfl rfl rfl rfl (gv (xW rfl rfl) rfl (zD ?_)))
  refine yM () trivial ⟨?_, rfl, rfl, trivial⟩ rfl rfl
  exact congrArg some (uD hg)
 intro _ _
 show GL _ _ _ _ _ _ _ [(32, vB ((smB (p.at i)) ∧ (smB (p.at j)))), (27, vI (smZ (p.at i))), (28, vI (smZ (p.at j)))] [.var b3 32 cs3] h2
 refine asg rfl rfl (asg rfl rfl (asg rfl rfl (zD (zB (zQ (qL rfl rfl rfl rfl ?_))))))
 rfl
theorem o_pl_orient {w0 : World} {h0 : Mem}  (hs : MLe h0 (mem w0)) {k : Nat} {va : Value} {a : (T3 Rat)} (ra : (rpT (rpQ k)).Is h0 va a) {vb : Value} {b : (T3 Rat)} (rb : (rpT (rpQ k)).Is h0 vb b) {vc : Value} {c : (T3 Rat)} (rc : (rpT (rpQ k)).Is h0 vc c) {i : Nat} {j : Nat} (hcd0 : i < 3) (hcd1 : j < 3) (hcd2 : k ≤ 1000000000)  :
    Calls Tryz.prog 66 #[va, vb, vc, vI ↑i, vI ↑j] w0 (Ret w0 h0 (fun _ r => r = vI (orZ (pr a i j) (pr b i j) (pr c i j)))) := by
 refine zM (n := 100) (e := [(0, va), (1, vb), (2, vc), (3, vI ↑i), (4, vI ↑j)]) (vs := [va, vb, vc, vI ↑i, vI ↑j]) func66 rfl rfl (bL rfl) hs e5z (zC (zA (zI (yU (ρ := (rpT (rpQ k))) rfl ra) rfl rfl rfl ?_)))
 intro v5 q5 hq5
 obtain ⟨b5, cs5, rfl, rfl, rb5⟩ := hq5
 refine zI (yU (ρ := (rpT (rpQ k))) rfl rb) rfl rfl rfl ?_
 intro v6 q6 hq6
 obtain ⟨b6, cs6, rfl, rfl, rb6⟩ := hq6
 refine zI (yU (ρ := (rpT (rpQ k))) rfl rc) rfl rfl rfl ?_
 intro v7 q7 hq7
 obtain ⟨b7, cs7, rfl, rfl, rb7⟩ := hq7
 refine asg (v := vI (0)) rfl rfl (zD (zB (zC (zA (xX (F := fun v_ => (rpT (rpQ k)).Is h0 v_ a) (zE xJ (Pc.here _) rfl rfl rb5 rfl) (yD mh2) rfl ?_)))))
 intro v22 r22
 refine mv rfl rfl (mv rfl rfl ?_)
 refine zO (vs := [_, _, _]) rfl rfl rfl rfl call102 e3z (fun w hs => o_pl_pair (i := i) (j := j) hs r22 (by omega) (by omega)) ?_
 intro v25 h1 hh1 r25
 obtain rfl := r25
 refine mv rfl rfl (gv (zL (vs := [_, _, _]) rfl rfl) rfl (gv (zL (vs := [_, _, _]) rfl rfl) rfl (gv (zL (vs := [_, _, _]) rfl rfl) rfl (asg rfl rfl (asg rfl rfl (asg rfl rfl (zD (zJ (e' := [(3, _), (4, _), (5, _), (6, _), (7, _), (11, _), (12, _), (13, _)]) e8 (zB (zC (zA ?_)))))))))))
 replace rb6 := rb6.mono hh1
 refine xX (F := fun v_ => (rpT (rpQ k)).Is h1 v_ b) (zE xJ (Pc.here _) rfl rfl rb6 rfl) (yD mh1) rfl ?_
 intro v30 r30
 refine mv rfl rfl (mv rfl rfl ?_)
 refine zO (vs := [_, _, _]) rfl rfl rfl rfl call102 e3z (fun w hs => o_pl_pair (i := i) (j := j) hs r30 (by omega) (by omega)) ?_
 intro v33 h2 hh2 r33
 obtain rfl := r33
 refine mv rfl rfl (gv (zL (vs := [_, _, _]) rfl rfl) rfl (gv (zL (vs := [_, _, _]) rfl rfl) rfl (gv (zL (vs := [_, _, _]) rfl rfl) rfl (asg rfl rfl (asg rfl rfl (asg rfl rfl (zD (zB (zC (zA ?_))))))))))
 replace rb7 := rb7.mono (hh1.trans hh2)
 refine xX (F := fun v_ => (rpT (rpQ k)).Is h2 v_ c) (zE xJ (Pc.here _) rfl rfl rb7 rfl) (yD mh0) rfl ?_
 intro v38 r38
 refine mv rfl rfl (mv rfl rfl ?_)
 refine zO (vs := [_, _, _]) rfl rfl rfl rfl call102 e3z (fun w hs => o_pl_pair (i := i) (j := j) hs r38 (by omega) (by omega)) ?_
 intro v41 h3 hh3 r41
 obtain rfl := r41
 refine mv rfl rfl (gv (zL (vs := [_, _, _]) rfl rfl) rfl (gv (zL (vs := [_, _, _]) rfl rfl) rfl (gv (zL (vs := [_, _, _]) rfl rfl) rfl (asg rfl rfl (asg rfl rfl (asg rfl rfl (zD (zJ (e' := [(3, _), (4, _), (5, _), (6, _), (7, _), (11, _), (12, _), (13, _), (14, _), (15, _), (16, _), (17, _), (18, _), (19, _)]) ⟨rfl, rfl, rfl, rfl, rfl, rfl, rfl, rfl, rfl, rfl, rfl, rfl, rfl, rfl, trivial⟩ (zB (zC (zC (zA (mv rfl rfl ?_)))))))))))))
 refine vY (ι := Unit) 3 (fun _ => True) (fun _ => [(48, vB ((smB (a.at i) ∧ smB (a.at j)) ∧ (smB (b.at i) ∧ smB (b.at j)))), (3, vI ↑i), (4, vI ↑j), (5, vP b5 0), (6, vP b6 0), (7, vP b7 0), (11, vI (smZ (a.at i))), (12, vI (smZ (a.at j))), (14, vI (smZ (b.at i))), (15, vI (smZ (b.at j))), (17, vI (smZ (c.at i))), (18, vI (smZ (c.at j))), (19, vB (smB (c.at i) ∧ smB (c.at j)))]) (fun _ => [.var b7 32 cs7, .var b6 32 cs6, .var b5 32 cs5]) (fun _ => h3) ?_ ?_
 ·
  refine wL (smB (a.at i) ∧ smB (a.at j)) (fun hg => ?_) (fun hg => ?_)
  ·
   refine xE (yO (v := .bool true) (congrArg some (xL hg))) rfl rfl rfl (yY rfl rfl rfl (mv rfl rfl (gv (xM rfl rfl) rfl (zD ?_))))
   refine yM () trivial ⟨?_, rfl, rfl, rfl, rfl, rfl, rfl, rfl, rfl, rfl, rfl, rfl, rfl, trivial⟩ rfl rfl
   exact congrArg some (uC hg)
  refine xE (yO (v := .bool false) (congrArg some (yX hg))) rfl rfl rfl (yI rfl rfl rfl rfl rfl rfl (gv (xW rfl rfl) rfl (zD ?_)))
  refine yM () trivial ⟨?_, rfl, rfl, rfl, rfl, rfl, rfl, rfl, rfl, rfl, rfl, rfl, rfl, trivial⟩ rfl rfl
  exact congrArg some (uD hg)
 intro _ _
 show GL _ _ _ _ _ _ _ [(48, vB ((smB (a.at i) ∧ smB (a.at j)) ∧ (smB (b.at i) ∧ smB (b.at j)))), (3, vI ↑i), (4, vI ↑j), (5, vP b5 0), (6, vP b6 0), (7, vP b7 0), (11, vI (smZ (a.at i))), (12, vI (smZ (a.at j))), (14, vI (smZ (b.at i))), (15, vI (smZ (b.at j))), (17, vI (smZ (c.at i))), (18, vI (smZ (c.at j))), (19, vB (smB (c.at i) ∧ smB (c.at j)))] [.var b7 32 cs7, .var b6 32 cs6, .var b5 32 cs5] h3
 refine vY (ι := Unit) 3 (fun _ => True) (fun _ => [(51, vB (((smB (a.at i) ∧ smB (a.at j)) ∧ (smB (b.at i) ∧ smB (b.at j))) ∧ (smB (c.at i) ∧ smB (c.at j)))), (3, vI ↑i), (4, vI ↑j), (5, vP b5 0), (6, vP b6 0), (7, vP b7 0), (11, vI (smZ (a.at i))), (12, vI (smZ (a.at j))), (14, vI (smZ (b.at i))), (15, vI (smZ (b.at j))), (17, vI (smZ (c.at i))), (18, vI (smZ (c.at j)))]) (fun _ => [.var b7 32 cs7, .var b6 32 cs6, .var b5 32 cs5]) (fun _ => h3) ?_ ?_
 ·
  refine wL ((smB (a.at i) ∧ smB (a.at j)) ∧ (smB (b.at i) ∧ smB (b.at j))) (fun hg => ?_) (fun hg => ?_)
  ·
   refine xE (yO (v := .bool true) (congrArg some (xL hg))) rfl rfl rfl (yY rfl rfl rfl (mv rfl rfl (gv (xM rfl rfl) rfl (zD ?_))))
   refine yM () trivial ⟨?_, rfl, rfl, rfl, rfl, rfl, rfl, rfl, rfl, rfl, rfl, rfl, trivial⟩ rfl rfl
   exact congrArg some (uC hg)
  refine xE (yO (v := .bool false) (congrArg some (yX hg))) rfl rfl rfl (yI rfl rfl rfl rfl rfl rfl (gv (xW rfl rfl) rfl (zD ?_)))
  refine yM () trivial ⟨?_, rfl, rfl, rfl, rfl, rfl, rfl, rfl, rfl, rfl, rfl, rfl, trivial⟩ rfl rfl
  exact congrArg some (uD hg)
 intro _ _
 show GL _ _ _ _ _ _ _ [(51, vB (((smB (a.at i) ∧ smB (a.at j)) ∧ (smB (b.at i) ∧ smB (b.at j))) ∧ (smB (c.at i) ∧ smB (c.at j)))), (3, vI ↑i), (4, vI ↑j), (5, vP b5 0), (6, vP b6 0), (7, vP b7 0), (11, vI (smZ (a.at i))), (12, vI (smZ (a.at j))), (14, vI (smZ (b.at i))), (15, vI (smZ (b.at j))), (17, vI (smZ (c.at i))), (18, vI (smZ (c.at j)))] [.var b7 32 cs7, .var b6 32 cs6, .var b5 32 cs5] h3
 refine zD (zB ?_)
 refine zN rfl (fun hc51 => ?_) (fun hc51 => ?_)
 ·
  obtain ⟨⟨⟨ha1, ha2⟩, hb1, hb2⟩, hc1', hc2'⟩ := hc51
  have ka1 := (sm_eq ha1).2
  have ka2 := (sm_eq ha2).2
  have kb1 := (sm_eq hb1).2
  have kb2 := (sm_eq hb2).2
  have kc1 := (sm_eq hc1').2
  have kc2 := (sm_eq hc2').2
  have kp := prod_b (u := smZ (b.at i) - smZ (a.at i)) (v := smZ (c.at j) - smZ (a.at j)) (by omega) (by omega) (by omega) (by omega)
  have kq := prod_b (u := smZ (b.at j) - smZ (a.at j)) (v := smZ (c.at i) - smZ (a.at i)) (by omega) (by omega) (by omega) (by omega)
  refine zC (zA (mv rfl rfl (mv rfl rfl (gv (xO rfl rfl (by omega) (by omega)) rfl (mv rfl rfl (mv rfl rfl (gv (xO rfl rfl (by omega) (by omega)) rfl (gv (ov_mul_i rfl rfl (by omega) (by omega)) rfl (mv rfl rfl (mv rfl rfl (gv (xO rfl rfl (by omega) (by omega)) rfl (mv rfl rfl (mv rfl rfl ?_)))))))))))))
  refine gv (xO rfl rfl (by omega) (by omega)) rfl (gv (ov_mul_i rfl rfl (by omega) (by omega)) rfl (gv (xO rfl rfl (by omega) (by omega)) rfl ?_))
  refine zO (vs := [_]) rfl rfl rfl rfl call100 ⟨rfl, trivial⟩ (fun w hs => o_pl_sign hs (by omega) (by omega)) ?_
  intro v67 h4 hh4 r67
  obtain rfl : v67 = vI (sgnZ ((((smZ (b.at i)) - (smZ (a.at i))) * ((smZ (c.at j)) - (smZ (a.at j)))) - (((smZ (b.at j)) - (smZ (a.at j))) * ((smZ (c.at i)) - (smZ (a.at i)))))) := r67
  refine asg rfl rfl (zD (zJ (e' := [(10, _)]) ⟨rfl, trivial⟩ (zB (zQ (zV (yC rfl rfl ?_))))))
  exact congrArg vI (or_small (a := pr a i j) (b := pr b i j) (c := pr c i j) ⟨ha1, ha2⟩ ⟨hb1, hb2⟩ ⟨hc1', hc2'⟩)
 refine zK (zB (zC ?_))
 refine yF 16 _ [(15, (20, 30, [.bool false, .slice none 0 0, .slice none 0 0]))] [(0, .q), (1, .q), (2, .q), (3, .q), (4, .q), (5, .q), (7, .q), (8, .q), (9, .q), (10, .q), (11, .q), (12, .q), (6, .c), (13, .c), (14, .c), (15, .a), (16, .t)] xH (jK.cons rfl rfl (qB wT rfl rfl) jK.nil) (chk_of [0, 1, 2, 0, 8, 16, 36, 0, 128, 256, 0, 1024, 2048, 4672, 8256, 0, 65535] [131071, 131070, 131069, 131071, 131063, 131055, 131035, 131071, 130943, 130815, 131071, 130047, 129023, 126463, 122815, 131071, 81919] (by kernel_rfl)) (qG rfl rfl kQ) (fun r hr => hr) (yH rfl rfl rfl (yK rfl (fun _ _ => (zH (sz := 3) i underlying32 sizeOf30 rfl rfl rfl (by omega)).cv (show _ = vP b6 ((i * 3 + 0)) from congrArg (vP b6) (by omega))) rfl ?_))
 replace rb6 := rb6.mono (hh2.trans hh3)
 refine yP (F := fun v_ => (rpQ k).Is h3 v_ (b.at i)) rfl (zE xS (Pc.ta (Pc.here _) i (by omega)) rfl rfl rb6 rfl) (yD mh1) rfl ?_
 intro v70 r70
 refine yH rfl rfl rfl (yK rfl (fun _ _ => (zH (sz := 3) i underlying32 sizeOf30 rfl rfl rfl (by omega)).cv (show _ = vP b5 ((i * 3 + 0)) from congrArg (vP b5) (by omega))) rfl ?_)
 replace rb5 := rb5.mono ((hh1.trans hh2).trans hh3)
 refine yP (F := fun v_ => (rpQ k).Is h3 v_ (a.at i)) rfl (zE xS (Pc.ta (Pc.here _) i (by omega)) rfl rfl rb5 rfl) (yD mh2) rfl ?_
 intro v73 r73
 refine yH rfl rfl rfl (yK rfl (fun _ _ => (zH (sz := 3) j underlying32 sizeOf30 rfl rfl rfl (by omega)).cv (show _ = vP b7 ((j * 3 + 0)) from congrArg (vP b7) (by omega))) rfl ?_)
 replace rb7 := rb7.mono hh3
 refine yP (F := fun v_ => (rpQ k).Is h3 v_ (c.at j)) rfl (zE xS (Pc.ta (Pc.here _) j (by omega)) rfl rfl rb7 rfl) (yD mh0) rfl ?_
 intro v77 r77
 refine yH rfl rfl rfl (yK rfl (fun _ _ => (zH (sz := 3) j underlying32 sizeOf30 rfl rfl rfl (by omega)).cv (show _ = vP b5 ((j * 3 + 0)) from congrArg (vP b5) (by omega))) rfl (yP (F := fun v_ => (rpQ k).Is h3 v_ (a.at j)) rfl (zE xS (Pc.ta (Pc.here _) j (by omega)) rfl rfl rb5 rfl) (yD mh2) rfl ?_))
 intro v80 r80
 refine w_c rfl ?_
 refine zY (vs := [_, _]) call70 e2z (fun w hs => o_rat_sub hs r70 r73 (by omega)) rfl ?_
 intro v74 h4 hh4 r74
 change (rpQ (k + k + 1)).Is h4 v74 ((b.at i) - (a.at i)) at r74
 replace r74 := Rp.Is.le r74 (Le.q (l := 2 * k + 1) (by omega))
 refine w_c rfl ?_
 replace r77 := r77.mono hh4
 replace r80 := r80.mono hh4
 refine zY (vs := [_, _]) call70 e2z (fun w hs => o_rat_sub hs r77 r80 (by omega)) rfl ?_
 intro v81 h5 hh5 r81
 change (rpQ (k + k + 1)).Is h5 v81 ((c.at j) - (a.at j)) at r81
 replace r81 := Rp.Is.le r81 (Le.q (l := 2 * k + 1) (by omega))
 refine w_c rfl ?_
 replace r74 := r74.mono hh5
 refine zY (vs := [_, _]) call103 e2z (fun w hs => o_rat_mul hs r74 r81 (by omega)) rfl ?_
 intro v82 h6 hh6 r82
 change (rpQ ((2 * k + 1) + (2 * k + 1))).Is h6 v82 (((b.at i) - (a.at i)) * ((c.at j) - (a.at j))) at r82
 replace r82 := Rp.Is.le r82 (Le.q (l := 4 * k + 2) (by omega))
 refine w_a rfl rfl (fun b20 => ?_)
 have rb20 : (rpQ 1).R h6 [.bool false, .slice none 0 0, .slice none 0 0] (0 : Rat) := (wB (by decide))
 have rw_1 := (Le.q (l := 4 * k + 2) (by omega)).R rb20
 refine xR (A := []) (F := fun c_ => (rpQ (4 * k + 2)).R h6 c_ (((b.at i) - (a.at i)) * ((c.at j) - (a.at j)))) rfl (yJ sizeOf30 (Pc.here _) rfl rfl rfl rw_1 r82 rfl) ?_
 intro cs_2 rb_3
 refine xB (zJ (e' := [(3, _), (4, _), (5, _), (6, _), (7, _), (20, _)]) e6 (zB (zC ?_)))
 refine yF 18 _ [] [(0, .q), (1, .q), (2, .q), (3, .q), (4, .q), (5, .q), (6, .q), (8, .q), (9, .q), (10, .q), (11, .q), (12, .q), (13, .q), (7, .c), (14, .c), (15, .c), (16, .c), (17, .q)] xH nX (chk_of [0, 0, 2, 4, 0, 16, 32, 72, 0, 256, 512, 0, 2048, 4096, 9344, 16512, 32769, 131071] [262143, 262143, 262141, 262139, 262143, 262127, 262111, 262071, 262143, 261887, 261631, 262143, 260095, 258047, 252927, 245631, 229374, 196607] (by kernel_rfl)) nX (fun r hr => hr) (yP (F := fun v_ => (rpQ (4 * k + 2)).Is h6 v_ (((b.at i) - (a.at i)) * ((c.at j) - (a.at j)))) rfl (zE xS (Pc.here _) rfl rfl rb_3 rfl) (yD mh0) rfl ?_)
 intro v83 r83
 refine yH rfl rfl rfl (yK rfl (fun _ _ => (zH (sz := 3) j underlying32 sizeOf30 rfl rfl rfl (by omega)).cv (show _ = vP b6 ((j * 3 + 0)) from congrArg (vP b6) (by omega))) rfl ?_)
 replace rb6 := rb6.mono ((hh4.trans hh5).trans hh6)
 refine yP (F := fun v_ => (rpQ k).Is h6 v_ (b.at j)) rfl (zE xS (Pc.ta (Pc.here _) j (by omega)) rfl rfl rb6 rfl) (yD mh2) rfl ?_
 intro v86 r86
 refine yH rfl rfl rfl (yK rfl (fun _ _ => (zH (sz := 3) j underlying32 sizeOf30 rfl rfl rfl (by omega)).cv (show _ = vP b5 ((j * 3 + 0)) from congrArg (vP b5) (by omega))) rfl ?_)
 replace rb5 := rb5.mono ((hh4.trans hh5).trans hh6)
 refine yP (F := fun v_ => (rpQ k).Is h6 v_ (a.at j)) rfl (zE xS (Pc.ta (Pc.here _) j (by omega)) rfl rfl rb5 rfl) (yD mh3) rfl ?_
 intro v89 r89
 refine yH rfl rfl rfl (yK rfl (fun _ _ => (zH (sz := 3) i underlying32 sizeOf30 rfl rfl rfl (by omega)).cv (show _ = vP b7 ((i * 3 + 0)) from congrArg (vP b7) (by omega))) rfl ?_)
 replace rb7 := rb7.mono ((hh4.trans hh5).trans hh6)
 refine yP (F := fun v_ => (rpQ k).Is h6 v_ (c.at i)) rfl (zE xS (Pc.ta (Pc.here _) i (by omega)) rfl rfl rb7 rfl) (yD mh1) rfl ?_
 intro v93 r93
 refine yH rfl rfl rfl (yK rfl (fun _ _ => (zH (sz := 3) i underlying32 sizeOf30 rfl rfl rfl (by omega)).cv (show _ = vP b5 ((i * 3 + 0)) from congrArg (vP b5) (by omega))) rfl (yP (F := fun v_ => (rpQ k).Is h6 v_ (a.at i)) rfl (zE xS (Pc.ta (Pc.here _) i (by omega)) rfl rfl rb5 rfl) (yD mh3) rfl ?_))
 intro v96 r96
 refine w_c rfl ?_
 refine zY (vs := [_, _]) call70 e2z (fun w hs => o_rat_sub hs r86 r89 (by omega)) rfl ?_
 intro v90 h7 hh7 r90
 change (rpQ (k + k + 1)).Is h7 v90 ((b.at j) - (a.at j)) at r90
 replace r90 := Rp.Is.le r90 (Le.q (l := 2 * k + 1) (by omega))
 refine w_c rfl ?_
 replace r93 := r93.mono hh7
 replace r96 := r96.mono hh7
 refine zY (vs := [_, _]) call70 e2z (fun w hs => o_rat_sub hs r93 r96 (by omega)) rfl ?_
 intro v97 h8 hh8 r97
 change (rpQ (k + k + 1)).Is h8 v97 ((c.at i) - (a.at i)) at r97
 replace r97 := Rp.Is.le r97 (Le.q (l := 2 * k + 1) (by omega))
 refine w_c rfl ?_
 replace r90 := r90.mono hh8
 refine zY (vs := [_, _]) call103 e2z (fun w hs => o_rat_mul hs r90 r97 (by omega)) rfl ?_
 intro v98 h9 hh9 r98
 change (rpQ ((2 * k + 1) + (2 * k + 1))).Is h9 v98 (((b.at j) - (a.at j)) * ((c.at i) - (a.at i))) at r98
 replace r98 := Rp.Is.le r98 (Le.q (l := 4 * k + 2) (by omega))
 refine w_c rfl ?_
 replace r83 := r83.mono ((hh7.trans hh8).trans hh9)
 refine zY (vs := [_, _]) call104 e2z (fun w hs => o_rat_cmp hs r83 r98 (by omega)) rfl ?_
 intro v99 h10 hh10 r99
 obtain rfl : v99 = vI (kO (((b.at i) - (a.at i)) * ((c.at j) - (a.at j))) (((b.at j) - (a.at j)) * ((c.at i) - (a.at i)))) := r99
 have hcr99 := cmpQ_range (((b.at i) - (a.at i)) * ((c.at j) - (a.at j))) (((b.at j) - (a.at j)) * ((c.at i) - (a.at i)))
 refine uG rfl rfl rfl (xB (zJ (e' := [(10, _)]) ⟨rfl, trivial⟩ (zB (zQ (yC rfl rfl ?_)))))
 exact congrArg vI (or_cmp (pr a i j) (pr b i j) (pr c i j))
end Go.Proofs.YtghhjjmjpeehdaaGreat
namespace Go.Proofs.YtghhjjmjpeehdaaGreat
open Bk Go Tryz
set_option linter.unusedVariables false
set_option linter.unusedSimpArgs false
set_option maxRecDepth 10000
theorem o_r4_add {w0 : World} {h0 : Mem}  (hs : MLe h0 (mem w0)) {k l : Nat} {va : Value} {a : (T3 Rat)} (ra : (rpT (rpQ k)).Is h0 va a) {vb : Value} {b : (T3 Rat)} (rb : (rpT (rpQ l)).Is h0 vb b) (hcd0 : k + l ≤ 1000000000)  :
    Calls Tryz.prog 19 #[va, vb] w0 (Ret w0 h0 (fun h r => (rpT (rpQ (k + 3 * l + 3))).Is h r (T3.mk (a.x + b.x) (a.y + b.y) (a.z + b.z)))) := by
 refine zM (n := 20) (e := [(0, va), (1, vb)]) (vs := [va, vb]) func19 rfl rfl (bL rfl) hs e2z (zC (zA (zI (yU (ρ := (rpT (rpQ k))) rfl ra) rfl rfl rfl ?_)))
 intro v2 q2 hq2
 obtain ⟨b2, cs2, rfl, rfl, rb2⟩ := hq2
 refine zI (yU (ρ := (rpT (rpQ l))) rfl rb) rfl rfl rfl ?_
 intro v3 q3 hq3
 obtain ⟨b3, cs3, rfl, rfl, rb3⟩ := hq3
 refine zI (yR (ρ := (rpT (rpQ (k + 3 * l + 3)))) (X := zT) yL rfl rfl (wO (wB (by omega)))) rfl rfl rfl ?_
 intro v4 q4 hq4
 obtain ⟨b4, cs4, rfl, rfl, rb4⟩ := hq4
 refine zD (zB (zC (zC (zA (asg (v := vI (0)) rfl rfl (zD (zB (zP (kD (zC (zC (zA (mv rfl rfl ?_)))))))))))))
 refine gv (OpV.tr (by decide) (zW (q := 3) rfl rfl)) rfl (zD (zB (xZ rfl (zK (zB (zC (zP ?_)))))))
 refine yF 9 _ [] [(0, .q), (1, .q), (2, .q), (3, .q), (4, .q), (5, .q), (6, .q), (7, .c), (8, .q), (9, .t)] xH nX (by kernel_rfl) nX (fun r hr => hr) (yH rfl rfl rfl (yH rfl rfl rfl (yK rfl (fun _ _ => (zH (sz := 3) 0 underlying32 sizeOf30 rfl rfl rfl (by decide)).cv (show _ = vP b2 0 from congrArg (vP b2) (by rfl))) rfl (yP (F := fun v_ => (rpQ k).Is h0 v_ a.x) rfl (zE xS (Pc.tx (Pc.here _)) rfl rfl rb2 rfl) (yD mh2) rfl ?_))))
 intro v13u1 r13u1
 refine yH rfl rfl rfl (yK rfl (fun _ _ => (zH (sz := 3) 0 underlying32 sizeOf30 rfl rfl rfl (by decide)).cv (show _ = vP b3 0 from congrArg (vP b3) (by rfl))) rfl (yP (F := fun v_ => (rpQ l).Is h0 v_ b.x) rfl (zE xS (Pc.tx (Pc.here _)) rfl rfl rb3 rfl) (yD mh1) rfl ?_))
 intro v16u1 r16u1
 refine w_c rfl ?_
 refine zY (vs := [_, _]) call53 e2z (fun w hs => o_rref_add hs r13u1 r16u1 (by omega)) rfl ?_
 intro v17u1 h1 hh1 r17u1
 change (rpQ (k + l + 1)).Is h1 v17u1 (a.x + b.x) at r17u1
 refine yK rfl (fun _ _ => (zH (sz := 3) 0 underlying32 sizeOf30 rfl rfl rfl (by decide)).cv (show _ = vP b2 0 from congrArg (vP b2) (by rfl))) rfl ?_
 replace rb2 := rb2.mono hh1
 have rw_1 := (Le.t (Le.q (l := k + l + 1) (by omega))).R rb2
 refine xR (A := [_, _]) (F := fun c_ => (rpT (rpQ (k + l + 1))).R h1 c_ (T3.mk (a.x + b.x) a.y a.z)) rfl (yJ sizeOf30 (Pc.tx (Pc.here _)) rfl rfl rfl rw_1 r17u1 rfl) ?_
 intro cs_2 rb_3
 refine xB (xC (zJ (e' := [(2, _), (3, _), (4, _), (5, _)]) e4z (zB (zA (mv rfl rfl (gv ((zS (q := 1) rfl rfl (by omega) (by omega)).cv (show _ = vI (1) from rfl)) rfl (asg rfl rfl (zD (wN (zC (zC (zA (mv rfl rfl ?_)))))))))))))
 refine gv (OpV.tr (by decide) (zW (q := 3) rfl rfl)) rfl (zD (zB (xZ rfl (zK (zB (zC (zP ?_)))))))
 refine yF 9 _ [] [(0, .q), (1, .q), (2, .q), (3, .q), (4, .q), (5, .q), (6, .q), (7, .c), (8, .q), (9, .t)] xH nX (by kernel_rfl) nX (fun r hr => hr) (yH rfl rfl rfl (yH rfl rfl rfl (yK rfl (fun _ _ => (zH (sz := 3) 1 underlying32 sizeOf30 rfl rfl rfl (by decide)).cv (show _ = vP b2 3 from congrArg (vP b2) (by rfl))) rfl (yP (F := fun v_ => (rpQ (k + l + 1)).Is h1 v_ a.y) rfl (zE xS (Pc.ty (Pc.here _)) rfl rfl rb_3 rfl) (yD mh2) rfl ?_))))
 intro v13u2 r13u2
 refine yH rfl rfl rfl (yK rfl (fun _ _ => (zH (sz := 3) 1 underlying32 sizeOf30 rfl rfl rfl (by decide)).cv (show _ = vP b3 3 from congrArg (vP b3) (by rfl))) rfl ?_)
 replace rb3 := rb3.mono hh1
 refine yP (F := fun v_ => (rpQ l).Is h1 v_ b.y) rfl (zE xS (Pc.ty (Pc.here _)) rfl rfl rb3 rfl) (yD mh1) rfl ?_
 intro v16u2 r16u2
 refine w_c rfl ?_
 refine zY (vs := [_, _]) call53 e2z (fun w hs => o_rref_add hs r13u2 r16u2 (by omega)) rfl ?_
 intro v17u2 h2 hh2 r17u2
 change (rpQ ((k + l + 1) + l + 1)).Is h2 v17u2 (a.y + b.y) at r17u2
 replace r17u2 := Rp.Is.le r17u2 (Le.q (l := k + 2 * l + 2) (by omega))
 refine yK rfl (fun _ _ => (zH (sz := 3) 1 underlying32 sizeOf30 rfl rfl rfl (by decide)).cv (show _ = vP b2 3 from congrArg (vP b2) (by rfl))) rfl ?_
 replace rb_3 := rb_3.mono hh2
 have rw_4 := (Le.t (Le.q (l := k + 2 * l + 2) (by omega))).R rb_3
 refine xR (A := [_, _]) (F := fun c_ => (rpT (rpQ (k + 2 * l + 2))).R h2 c_ (T3.mk (a.x + b.x) (a.y + b.y) a.z)) rfl (yJ sizeOf30 (Pc.ty (Pc.here _)) rfl rfl rfl rw_4 r17u2 rfl) ?_
 intro cs_5 rb_6
 refine xB (xC (zJ (e' := [(2, _), (3, _), (4, _), (5, _)]) e4z (zB (zA (mv rfl rfl (gv ((zS (q := 1) rfl rfl (by omega) (by omega)).cv (show _ = vI (2) from rfl)) rfl (asg rfl rfl (zD (wN (zC (zC (zA (mv rfl rfl ?_)))))))))))))
 refine gv (OpV.tr (by decide) (zW (q := 3) rfl rfl)) rfl (zD (zB (xZ rfl (zK (zB (zC (zP ?_)))))))
 refine yF 9 _ [] [(0, .q), (1, .q), (2, .q), (3, .q), (4, .q), (5, .q), (6, .q), (7, .c), (8, .q), (9, .t)] xH nX (by kernel_rfl) nX (fun r hr => hr) (yH rfl rfl rfl (yH rfl rfl rfl (yK rfl (fun _ _ => (zH (sz := 3) 2 underlying32 sizeOf30 rfl rfl rfl (by decide)).cv (show _ = vP b2 6 from congrArg (vP b2) (by rfl))) rfl (yP (F := fun v_ => (rpQ (k + 2 * l + 2)).Is h2 v_ a.z) rfl (zE xS (Pc.tz (Pc.here _)) rfl rfl rb_6 rfl) (yD mh2) rfl ?_))))
 intro v13u3 r13u3
 refine yH rfl rfl rfl (yK rfl (fun _ _ => (zH (sz := 3) 2 underlying32 sizeOf30 rfl rfl rfl (by decide)).cv (show _ = vP b3 6 from congrArg (vP b3) (by rfl))) rfl ?_)
 replace rb3 := rb3.mono hh2
 refine yP (F := fun v_ => (rpQ l).Is h2 v_ b.z) rfl (zE xS (Pc.tz (Pc.here _)) rfl rfl rb3 rfl) (yD mh1) rfl ?_
 intro v16u3 r16u3
 refine w_c rfl ?_
 refine zY (vs := [_, _]) call53 e2z (fun w hs => o_rref_add hs r13u3 r16u3 (by omega)) rfl ?_
 intro v17u3 h3 hh3 r17u3
 change (rpQ ((k + 2 * l + 2) + l + 1)).Is h3 v17u3 (a.z + b.z) at r17u3
 replace r17u3 := Rp.Is.le r17u3 (Le.q (l := k + 3 * l + 3) (by omega))
 refine yK rfl (fun _ _ => (zH (sz := 3) 2 underlying32 sizeOf30 rfl rfl rfl (by decide)).cv (show _ = vP b2 6 from congrArg (vP b2) (by rfl))) rfl ?_
 replace rb_6 := rb_6.mono hh3
 have rw_7 := (Le.t (Le.q (l := k + 3 * l + 3) (by omega))).R rb_6
 refine xR (A := [_, _]) (F := fun c_ => (rpT (rpQ (k + 3 * l + 3))).R h3 c_ (T3.mk (a.x + b.x) (a.y + b.y) (a.z + b.z))) rfl (yJ sizeOf30 (Pc.tz (Pc.here _)) rfl rfl rfl rw_7 r17u3 rfl) ?_
 intro cs_8 rb_9
 refine xB (xC (zJ (e' := [(2, _), (3, _), (4, _), (5, _)]) e4z (zB (zA (mv rfl rfl (gv ((zS (q := 1) rfl rfl (by omega) (by omega)).cv (show _ = vI (3) from rfl)) rfl (asg rfl rfl (zD (wN (zC (zC (zA (mv rfl rfl ?_)))))))))))))
 refine gv (OpV.fa (by decide) (zW (q := 3) rfl rfl)) rfl (zD (zB (qQ rfl (xG (yB (yB (xF (zB (zC (zA (xX (F := fun v_ => (rpT (rpQ (k + 3 * l + 3))).Is h3 v_ (T3.mk (a.x + b.x) (a.y + b.y) (a.z + b.z))) (zE xJ (Pc.here _) rfl rfl rb_9 rfl) (yD mh2) rfl ?_)))))))))))
 intro v19u4 r19u4
 replace rb4 := rb4.mono ((hh1.trans hh2).trans hh3)
 refine wW (A := []) (F := fun c_ => (rpT (rpQ (k + 3 * l + 3))).R h3 c_ (T3.mk (a.x + b.x) (a.y + b.y) (a.z + b.z))) (yJ sizeOf32 (Pc.here _) rfl rfl rfl rb4 r19u4 rfl) ?_
 intro cs_10 rb_11
 refine zD (zB (zQ (uZ (rv_o (t := 4) xJ mh0 rfl rb_11) ?_)))
 intro w_12 hvw_12 rr_13
 refine xQ (fun E S => yS rfl hvw_12 E S) ?_
 exact rr_13
theorem o_r4_sub {w0 : World} {h0 : Mem}  (hs : MLe h0 (mem w0)) {k l : Nat} {va : Value} {a : (T3 Rat)} (ra : (rpT (rpQ k)).Is h0 va a) {vb : Value} {b : (T3 Rat)} (rb : (rpT (rpQ l)).Is h0 vb b) (hcd0 : k + l ≤ 1000000000)  :
    Calls Tryz.prog 23 #[va, vb] w0 (Ret w0 h0 (fun h r => (rpT (rpQ (k + 3 * l + 3))).Is h r (T3.mk (a.x - b.x) (a.y - b.y) (a.z - b.z)))) := by
 refine zM (n := 20) (e := [(0, va), (1, vb)]) (vs := [va, vb]) func23 rfl rfl (bL rfl) hs e2z (zC (zA (zI (yU (ρ := (rpT (rpQ k))) rfl ra) rfl rfl rfl ?_)))
 intro v2 q2 hq2
 obtain ⟨b2, cs2, rfl, rfl, rb2⟩ := hq2
 refine zI (yU (ρ := (rpT (rpQ l))) rfl rb) rfl rfl rfl ?_
 intro v3 q3 hq3
 obtain ⟨b3, cs3, rfl, rfl, rb3⟩ := hq3
 refine zI (yR (ρ := (rpT (rpQ (k + 3 * l + 3)))) (X := zT) yL rfl rfl (wO (wB (by omega)))) rfl rfl rfl ?_
 intro v4 q4 hq4
 obtain ⟨b4, cs4, rfl, rfl, rb4⟩ := hq4
 refine zD (zB (zC (zC (zA (asg (v := vI (0)) rfl rfl (zD (zB (zP (kD (zC (zC (zA (mv rfl rfl ?_)))))))))))))
 refine gv (OpV.tr (by decide) (zW (q := 3) rfl rfl)) rfl (zD (zB (xZ rfl (zK (zB (zC (zP ?_)))))))
 refine yF 9 _ [] [(0, .q), (1, .q), (2, .q), (3, .q), (4, .q), (5, .q), (6, .q), (7, .c), (8, .q), (9, .t)] xH nX (by kernel_rfl) nX (fun r hr => hr) (yH rfl rfl rfl (yH rfl rfl rfl (yK rfl (fun _ _ => (zH (sz := 3) 0 underlying32 sizeOf30 rfl rfl rfl (by decide)).cv (show _ = vP b2 0 from congrArg (vP b2) (by rfl))) rfl (yP (F := fun v_ => (rpQ k).Is h0 v_ a.x) rfl (zE xS (Pc.tx (Pc.here _)) rfl rfl rb2 rfl) (yD mh2) rfl ?_))))
 intro v13u5 r13u5
 refine yH rfl rfl rfl (yK rfl (fun _ _ => (zH (sz := 3) 0 underlying32 sizeOf30 rfl rfl rfl (by decide)).cv (show _ = vP b3 0 from congrArg (vP b3) (by rfl))) rfl (yP (F := fun v_ => (rpQ l).Is h0 v_ b.x) rfl (zE xS (Pc.tx (Pc.here _)) rfl rfl rb3 rfl) (yD mh1) rfl ?_))
 intro v16u5 r16u5
 refine w_c rfl ?_
 refine zY (vs := [_, _]) call56 e2z (fun w hs => jG hs r13u5 r16u5 (by omega)) rfl ?_
 intro v17u5 h1 hh1 r17u5
 change (rpQ (k + l + 1)).Is h1 v17u5 (a.x - b.x) at r17u5
 refine yK rfl (fun _ _ => (zH (sz := 3) 0 underlying32 sizeOf30 rfl rfl rfl (by decide)).cv (show _ = vP b2 0 from congrArg (vP b2) (by rfl))) rfl ?_
 replace rb2 := rb2.mono hh1
 have rw_14 := (Le.t (Le.q (l := k + l + 1) (by omega))).R rb2
 refine xR (A := [_, _]) (F := fun c_ => (rpT (rpQ (k + l + 1))).R h1 c_ (T3.mk (a.x - b.x) a.y a.z)) rfl (yJ sizeOf30 (Pc.tx (Pc.here _)) rfl rfl rfl rw_14 r17u5 rfl) ?_
 intro cs_15 rb_16
 refine xB (xC (zJ (e' := [(2, _), (3, _), (4, _), (5, _)]) e4z (zB (zA (mv rfl rfl (gv ((zS (q := 1) rfl rfl (by omega) (by omega)).cv (show _ = vI (1) from rfl)) rfl (asg rfl rfl (zD (wN (zC (zC (zA (mv rfl rfl ?_)))))))))))))
 refine gv (OpV.tr (by decide) (zW (q := 3) rfl rfl)) rfl (zD (zB (xZ rfl (zK (zB (zC (zP ?_)))))))
 refine yF 9 _ [] [(0, .q), (1, .q), (2, .q), (3, .q), (4, .q), (5, .q), (6, .q), (7, .c), (8, .q), (9, .t)] xH nX (by kernel_rfl) nX (fun r hr => hr) (yH rfl rfl rfl (yH rfl rfl rfl (yK rfl (fun _ _ => (zH (sz := 3) 1 underlying32 sizeOf30 rfl rfl rfl (by decide)).cv (show _ = vP b2 3 from congrArg (vP b2) (by rfl))) rfl (yP (F := fun v_ => (rpQ (k + l + 1)).Is h1 v_ a.y) rfl (zE xS (Pc.ty (Pc.here _)) rfl rfl rb_16 rfl) (yD mh2) rfl ?_))))
 intro v13u6 r13u6
 refine yH rfl rfl rfl (yK rfl (fun _ _ => (zH (sz := 3) 1 underlying32 sizeOf30 rfl rfl rfl (by decide)).cv (show _ = vP b3 3 from congrArg (vP b3) (by rfl))) rfl ?_)
 replace rb3 := rb3.mono hh1
 refine yP (F := fun v_ => (rpQ l).Is h1 v_ b.y) rfl (zE xS (Pc.ty (Pc.here _)) rfl rfl rb3 rfl) (yD mh1) rfl ?_
 intro v16u6 r16u6
 refine w_c rfl ?_
 refine zY (vs := [_, _]) call56 e2z (fun w hs => jG hs r13u6 r16u6 (by omega)) rfl ?_
 intro v17u6 h2 hh2 r17u6
 change (rpQ ((k + l + 1) + l + 1)).Is h2 v17u6 (a.y - b.y) at r17u6
 replace r17u6 := Rp.Is.le r17u6 (Le.q (l := k + 2 * l + 2) (by omega))
 refine yK rfl (fun _ _ => (zH (sz := 3) 1 underlying32 sizeOf30 rfl rfl rfl (by decide)).cv (show _ = vP b2 3 from congrArg (vP b2) (by rfl))) rfl ?_
 replace rb_16 := rb_16.mono hh2
 have rw_17 := (Le.t (Le.q (l := k + 2 * l + 2) (by omega))).R rb_16
 refine xR (A := [_, _]) (F := fun c_ => (rpT (rpQ (k + 2 * l + 2))).R h2 c_ (T3.mk (a.x - b.x) (a.y - b.y) a.z)) rfl (yJ sizeOf30 (Pc.ty (Pc.here _)) rfl rfl rfl rw_17 r17u6 rfl) ?_
 intro cs_18 rb_19
 refine xB (xC (zJ (e' := [(2, _), (3, _), (4, _), (5, _)]) e4z (zB (zA (mv rfl rfl (gv ((zS (q := 1) rfl rfl (by omega) (by omega)).cv (show _ = vI (2) from rfl)) rfl (asg rfl rfl (zD (wN (zC (zC (zA (mv rfl rfl ?_)))))))))))))
 refine gv (OpV.tr (by decide) (zW (q := 3) rfl rfl)) rfl (zD (zB (xZ rfl (zK (zB (zC (zP ?_)))))))
 refine yF 9 _ [] [(0, .q), (1, .q), (2, .q), (3, .q), (4, .q), (5, .q), (6, .q), (7, .c), (8, .q), (9, .t)] xH nX (by kernel_rfl) nX (fun r hr => hr) (yH rfl rfl rfl (yH rfl rfl rfl (yK rfl (fun _ _ => (zH (sz := 3) 2 underlying32 sizeOf30 rfl rfl rfl (by decide)).cv (show _ = vP b2 6 from congrArg (vP b2) (by rfl))) rfl (yP (F := fun v_ => (rpQ (k + 2 * l + 2)).Is h2 v_ a.z) rfl (zE xS (Pc.tz (Pc.here _)) rfl rfl rb_19 rfl) (yD mh2) rfl ?_))))
 intro v13u7 r13u7
 refine yH rfl rfl rfl (yK rfl (fun _ _ => (zH (sz := 3) 2 underlying32 sizeOf30 rfl rfl rfl (by decide)).cv (show _ = vP b3 6 from congrArg (vP b3) (by rfl))) rfl ?_)
 replace rb3 := rb3.mono hh2
 refine yP (F := fun v_ => (rpQ l).Is h2 v_ b.z) rfl (zE xS (Pc.tz (Pc.here _)) rfl rfl rb3 rfl) (yD mh1) rfl ?_
 intro v16u7 r16u7
 refine w_c rfl ?_
 refine zY (vs := [_, _]) call56 e2z (fun w hs => jG hs r13u7 r16u7 (by omega)) rfl ?_
 intro v17u7 h3 hh3 r17u7
 change (rpQ ((k + 2 * l + 2) + l + 1)).Is h3 v17u7 (a.z - b.z) at r17u7
 replace r17u7 := Rp.Is.le r17u7 (Le.q (l := k + 3 * l + 3) (by omega))
 refine yK rfl (fun _ _ => (zH (sz := 3) 2 underlying32 sizeOf30 rfl rfl rfl (by decide)).cv (show _ = vP b2 6 from congrArg (vP b2) (by rfl))) rfl ?_
 replace rb_19 := rb_19.mono hh3
 have rw_20 := (Le.t (Le.q (l := k + 3 * l + 3) (by omega))).R rb_19
 refine xR (A := [_, _]) (F := fun c_ => (rpT (rpQ (k + 3 * l + 3))).R h3 c_ (T3.mk (a.x - b.x) (a.y - b.y) (a.z - b.z))) rfl (yJ sizeOf30 (Pc.tz (Pc.here _)) rfl rfl rfl rw_20 r17u7 rfl) ?_
 intro cs_21 rb_22
 refine xB (xC (zJ (e' := [(2, _), (3, _), (4, _), (5, _)]) e4z (zB (zA (mv rfl rfl (gv ((zS (q := 1) rfl rfl (by omega) (by omega)).cv (show _ = vI (3) from rfl)) rfl (asg rfl rfl (zD (wN (zC (zC (zA (mv rfl rfl ?_)))))))))))))
 refine gv (OpV.fa (by decide) (zW (q := 3) rfl rfl)) rfl (zD (zB (qQ rfl (xG (yB (yB (xF (zB (zC (zA (xX (F := fun v_ => (rpT (rpQ (k + 3 * l + 3))).Is h3 v_ (T3.mk (a.x - b.x) (a.y - b.y) (a.z - b.z))) (zE xJ (Pc.here _) rfl rfl rb_22 rfl) (yD mh2) rfl ?_)))))))))))
 intro v19u8 r19u8
 replace rb4 := rb4.mono ((hh1.trans hh2).trans hh3)
 refine wW (A := []) (F := fun c_ => (rpT (rpQ (k + 3 * l + 3))).R h3 c_ (T3.mk (a.x - b.x) (a.y - b.y) (a.z - b.z))) (yJ sizeOf32 (Pc.here _) rfl rfl rfl rb4 r19u8 rfl) ?_
 intro cs_23 rb_24
 refine zD (zB (zQ (uZ (rv_o (t := 4) xJ mh0 rfl rb_24) ?_)))
 intro w_25 hvw_25 rr_26
 refine xQ (fun E S => yS rfl hvw_25 E S) ?_
 exact rr_26
theorem o_r4_scale {w0 : World} {h0 : Mem}  (hs : MLe h0 (mem w0)) {l k : Nat} {vq : Value} {q : Rat} (rq : (rpQ l).Is h0 vq q) {va : Value} {a : (T3 Rat)} (ra : (rpT (rpQ k)).Is h0 va a) (hcd0 : k + l ≤ 1000000000)  :
    Calls Tryz.prog 20 #[vq, va] w0 (Ret w0 h0 (fun h r => (rpT (rpQ (k + 3 * l + 1))).Is h r (T3.mk (q * a.x) (q * a.y) (q * a.z)))) := by
 refine zM (n := 18) (e := [(0, vq), (1, va)]) (vs := [vq, va]) func20 rfl rfl (bL rfl) hs e2z (zC (zA (zI (yU (ρ := (rpQ l)) rfl rq) rfl rfl rfl ?_)))
 intro v2 q2 hq2
 obtain ⟨b2, cs2, rfl, rfl, rb2⟩ := hq2
 refine zI (yU (ρ := (rpT (rpQ k))) rfl ra) rfl rfl rfl ?_
 intro v3 q3 hq3
 obtain ⟨b3, cs3, rfl, rfl, rb3⟩ := hq3
 refine zI (yR (ρ := (rpT (rpQ (k + 3 * l + 1)))) (X := zT) yL rfl rfl (wO (wB (by omega)))) rfl rfl rfl ?_
 intro v4 q4 hq4
 obtain ⟨b4, cs4, rfl, rfl, rb4⟩ := hq4
 refine zD (zB (zC (zC (zA (asg (v := vI (0)) rfl rfl (zD (zB (zP (kD (zC (zC (zA (mv rfl rfl ?_)))))))))))))
 refine gv (OpV.tr (by decide) (zW (q := 3) rfl rfl)) rfl (zD (zB (xZ rfl (zK (zB (zC (zP ?_)))))))
 refine yF 7 _ [] [(0, .q), (1, .q), (2, .q), (3, .q), (4, .q), (5, .c), (6, .q), (7, .t)] xH nX (by kernel_rfl) nX (fun r hr => hr) (yH rfl rfl rfl (yP (F := fun v_ => (rpQ l).Is h0 v_ q) rfl (zE xS (Pc.here _) rfl rfl rb2 rfl) (yD mh2) rfl ?_))
 intro v11u9 r11u9
 refine yH rfl rfl rfl (yK rfl (fun _ _ => (zH (sz := 3) 0 underlying32 sizeOf30 rfl rfl rfl (by decide)).cv (show _ = vP b3 0 from congrArg (vP b3) (by rfl))) rfl (yP (F := fun v_ => (rpQ k).Is h0 v_ a.x) rfl (zE xS (Pc.tx (Pc.here _)) rfl rfl rb3 rfl) (yD mh1) rfl ?_))
 intro v14u9 r14u9
 refine w_c rfl ?_
 refine zY (vs := [_, _]) call54 e2z (fun w hs => jH hs r11u9 r14u9 (by omega)) rfl ?_
 intro v15u9 h1 hh1 r15u9
 change (rpQ (l + k)).Is h1 v15u9 (q * a.x) at r15u9
 replace r15u9 := Rp.Is.le r15u9 (Le.q (l := k + l) (by omega))
 refine yK rfl (fun _ _ => (zH (sz := 3) 0 underlying32 sizeOf30 rfl rfl rfl (by decide)).cv (show _ = vP b3 0 from congrArg (vP b3) (by rfl))) rfl ?_
 replace rb3 := rb3.mono hh1
 have rw_27 := (Le.t (Le.q (l := k + l) (by omega))).R rb3
 refine xR (A := [_]) (F := fun c_ => (rpT (rpQ (k + l))).R h1 c_ (T3.mk (q * a.x) a.y a.z)) rfl (yJ sizeOf30 (Pc.tx (Pc.here _)) rfl rfl rfl rw_27 r15u9 rfl) ?_
 intro cs_28 rb_29
 refine xB (xC (zJ (e' := [(2, _), (3, _), (4, _), (5, _)]) e4z (zB (zA (mv rfl rfl (gv ((zS (q := 1) rfl rfl (by omega) (by omega)).cv (show _ = vI (1) from rfl)) rfl (asg rfl rfl (zD (wN (zC (zC (zA (mv rfl rfl ?_)))))))))))))
 refine gv (OpV.tr (by decide) (zW (q := 3) rfl rfl)) rfl (zD (zB (xZ rfl (zK (zB (zC (zP ?_)))))))
 refine yF 7 _ [] [(0, .q), (1, .q), (2, .q), (3, .q), (4, .q), (5, .c), (6, .q), (7, .t)] xH nX (by kernel_rfl) nX (fun r hr => hr) (yH rfl rfl rfl ?_)
 replace rb2 := rb2.mono hh1
 refine yP (F := fun v_ => (rpQ l).Is h1 v_ q) rfl (zE xS (Pc.here _) rfl rfl rb2 rfl) (yD mh2) rfl ?_
 intro v11u10 r11u10
 refine yH rfl rfl rfl (yK rfl (fun _ _ => (zH (sz := 3) 1 underlying32 sizeOf30 rfl rfl rfl (by decide)).cv (show _ = vP b3 3 from congrArg (vP b3) (by rfl))) rfl (yP (F := fun v_ => (rpQ (k + l)).Is h1 v_ a.y) rfl (zE xS (Pc.ty (Pc.here _)) rfl rfl rb_29 rfl) (yD mh1) rfl ?_))
 intro v14u10 r14u10
 refine w_c rfl ?_
 refine zY (vs := [_, _]) call54 e2z (fun w hs => jH hs r11u10 r14u10 (by omega)) rfl ?_
 intro v15u10 h2 hh2 r15u10
 change (rpQ (l + (k + l))).Is h2 v15u10 (q * a.y) at r15u10
 replace r15u10 := Rp.Is.le r15u10 (Le.q (l := k + 2 * l) (by omega))
 refine yK rfl (fun _ _ => (zH (sz := 3) 1 underlying32 sizeOf30 rfl rfl rfl (by decide)).cv (show _ = vP b3 3 from congrArg (vP b3) (by rfl))) rfl ?_
 replace rb_29 := rb_29.mono hh2
 have rw_30 := (Le.t (Le.q (l := k + 2 * l) (by omega))).R rb_29
 refine xR (A := [_]) (F := fun c_ => (rpT (rpQ (k + 2 * l))).R h2 c_ (T3.mk (q * a.x) (q * a.y) a.z)) rfl (yJ sizeOf30 (Pc.ty (Pc.here _)) rfl rfl rfl rw_30 r15u10 rfl) ?_
 intro cs_31 rb_32
 refine xB (xC (zJ (e' := [(2, _), (3, _), (4, _), (5, _)]) e4z (zB (zA (mv rfl rfl (gv ((zS (q := 1) rfl rfl (by omega) (by omega)).cv (show _ = vI (2) from rfl)) rfl (asg rfl rfl (zD (wN (zC (zC (zA (mv rfl rfl ?_)))))))))))))
 refine gv (OpV.tr (by decide) (zW (q := 3) rfl rfl)) rfl (zD (zB (xZ rfl (zK (zB (zC (zP ?_)))))))
 refine yF 7 _ [] [(0, .q), (1, .q), (2, .q), (3, .q), (4, .q), (5, .c), (6, .q), (7, .t)] xH nX (by kernel_rfl) nX (fun r hr => hr) (yH rfl rfl rfl ?_)
 replace rb2 := rb2.mono hh2
 refine yP (F := fun v_ => (rpQ l).Is h2 v_ q) rfl (zE xS (Pc.here _) rfl rfl rb2 rfl) (yD mh2) rfl ?_
 intro v11u11 r11u11
 refine yH rfl rfl rfl (yK rfl (fun _ _ => (zH (sz := 3) 2 underlying32 sizeOf30 rfl rfl rfl (by decide)).cv (show _ = vP b3 6 from congrArg (vP b3) (by rfl))) rfl (yP (F := fun v_ => (rpQ (k + 2 * l)).Is h2 v_ a.z) rfl (zE xS (Pc.tz (Pc.here _)) rfl rfl rb_32 rfl) (yD mh1) rfl ?_))
 intro v14u11 r14u11
 refine w_c rfl ?_
 refine zY (vs := [_, _]) call54 e2z (fun w hs => jH hs r11u11 r14u11 (by omega)) rfl ?_
 intro v15u11 h3 hh3 r15u11
 change (rpQ (l + (k + 2 * l))).Is h3 v15u11 (q * a.z) at r15u11
 replace r15u11 := Rp.Is.le r15u11 (Le.q (l := k + 3 * l) (by omega))
 refine yK rfl (fun _ _ => (zH (sz := 3) 2 underlying32 sizeOf30 rfl rfl rfl (by decide)).cv (show _ = vP b3 6 from congrArg (vP b3) (by rfl))) rfl ?_
 replace rb_32 := rb_32.mono hh3
 have rw_33 := (Le.t (Le.q (l := k + 3 * l) (by omega))).R rb_32
 refine xR (A := [_]) (F := fun c_ => (rpT (rpQ (k + 3 * l))).R h3 c_ (T3.mk (q * a.x) (q * a.y) (q * a.z))) rfl (yJ sizeOf30 (Pc.tz (Pc.here _)) rfl rfl rfl rw_33 r15u11 rfl) ?_
 intro cs_34 rb_35
 refine xB (xC (zJ (e' := [(2, _), (3, _), (4, _), (5, _)]) e4z (zB (zA (mv rfl rfl (gv ((zS (q := 1) rfl rfl (by omega) (by omega)).cv (show _ = vI (3) from rfl)) rfl (asg rfl rfl (zD (wN (zC (zC (zA (mv rfl rfl ?_)))))))))))))
 refine gv (OpV.fa (by decide) (zW (q := 3) rfl rfl)) rfl (zD (zB (qQ rfl (xG (yB (yB (xF (zB (zC (zA (xX (F := fun v_ => (rpT (rpQ (k + 3 * l))).Is h3 v_ (T3.mk (q * a.x) (q * a.y) (q * a.z))) (zE xJ (Pc.here _) rfl rfl rb_35 rfl) (yD mh1) rfl ?_)))))))))))
 intro v17u12 r17u12
 replace rb4 := rb4.mono ((hh1.trans hh2).trans hh3)
 refine wW (A := []) (F := fun c_ => (rpT (rpQ (k + 3 * l + 1))).R h3 c_ (T3.mk (q * a.x) (q * a.y) (q * a.z))) (yJ sizeOf32 (Pc.here _) rfl rfl rfl rb4 (r17u12.le (Le.t (Le.q (l := k + 3 * l + 1) (by omega)))) rfl) ?_
 intro cs_36 rb_37
 refine zD (zB (zQ (uZ (rv_o (t := 4) xJ mh0 rfl rb_37) ?_)))
 intro w_38 hvw_38 rr_39
 refine xQ (fun E S => yS rfl hvw_38 E S) ?_
 exact rr_39
theorem o_made_at3 {w0 : World} {h0 : Mem}  (hs : MLe h0 (mem w0)) {x : Int} (hx1 : -9223372036854775808 ≤ x) (hx2 : x < 9223372036854775808) {y : Int} (hy1 : -9223372036854775808 ≤ y) (hy2 : y < 9223372036854775808) {z : Int} (hz1 : -9223372036854775808 ≤ z) (hz2 : z < 9223372036854775808)  :
    Calls Tryz.prog 44 #[vI x, vI y, vI z] w0 (Ret w0 h0 (fun h r => (rpT (rpQ 2)).Is h r (T3.mk ((x : Int) : Rat) ((y : Int) : Rat) ((z : Int) : Rat)))) := by
 refine zM (n := 14) (e := [(0, vI x), (1, vI y), (2, vI z)]) (vs := [vI x, vI y, vI z]) func44 rfl rfl (bL rfl) hs e3z (zC (zA (zI (yR (ρ := (rpT (rpQ 1))) (X := zT) yL rfl rfl (wO (wB (by decide)))) rfl rfl rfl ?_)))
 intro v6 q6 hq6
 obtain ⟨b6, cs6, rfl, rfl, rb6⟩ := hq6
 refine zD (zB (zC (zA (mv rfl rfl ?_))))
 refine zO (vs := [_]) rfl rfl rfl rfl call45 ⟨rfl, trivial⟩ (fun w hs => o_rref_int hs (by omega) (by omega)) ?_
 intro v8 h1 hh1 r8
 change (rpQ 2).Is h1 v8 ((x : Int) : Rat) at r8
 refine mv rfl rfl ?_
 refine zO (vs := [_]) rfl rfl rfl rfl call45 ⟨rfl, trivial⟩ (fun w hs => o_rref_int hs (by omega) (by omega)) ?_
 intro v10 h2 hh2 r10
 change (rpQ 2).Is h2 v10 ((y : Int) : Rat) at r10
 refine mv rfl rfl ?_
 refine zO (vs := [_]) rfl rfl rfl rfl call45 ⟨rfl, trivial⟩ (fun w hs => o_rref_int hs (by omega) (by omega)) ?_
 intro v12 h3 hh3 r12
 change (rpQ 2).Is h3 v12 ((z : Int) : Rat) at r12
 replace r8 := r8.mono (hh2.trans hh3)
 replace r10 := r10.mono hh3
 refine xX (F := fun v_ => (rpT (rpQ 2)).Is h3 v_ (T3.mk ((x : Int) : Rat) ((y : Int) : Rat) ((z : Int) : Rat))) (wP (ps' := [(0, _), (1, _), (2, _)]) underlying32 yL rfl rfl sizeOf30 e6 rfl (wO (wB (by decide))) (yZ rfl (Pc.tx (Pc.here _)) r8 (yZ rfl (Pc.ty (Pc.here _)) r10 (yZ rfl (Pc.tz (Pc.here _)) r12 wH)))) vQ rfl ?_
 intro v13 r13
 replace rb6 := rb6.mono ((hh1.trans hh2).trans hh3)
 have rw_40 := (Le.t (Le.q (l := 2) (by decide))).R rb6
 refine wW (A := []) (F := fun c_ => (rpT (rpQ 2)).R h3 c_ (T3.mk ((x : Int) : Rat) ((y : Int) : Rat) ((z : Int) : Rat))) (yJ sizeOf32 (Pc.here _) rfl rfl rfl rw_40 r13 rfl) ?_
 intro cs_41 rb_42
 refine zD (zJ (e' := [(6, _)]) ⟨rfl, trivial⟩ (zB (zQ (uZ (rv_o (t := 6) xJ mh0 rfl rb_42) ?_))))
 intro w_43 hvw_43 rr_44
 refine xQ (fun E S => yS rfl hvw_43 E S) ?_
 exact rr_44
end Go.Proofs.YtghhjjmjpeehdaaGreat
namespace Bk
set_option linter.unusedVariables false
set_option linter.unusedSimpArgs false
open Go Go.RowKit
open Classical
abbrev Pl := Pt × Rat
theorem kB {x : Rat} : uT x = 1 ↔ 0 < x := by
  have h2 := uE x; rw [← sgn_pos]; omega
theorem jJ {x : Rat} : uT x = -1 ↔ x < 0 := by
  have h2 := uE x; rw [← qY]; omega
theorem t3_eq {a b : Pt} : a = b ↔ a.x = b.x ∧ a.y = b.y ∧ a.z = b.z := by cases a; cases b; exact T3.mk.injEq .. ▸ Iff.rfl
noncomputable def axI (n : Pt) : Nat := if 0 < n.z then 0 else if n.z < 0 then 1 else if 0 < n.y then 2 else if n.y < 0 then 0 else if 0 < n.x then 1 else if n.x < 0 then 2 else 1
noncomputable def axJ (n : Pt) : Nat := if 0 < n.z then 1 else if n.z < 0 then 0 else if 0 < n.y then 0 else if n.y < 0 then 2 else if 0 < n.x then 2 else if n.x < 0 then 1 else 2
noncomputable def axK (n : Pt) : Nat := if n.z ≠ 0 then 2 else if n.y ≠ 0 then 1 else 0
theorem ax_cases (n : Pt) : (0 < n.z ∧ axI n = 0 ∧ axJ n = 1 ∧ axK n = 2) ∨ (n.z < 0 ∧ axI n = 1 ∧ axJ n = 0 ∧ axK n = 2) ∨ (n.z = 0 ∧ 0 < n.y ∧ axI n = 2 ∧ axJ n = 0 ∧ axK n = 1) ∨ (n.z = 0 ∧ n.y < 0 ∧ axI n = 0 ∧ axJ n = 2 ∧ axK n = 1) ∨
    (n.z = 0 ∧ n.y = 0 ∧ 0 < n.x ∧ axI n = 1 ∧ axJ n = 2 ∧ axK n = 0) ∨ (n.z = 0 ∧ n.y = 0 ∧ n.x < 0 ∧ axI n = 2 ∧ axJ n = 1 ∧ axK n = 0) ∨ (n.z = 0 ∧ n.y = 0 ∧ n.x = 0 ∧ axI n = 1 ∧ axJ n = 2 ∧ axK n = 0) := by
  have tri : ∀ a : Rat, 0 < a ∨ (a < 0 ∧ ¬ 0 < a) ∨ (a = 0 ∧ ¬ 0 < a ∧ ¬ a < 0) := fun a => by grind
  unfold axI axJ axK
  rcases tri n.z with h | ⟨h, h'⟩ | ⟨h, h', h''⟩
  · left; simp only [if_pos h, if_pos (show n.z ≠ 0 by grind)]; exact ⟨h, trivial, trivial, trivial⟩
  · right; left; simp only [if_neg h', if_pos h, if_pos (show n.z ≠ 0 by grind)]; exact ⟨h, trivial, trivial, trivial⟩
  · simp only [if_neg h', if_neg h'', if_neg (show ¬ n.z ≠ 0 by grind)]
    rcases tri n.y with k | ⟨k, k'⟩ | ⟨k, k', k''⟩
    · right; right; left; simp only [if_pos k, if_pos (show n.y ≠ 0 by grind)]; exact ⟨h, k, trivial, trivial, trivial⟩
    · right; right; right; left; simp only [if_neg k', if_pos k, if_pos (show n.y ≠ 0 by grind)]; exact ⟨h, k, trivial, trivial, trivial⟩
    · simp only [if_neg k', if_neg k'', if_neg (show ¬ n.y ≠ 0 by grind)]
      rcases tri n.x with l | ⟨l, l'⟩ | ⟨l, l', l''⟩
      · right; right; right; right; left; simp only [if_pos l]; exact ⟨h, k, l, trivial, trivial, trivial⟩
      · right; right; right; right; right; left; simp only [if_neg l', if_pos l]; exact ⟨h, k, l, trivial, trivial, trivial⟩
      · right; right; right; right; right; right; simp only [if_neg l', if_neg l'']; exact ⟨h, k, l, trivial, trivial, trivial⟩
theorem ax_sum (n : Pt) : axI n + axJ n ≤ 3 ∧ axI n < 3 ∧ axJ n < 3 ∧ axK n = 3 - axI n - axJ n := by
  rcases ax_cases n with h | h | h | h | h | h | h <;> omega
theorem axI_lt (n : Pt) : axI n < 3 := (ax_sum n).2.1
theorem axJ_lt (n : Pt) : axJ n < 3 := (ax_sum n).2.2.1
theorem axK_lt (n : Pt) : axK n < 3 := by
  rcases ax_cases n with h | h | h | h | h | h | h <;> omega
theorem ax_zero (n : Pt) : n.at (axK n) = 0 ↔ n = T3.mk (0 : Rat) 0 0 := by
  obtain ⟨x, y, z⟩ := n
  rw [T3.mk.injEq]
  rcases ax_cases ⟨x, y, z⟩ with h | h | h | h | h | h | h <;> simp only at h <;> obtain ⟨h, h1⟩ := h
  all_goals first | rw [h1.2.2] | rw [h1.2.2.2] | rw [h1.2.2.2.2]
  all_goals simp only [T3.at]
  all_goals grind
noncomputable def qX (pl : Pl) (p : Pt) : Pt := T3.mk (p.at (axI pl.1)) (p.at (axJ pl.1)) (0 : Rat)
noncomputable def liftQ (pl : Pl) (q : Pt) : Rat := if pl.1.at (axK pl.1) = 0 then 0 else (pl.2 - (pl.1.at (axI pl.1) * q.x + pl.1.at (axJ pl.1) * q.y)) / pl.1.at (axK pl.1)
noncomputable def qF (pl : Pl) (q : Pt) : Pt := if pl.1.at (axK pl.1) = 0 then T3.mk (0 : Rat) 0 0 else (((T3.mk (0 : Rat) 0 0).set (axI pl.1) q.x).set (axJ pl.1) q.y).set (axK pl.1) (liftQ pl q)
def wR (a b : Pt) : Rat := a.x * b.x + a.y * b.y + a.z * b.z
def yW (a b : Pt) : Pt := T3.mk (a.y * b.z - a.z * b.y) (a.z * b.x - a.x * b.z) (a.x * b.y - a.y * b.x)
def qW (a b : Pt) : Pt := T3.mk (a.x - b.x) (a.y - b.y) (a.z - b.z)
theorem area3 (a b c : Pt) : areaTo [a, b, c] 0 1 3 = (b.x - a.x) * (c.y - a.y) - (b.y - a.y) * (c.x - a.x) := by
  simp [areaTo, gp, T3.at]
  grind
theorem turn_core {ni nj nk d ai aj ak bi bj bk ci cj ck : Rat} (ha : nk * ak = d - (ni * ai + nj * aj)) (hb : nk * bk = d - (ni * bi + nj * bj)) (hc : nk * ck = d - (ni * ci + nj * cj)) :
    nk * (((bj - aj) * (ck - ak) - (bk - ak) * (cj - aj)) * ni + ((bk - ak) * (ci - ai) - (bi - ai) * (ck - ak)) * nj + ((bi - ai) * (cj - aj) - (bj - aj) * (ci - ai)) * nk) = (ni * ni + nj * nj + nk * nk) * ((bi - ai) * (cj - aj) - (bj - aj) * (ci - ai)) := by
  grind
theorem sgn_cmp0 (a : Rat) : kO a 0 = uT a := by rw [cmpQ_sub, show a - 0 = a by grind]
theorem sgn_pmul {c : Rat} (hc : 0 < c) (x : Rat) : uT (c * x) = uT x := by
  have h := cmpQ_mul x 0 c
  rw [Rat.zero_mul, sgn_cmp0, sgn_cmp0, kB.2 hc, Int.mul_one, Rat.mul_comm] at h
  exact h
theorem sgn_scale {c e x y : Rat} (hc : 0 < c) (he : 0 < e) (h : c * x = e * y) : uT x = uT y := by
  rw [← sgn_pmul hc x, ← sgn_pmul he y, h]
theorem sq_pos {i j k : Rat} (hk : k ≠ 0) : 0 < i * i + j * j + k * k := by
  have h1 : 0 ≤ i * i := by rcases @Rat.le_total 0 i with h | h; exact Rat.mul_nonneg h h; have := Rat.mul_nonneg (a := -i) (b := -i) (by grind) (by grind); grind
  have h2 : 0 ≤ j * j := by rcases @Rat.le_total 0 j with h | h; exact Rat.mul_nonneg h h; have := Rat.mul_nonneg (a := -j) (b := -j) (by grind) (by grind); grind
  have h3 : 0 < k * k := by
    rcases @Rat.le_total 0 k with h | h
    · exact Rat.mul_pos (by grind) (by grind)
    · have := Rat.mul_pos (a := -k) (b := -k) (by grind) (by grind); grind
  grind
theorem lift_eq {n d m q : Rat} (h : ¬ n = 0) : n * ((d - m) / n) = d - m := by
  rw [Rat.mul_comm, Rat.div_mul_cancel h]
theorem turn_pos {ni nj nk d ai aj ak bi bj bk ci cj ck : Rat} (hk : 0 < nk) (ha : nk * ak = d - (ni * ai + nj * aj)) (hb : nk * bk = d - (ni * bi + nj * bj)) (hc : nk * ck = d - (ni * ci + nj * cj)) {X : Rat}
    (hX : X = ((bj - aj) * (ck - ak) - (bk - ak) * (cj - aj)) * ni + ((bk - ak) * (ci - ai) - (bi - ai) * (ck - ak)) * nj + ((bi - ai) * (cj - aj) - (bj - aj) * (ci - ai)) * nk) :
    uT ((bi - ai) * (cj - aj) - (bj - aj) * (ci - ai)) = uT X := by
  rw [hX]
  exact (sgn_scale hk (sq_pos (by grind)) (turn_core ha hb hc)).symm
theorem turn_neg {ni nj nk d ai aj ak bi bj bk ci cj ck : Rat} (hk : nk < 0) (ha : nk * ak = d - (ni * ai + nj * aj)) (hb : nk * bk = d - (ni * bi + nj * bj)) (hc : nk * ck = d - (ni * ci + nj * cj)) {X : Rat}
    (hX : X = -(((bj - aj) * (ck - ak) - (bk - ak) * (cj - aj)) * ni + ((bk - ak) * (ci - ai) - (bi - ai) * (ck - ak)) * nj + ((bi - ai) * (cj - aj) - (bj - aj) * (ci - ai)) * nk)) :
    uT ((bi - ai) * (cj - aj) - (bj - aj) * (ci - ai)) = uT X := by
  refine (sgn_scale (c := -nk) (by grind) (sq_pos (i := ni) (j := nj) (k := nk) (by grind)) ?_).symm
  rw [hX, ← turn_core ha hb hc]
  grind
theorem turns_eq (pl : Pl) (p q r : Pt) (h : ¬ pl.1.at (axK pl.1) = 0) :
    uT (areaTo [qX pl (qF pl p), qX pl (qF pl q), qX pl (qF pl r)] 0 1 3) = uT (wR (yW (qW (qF pl q) (qF pl p)) (qW (qF pl r) (qF pl p))) pl.1) := by
  rw [area3]
  have hp := lift_eq (d := pl.2) (m := pl.1.at (axI pl.1) * p.x + pl.1.at (axJ pl.1) * p.y) (q := 0) h
  have hq := lift_eq (d := pl.2) (m := pl.1.at (axI pl.1) * q.x + pl.1.at (axJ pl.1) * q.y) (q := 0) h
  have hr := lift_eq (d := pl.2) (m := pl.1.at (axI pl.1) * r.x + pl.1.at (axJ pl.1) * r.y) (q := 0) h
  unfold qF liftQ qX
  rw [if_neg h, if_neg h, if_neg h, if_neg h, if_neg h, if_neg h]
  generalize (pl.2 - (pl.1.at (axI pl.1) * p.x + pl.1.at (axJ pl.1) * p.y)) / pl.1.at (axK pl.1) = u at *
  generalize (pl.2 - (pl.1.at (axI pl.1) * q.x + pl.1.at (axJ pl.1) * q.y)) / pl.1.at (axK pl.1) = v at *
  generalize (pl.2 - (pl.1.at (axI pl.1) * r.x + pl.1.at (axJ pl.1) * r.y)) / pl.1.at (axK pl.1) = w at *
  obtain ⟨⟨x, y, z⟩, d⟩ := pl
  obtain ⟨p1, p2, p3⟩ := p
  obtain ⟨q1, q2, q3⟩ := q
  obtain ⟨r1, r2, r3⟩ := r
  rcases ax_cases ⟨x, y, z⟩ with e | e | e | e | e | e | e
  · obtain ⟨hs, e1, e2, e3⟩ := e
    simp only [e1, e2, e3, T3.at, T3.set, wR, yW, qW] at *
    exact turn_pos hs hp hq hr (by grind)
  · obtain ⟨hs, e1, e2, e3⟩ := e
    simp only [e1, e2, e3, T3.at, T3.set, wR, yW, qW] at *
    exact turn_neg hs hp hq hr (by grind)
  · obtain ⟨h1, hs, e1, e2, e3⟩ := e
    simp only [e1, e2, e3, T3.at, T3.set, wR, yW, qW] at *
    exact turn_pos hs hp hq hr (by grind)
  · obtain ⟨h1, hs, e1, e2, e3⟩ := e
    simp only [e1, e2, e3, T3.at, T3.set, wR, yW, qW] at *
    exact turn_neg hs hp hq hr (by grind)
  · obtain ⟨h1, h2, hs, e1, e2, e3⟩ := e
    simp only [e1, e2, e3, T3.at, T3.set, wR, yW, qW] at *
    exact turn_pos hs hp hq hr (by grind)
  · obtain ⟨h1, h2, hs, e1, e2, e3⟩ := e
    simp only [e1, e2, e3, T3.at, T3.set, wR, yW, qW] at *
    exact turn_neg hs hp hq hr (by grind)
  · obtain ⟨h1, h2, h3, e1, e2, e3⟩ := e
    rw [e3] at h
    exact absurd h3 h
theorem dot_lift (n : Pt) (x y : Rat) : wR n (((T3.mk (0 : Rat) 0 0).set (axI n) x).set (axJ n) y) = n.at (axI n) * x + n.at (axJ n) * y := by
  obtain ⟨a, b, c⟩ := n
  have h : (axI ⟨a, b, c⟩ = 0 ∧ axJ ⟨a, b, c⟩ = 1) ∨ (axI ⟨a, b, c⟩ = 1 ∧ axJ ⟨a, b, c⟩ = 0) ∨ (axI ⟨a, b, c⟩ = 2 ∧ axJ ⟨a, b, c⟩ = 0) ∨ (axI ⟨a, b, c⟩ = 0 ∧ axJ ⟨a, b, c⟩ = 2) ∨ (axI ⟨a, b, c⟩ = 1 ∧ axJ ⟨a, b, c⟩ = 2) ∨ (axI ⟨a, b, c⟩ = 2 ∧ axJ ⟨a, b, c⟩ = 1) := by
    rcases ax_cases ⟨a, b, c⟩ with h | h | h | h | h | h | h <;> omega
  rcases h with ⟨e1, e2⟩ | ⟨e1, e2⟩ | ⟨e1, e2⟩ | ⟨e1, e2⟩ | ⟨e1, e2⟩ | ⟨e1, e2⟩ <;> rw [e1, e2] <;> simp only [T3.at, T3.set, wR] <;> grind
theorem ref_lift {s : Pl} {q : Pt} (h : ¬ s.1 = T3.mk (0 : Rat) 0 0) :
    (((T3.mk (0 : Rat) 0 0).set (axI s.1) q.x).set (axJ s.1) q.y).set (axK s.1) (if s.1.at (axK s.1) = 0 then 0 else (s.2 - wR s.1 (((T3.mk (0 : Rat) 0 0).set (axI s.1) q.x).set (axJ s.1) q.y)) / s.1.at (axK s.1)) = qF s q := by
  rw [dot_lift]
  exact (if_neg (fun e => h ((ax_zero _).1 e))).symm
theorem ax_perm (n : Pt) : (axI n = 0 ∧ axJ n = 1 ∧ axK n = 2) ∨ (axI n = 1 ∧ axJ n = 0 ∧ axK n = 2) ∨ (axI n = 2 ∧ axJ n = 0 ∧ axK n = 1) ∨ (axI n = 0 ∧ axJ n = 2 ∧ axK n = 1) ∨ (axI n = 1 ∧ axJ n = 2 ∧ axK n = 0) ∨ (axI n = 2 ∧ axJ n = 1 ∧ axK n = 0) := by
  rcases ax_cases n with h | h | h | h | h | h | h <;> omega
theorem side_lift {s : Pl} {q : Pt} (h : ¬ s.1.at (axK s.1) = 0) : uT (wR s.1 (qF s q) - s.2) = 0 := by
  rw [uQ]
  have hq := lift_eq (d := s.2) (m := s.1.at (axI s.1) * q.x + s.1.at (axJ s.1) * q.y) (q := 0) h
  unfold qF liftQ
  rw [if_neg h, if_neg h]
  generalize (s.2 - (s.1.at (axI s.1) * q.x + s.1.at (axJ s.1) * q.y)) / s.1.at (axK s.1) = u at *
  obtain ⟨⟨x, y, z⟩, d⟩ := s
  rcases ax_perm ⟨x, y, z⟩ with ⟨e1, e2, e3⟩ | ⟨e1, e2, e3⟩ | ⟨e1, e2, e3⟩ | ⟨e1, e2, e3⟩ | ⟨e1, e2, e3⟩ | ⟨e1, e2, e3⟩ <;> simp only [e1, e2, e3, T3.at, T3.set, wR] at * <;> grind
theorem lift_back {s : Pl} {p : Pt} (h : ¬ s.1.at (axK s.1) = 0) (hs : uT (wR s.1 p - s.2) = 0) : qF s (qX s p) = p := by
  rw [uQ] at hs
  have hq := lift_eq (d := s.2) (m := s.1.at (axI s.1) * p.at (axI s.1) + s.1.at (axJ s.1) * p.at (axJ s.1)) (q := 0) h
  unfold qF liftQ qX
  rw [if_neg h, if_neg h]
  simp only
  generalize (s.2 - (s.1.at (axI s.1) * p.at (axI s.1) + s.1.at (axJ s.1) * p.at (axJ s.1))) / s.1.at (axK s.1) = u at *
  obtain ⟨⟨x, y, z⟩, d⟩ := s
  obtain ⟨a, b, c⟩ := p
  have hz : ∀ {n u v : Rat}, ¬ n = 0 → n * u = n * v → u = v := fun {n u v} h e => by
    have h1 : n * (u - v) = 0 := by grind
    rcases Rat.mul_eq_zero.1 h1 with h2 | h2
    · exact absurd h2 h
    · grind
  rcases ax_perm ⟨x, y, z⟩ with ⟨e1, e2, e3⟩ | ⟨e1, e2, e3⟩ | ⟨e1, e2, e3⟩ | ⟨e1, e2, e3⟩ | ⟨e1, e2, e3⟩ | ⟨e1, e2, e3⟩ <;> simp only [e1, e2, e3, T3.at, T3.set, wR] at * <;> rw [T3.mk.injEq] <;> simp only [true_and, and_true] <;> exact hz h (by grind)
end Bk
namespace Bk
set_option linter.unusedVariables false
set_option linter.unusedSimpArgs false
open Classical
def i3 (x y z : Int) : Pt := T3.mk ((x : Int) : Rat) ((y : Int) : Rat) ((z : Int) : Rat)
abbrev bdI (z : Int) (n : Nat) : Prop := z.natAbs ≤ n
theorem uI {x y : Int} {X Y : Nat} (hx : bdI x X) (hy : bdI y Y) : bdI (x * y) (X * Y) := by unfold bdI at *; rw [Int.natAbs_mul]; exact Nat.mul_le_mul hx hy
theorem bd_add {x y : Int} {X Y : Nat} (hx : bdI x X) (hy : bdI y Y) : bdI (x + y) (X + Y) := by unfold bdI at *; omega
theorem bd_sub {x y : Int} {X Y : Nat} (hx : bdI x X) (hy : bdI y Y) : bdI (x - y) (X + Y) := by unfold bdI at *; omega
def smN (e : Pl) : Prop := ∃ a b c d : Int, (bdI a 2 ∧ bdI b 2 ∧ bdI c 2 ∧ bdI d 30) ∧ e = (i3 a b c, (d : Rat) / 2)
def jQ (q : Rat) (n : Nat) : Prop := ∃ z : Int, bdI z n ∧ q = (z : Rat) / 2
def spP (p : Pt) : Prop := jQ p.x 9 ∧ jQ p.y 9 ∧ jQ p.z 9
theorem half_int {z : Int} {n m : Nat} (h : bdI z n) (hm : 2 * n ≤ m) : jQ ((z : Int) : Rat) m := by
  refine ⟨2 * z, by unfold bdI at *; omega, ?_⟩
  rw [Rat.intCast_mul]
  have e2 : ((2 : Int) : Rat) = 2 := rfl
  rw [e2]; grind
theorem half_mk2 {z : Int} {n : Nat} (h : bdI z n) : jQ (qR z 2) n := ⟨z, h, rfl⟩
theorem half_zero (n : Nat) : jQ 0 n := ⟨0, Nat.zero_le _, by decide +kernel⟩
theorem sp_next {p : Pt} {i : Nat} {q : Rat} (hi : i < 3) (h : ∀ u, u < i → jQ (p.at u) 9) (hq : jQ q 9) : ∀ u, u < i + 1 → jQ ((p.set i q).at u) 9 := by
  intro u hu
  by_cases e : u = i
  · subst e
    match u, hi with
    | 0, _ => exact hq
    | 1, _ => exact hq
    | 2, _ => exact hq
  · have h1 : u < i := by omega
    have h2 := h u h1
    have hc : (i = 1 ∧ u = 0) ∨ (i = 2 ∧ u = 0) ∨ (i = 2 ∧ u = 1) := by omega
    rcases hc with ⟨rfl, rfl⟩ | ⟨rfl, rfl⟩ | ⟨rfl, rfl⟩ <;> exact h2
theorem sp_of {p : Pt} (h : ∀ u, u < 3 → jQ (p.at u) 9) : spP p := ⟨h 0 (by decide), h 1 (by decide), h 2 (by decide)⟩
theorem sm_zero : smN (T3.mk (0 : Rat) 0 0, (0 : Rat)) := ⟨0, 0, 0, 0, ⟨by decide, by decide, by decide, by decide⟩, by rw [Prod.mk.injEq]; unfold i3; rw [T3.mk.injEq]; exact ⟨⟨rfl, rfl, rfl⟩, by decide +kernel⟩⟩
abbrev rows7 : List (T3 Int) := [T3.mk 1 0 0, T3.mk 0 1 0, T3.mk 0 0 1, T3.mk 1 1 0, T3.mk (-1) 0 0, T3.mk 1 (-1) 2, T3.mk 0 2 1]
theorem row_sm {i : Nat} {z : Int} (hi : i < 7) (h1 : -1 ≤ z) (h2 : z ≤ 7) : smN (T3.mk (((rows7.getD i (T3.mk 0 0 0)).x : Int) : Rat) (((rows7.getD i (T3.mk 0 0 0)).y : Int) : Rat) (((rows7.getD i (T3.mk 0 0 0)).z : Int) : Rat), qR z 2) := by
  have h : bdI (rows7.getD i (T3.mk 0 0 0)).x 2 ∧ bdI (rows7.getD i (T3.mk 0 0 0)).y 2 ∧ bdI (rows7.getD i (T3.mk 0 0 0)).z 2 := by
    match i, hi with
    | 0, _ => decide
    | 1, _ => decide
    | 2, _ => decide
    | 3, _ => decide
    | 4, _ => decide
    | 5, _ => decide
    | 6, _ => decide
  exact ⟨_, _, _, z, ⟨h.1, h.2.1, h.2.2, by unfold bdI; omega⟩, rfl⟩
end Bk
namespace Go.Proofs.YtghhjjmjpeehdaaGreat
open Bk Go Tryz
set_option linter.unusedVariables false
set_option linter.unusedSimpArgs false
set_option maxRecDepth 10000
theorem own_rat {w0 : World} {h0 : Mem}  (hs : MLe h0 (mem w0)) {qa : Rat} {vna vda : Value} (hna : Us .u32 h0 vna (zF qa.num.natAbs)) (hda : Us .u32 h0 vda (zF (vO qa.den))) (hqa : lq qa ≤ 100000000000) :
    Calls Tryz.prog 111 #[.agg #[vB (qa.num < 0), vna, vda]] w0 (Ret w0 h0 (fun h r => vX h r qa)) := by
 have hlna := vM qa
 have hlda := vS qa
 have hlDa := vE qa
 refine zM (n := 12) (e := [(0, .agg #[vB (qa.num < 0), vna, vda])]) (vs := [.agg #[vB (qa.num < 0), vna, vda]]) func111 rfl rfl (bL rfl) hs ⟨rfl, trivial⟩ (zC (zA (zI (wZ (cs := [_, _, _]) rfl rfl) rfl rfl rfl ?_)))
 intro v1 r1 hr1
 obtain ⟨b1, rfl, rfl⟩ := hr1
 refine zI (vV (cs := [vB ((0 : Rat).num < 0), .slice none 0 0, .slice none 0 0]) wT rfl (by simp only [zb]; rfl)) rfl rfl rfl ?_
 intro v2 r2 hr2
 obtain ⟨b2, rfl, rfl⟩ := hr2
 refine zD (zB (zC ?_))
 refine yF 9 _ [] [(0, .q), (1, .q), (2, .q), (3, .q), (5, .q), (6, .q), (4, .c), (7, .c), (8, .c), (9, .t)] xH nX (by kernel_rfl) nX (fun r hr => hr) (yK rfl (fun _ _ => zG underlying30 rfl sizeOf4 rfl) rfl (w_q rfl (fun h' L' hh hR => zR (hR _ mh1) isAgg4 rfl rfl) rfl (yK rfl (fun _ _ => zG underlying30 rfl sizeOf28 rfl) rfl (w_q rfl (fun h' L' hh hR => zR (hR _ mh1) isAgg28 rfl rfl) rfl (yK rfl (fun _ _ => zG underlying30 rfl sizeOf28 rfl) rfl (w_q rfl (fun h' L' hh hR => zR (hR _ mh1) isAgg28 rfl rfl) rfl ?_))))))
 refine w_c rfl ?_
 refine s_call_own (vs := [_]) call130 ⟨rfl, trivial⟩ (fun w hs => sl_clone hs hna (by omega)) rfl ?_
 intro v7 h1 L7 hh1 hr7
 obtain rfl := hr7
 refine w_c rfl ?_
 replace hda := hda.mono hh1
 refine s_call_own (vs := [_]) call130 ⟨rfl, trivial⟩ (fun w hs => sl_clone hs hda (by omega)) rfl ?_
 intro v10 h2 L10 hh2 hr10
 obtain rfl := hr10
 refine w_c rfl ?_
 replace hna := hna.mono (hh1.trans hh2)
 refine s_freeze (A := [_]) (by exact hna.lt) (by simp only [List.mem_cons, List.not_mem_nil, or_false]; rintro r (rfl | rfl) _ <;> simp) ?_
 intro h3 hh3 hc1
 replace hda := hda.mono (hh2.trans hh3)
 refine s_freeze (A := []) (by exact hda.lt) (by simp only [List.mem_cons, List.not_mem_nil, or_false]; rintro r (rfl | rfl) _ <;> simp) ?_
 intro h4 hh4 hc2
 replace hc1 := hc1.mono hh4
 refine s_val (fun X => wK (ps' := [(0, _), (1, _), (2, _)]) (vs := [vB (qa.num < 0), v7, v10]) underlying30 wT rfl (qK underlying30) e6 (vD (A := []) (B := [_]) (C := [_, _]) (cs := [_]) (off := 0) (size := 1) rfl rfl rfl rfl rfl (vD (A := [_]) (B := [_]) (C := [_]) (cs := [_]) (off := 1) (size := 1) rfl rfl rfl rfl hc1.cells (vD (A := [_, _]) (B := [_]) (C := []) (cs := [_]) (off := 2) (size := 1) rfl rfl rfl rfl hc2.cells qI)))) rfl (w_t_upd (A := []) (q' := .var b2 30 [vB (qa.num < 0), v7, v10]) rfl (yA (k := 0) (cs := [_, _, _]) (vs := [_, _, _]) rfl rfl rfl (ocr rfl (ocu hc1 (ocu hc2 oc0))) zX (bL rfl)) rfl (xB (zJ (e' := [(2, _)]) ⟨rfl, trivial⟩ (zB (zQ (xQ (fun E S => yS rfl (wX (cs := [_, _, _]) mh0 underlying30 rfl zX rfl) E S) ?_))))))
 exact ⟨_, _, rfl, hc1, hc2⟩
theorem o_own_rat {w0 : World} {h0 : Mem} (hs : MLe h0 (mem w0)) {k : Nat} {va : Value} {a : Rat} (ra : (rpQ k).Is h0 va a) (hcd0 : k ≤ 10000000000)  :
    Calls Tryz.prog 111 #[va] w0 (Ret w0 h0 (fun h r => (rpQ k).Is h r a)) := by
  obtain ⟨vna, vda, rfl, hna, hda, hla⟩ := uS ra
  exact (own_rat hs hna hda (by omega) ).mono (jM fun h r x => is_q x (by omega))
theorem o_pl_axes {w0 : World} {h0 : Mem}  (hs : MLe h0 (mem w0)) {k : Nat} {vn : Value} {n : (T3 Rat)} (rn : (rpT (rpQ k)).Is h0 vn n) (hcd0 : k ≤ 1000000000)  :
    Calls Tryz.prog 65 #[vn] w0 (Ret w0 h0 (fun h r => r = .tuple #[vI (↑(axI n) : Int), vI (↑(axJ n) : Int)])) := by
 refine zM (n := 29) (e := [(0, vn)]) (vs := [vn]) func65 rfl rfl (bL rfl) hs ⟨rfl, trivial⟩ (zC (zA (zI (yU (ρ := (rpT (rpQ k))) rfl rn) rfl rfl rfl ?_)))
 intro v1 q1 hq1
 obtain ⟨b1, cs1, rfl, rfl, rb1⟩ := hq1
 refine asg (v := vI (0)) rfl rfl (asg (v := vI (0)) rfl rfl (zD (zB (zC (zC (zA (asg (v := vI (2)) rfl rfl (zD (zB (zP (kD (zC (zC ?_)))))))))))))
 refine zA (mv rfl rfl (gv (OpV.tr (by decide) (qT (q := 0) rfl rfl)) rfl (zD (zB (xZ rfl (zK (zB (zC (zP (zC (zA (mv rfl rfl (gv ((zS (q := 1) rfl rfl (by omega) (by omega)).cv (show _ = vI (3) from rfl)) rfl ?_)))))))))))))
 refine gv ((uU (q := 3) rfl rfl (by omega) (by omega)).cv (show _ = vI (0) from rfl)) rfl (mv rfl rfl (gv ((zS (q := 2) rfl rfl (by omega) (by omega)).cv (show _ = vI (4) from rfl)) rfl (gv ((uU (q := 3) rfl rfl (by omega) (by omega)).cv (show _ = vI (1) from rfl)) rfl (asg rfl rfl (asg rfl rfl (zD (zJ (e' := [(1, _), (4, _), (5, _), (6, _)]) e4z (zB (zC (zA (mv rfl rfl (gv ((zH (sz := 3) 2 underlying32 sizeOf30 rfl rfl rfl (by decide)).cv (show _ = vP b1 6 from congrArg (vP b1) (by rfl))) rfl (xX (F := fun v_ => (rpQ k).Is h0 v_ n.z) (zE xS (Pc.tz (Pc.here _)) rfl rfl rb1 rfl) (yD mh0) rfl ?_)))))))))))))
 intro v19u1 r19u1
 refine zO (vs := [_]) rfl rfl rfl rfl call101 ⟨rfl, trivial⟩ (fun w hs => o_rat_sign hs r19u1 (by omega)) ?_
 intro v20u1 h1 hh1 r20u1
 obtain rfl : v20u1 = vI (uT n.z) := r20u1
 have hsr20u1 := uE n.z
 refine zD (zB (zP (zC (zA (gv (xU (q := 1) rfl rfl) rfl (asg rfl rfl (zD (zB ?_))))))))
 refine zN rfl (fun hc21 => ?_) (fun hc21 => ?_)
 ·
  refine zC (zA (mv rfl rfl (mv rfl rfl (asg rfl rfl (asg rfl rfl (zD (zJ (e' := [(2, _), (3, _)]) e2z (zB (zQ (vC (vC (zV (zV ?_)))))))))))))
  refine vC (zV (vK rfl rfl rfl ?_))
  have e1 : axI n = 0 := by unfold axI; simp only [kB, jJ] at *; grind
  have e2 : axJ n = 1 := by unfold axJ; simp only [kB, jJ] at *; grind
  rw [e1, e2]; rfl
 refine zC (zA (gv (xU (q := -1) rfl rfl) rfl (asg rfl rfl (zD (zB ?_)))))
 refine zN rfl (fun hc25 => ?_) (fun hc25 => ?_)
 ·
  refine wJ (e' := [(5, _), (6, _)]) e2z (zC (zA (mv rfl rfl (mv rfl rfl (asg rfl rfl (asg rfl rfl (zD (zB (zQ (vC (vC (zV (zV ?_)))))))))))))
  refine vC (zV (vK rfl rfl rfl ?_))
  have e1 : axI n = 1 := by unfold axI; simp only [kB, jJ] at *; grind
  have e2 : axJ n = 0 := by unfold axJ; simp only [kB, jJ] at *; grind
  rw [e1, e2]; rfl
 refine wJ (e' := [(1, _), (4, _)]) e2z (zK (xC (xC (zB (zA (mv rfl rfl (gv ((xO (q := 1) rfl rfl (by omega) (by omega)).cv (show _ = vI (1) from rfl)) rfl (asg rfl rfl (zD (wN (zC (zC (zA ?_)))))))))))))
 refine mv rfl rfl (gv (OpV.tr (by decide) (qT (q := 0) rfl rfl)) rfl (zD (zB (xZ rfl (zK (zB (zC (zP (zC (zA (mv rfl rfl (gv ((zS (q := 1) rfl rfl (by omega) (by omega)).cv (show _ = vI (2) from rfl)) rfl (gv ((uU (q := 3) rfl rfl (by omega) (by omega)).cv (show _ = vI (2) from rfl)) rfl ?_)))))))))))))
 refine mv rfl rfl (gv ((zS (q := 2) rfl rfl (by omega) (by omega)).cv (show _ = vI (3) from rfl)) rfl (gv ((uU (q := 3) rfl rfl (by omega) (by omega)).cv (show _ = vI (0) from rfl)) rfl (asg rfl rfl (asg rfl rfl (zD (zJ (e' := [(1, _), (4, _), (5, _), (6, _)]) e4z (zB (zC (zA (mv rfl rfl (gv ((zH (sz := 3) 1 underlying32 sizeOf30 rfl rfl rfl (by decide)).cv (show _ = vP b1 3 from congrArg (vP b1) (by rfl))) rfl ?_)))))))))))
 replace rb1 := rb1.mono hh1
 refine xX (F := fun v_ => (rpQ k).Is h1 v_ n.y) (zE xS (Pc.ty (Pc.here _)) rfl rfl rb1 rfl) (yD mh0) rfl ?_
 intro v19u2 r19u2
 refine zO (vs := [_]) rfl rfl rfl rfl call101 ⟨rfl, trivial⟩ (fun w hs => o_rat_sign hs r19u2 (by omega)) ?_
 intro v20u2 h2 hh2 r20u2
 obtain rfl : v20u2 = vI (uT n.y) := r20u2
 have hsr20u2 := uE n.y
 refine zD (zB (zP (zC (zA (gv (xU (q := 1) rfl rfl) rfl (asg rfl rfl (zD (zB ?_))))))))
 refine zN rfl (fun hc21 => ?_) (fun hc21 => ?_)
 ·
  refine zC (zA (mv rfl rfl (mv rfl rfl (asg rfl rfl (asg rfl rfl (zD (zJ (e' := [(2, _), (3, _)]) e2z (zB (zQ (vC (vC (zV (zV ?_)))))))))))))
  refine vC (zV (vK rfl rfl rfl ?_))
  have e1 : axI n = 2 := by unfold axI; simp only [kB, jJ] at *; grind
  have e2 : axJ n = 0 := by unfold axJ; simp only [kB, jJ] at *; grind
  rw [e1, e2]; rfl
 refine zC (zA (gv (xU (q := -1) rfl rfl) rfl (asg rfl rfl (zD (zB ?_)))))
 refine zN rfl (fun hc25 => ?_) (fun hc25 => ?_)
 ·
  refine wJ (e' := [(5, _), (6, _)]) e2z (zC (zA (mv rfl rfl (mv rfl rfl (asg rfl rfl (asg rfl rfl (zD (zB (zQ (vC (vC (zV (zV ?_)))))))))))))
  refine vC (zV (vK rfl rfl rfl ?_))
  have e1 : axI n = 0 := by unfold axI; simp only [kB, jJ] at *; grind
  have e2 : axJ n = 2 := by unfold axJ; simp only [kB, jJ] at *; grind
  rw [e1, e2]; rfl
 refine wJ (e' := [(1, _), (4, _)]) e2z (zK (xC (xC (zB (zA (mv rfl rfl (gv ((xO (q := 1) rfl rfl (by omega) (by omega)).cv (show _ = vI (0) from rfl)) rfl (asg rfl rfl (zD (wN (zC (zC (zA ?_)))))))))))))
 refine mv rfl rfl (gv (OpV.tr (by decide) (qT (q := 0) rfl rfl)) rfl (zD (zB (xZ rfl (zK (zB (zC (zP (zC (zA (mv rfl rfl (gv ((zS (q := 1) rfl rfl (by omega) (by omega)).cv (show _ = vI (1) from rfl)) rfl (gv ((uU (q := 3) rfl rfl (by omega) (by omega)).cv (show _ = vI (1) from rfl)) rfl ?_)))))))))))))
 refine mv rfl rfl (gv ((zS (q := 2) rfl rfl (by omega) (by omega)).cv (show _ = vI (2) from rfl)) rfl (gv ((uU (q := 3) rfl rfl (by omega) (by omega)).cv (show _ = vI (2) from rfl)) rfl (asg rfl rfl (asg rfl rfl (zD (zJ (e' := [(1, _), (4, _), (5, _), (6, _)]) e4z (zB (zC (zA (mv rfl rfl (gv ((zH (sz := 3) 0 underlying32 sizeOf30 rfl rfl rfl (by decide)).cv (show _ = vP b1 0 from congrArg (vP b1) (by rfl))) rfl ?_)))))))))))
 replace rb1 := rb1.mono hh2
 refine xX (F := fun v_ => (rpQ k).Is h2 v_ n.x) (zE xS (Pc.tx (Pc.here _)) rfl rfl rb1 rfl) (yD mh0) rfl ?_
 intro v19u3 r19u3
 refine zO (vs := [_]) rfl rfl rfl rfl call101 ⟨rfl, trivial⟩ (fun w hs => o_rat_sign hs r19u3 (by omega)) ?_
 intro v20u3 h3 hh3 r20u3
 obtain rfl : v20u3 = vI (uT n.x) := r20u3
 have hsr20u3 := uE n.x
 refine zD (zB (zP (zC (zA (gv (xU (q := 1) rfl rfl) rfl (asg rfl rfl (zD (zB ?_))))))))
 refine zN rfl (fun hc21 => ?_) (fun hc21 => ?_)
 ·
  refine zC (zA (mv rfl rfl (mv rfl rfl (asg rfl rfl (asg rfl rfl (zD (zJ (e' := [(2, _), (3, _)]) e2z (zB (zQ (vC (vC (zV (zV ?_)))))))))))))
  refine vC (zV (vK rfl rfl rfl ?_))
  have e1 : axI n = 1 := by unfold axI; simp only [kB, jJ] at *; grind
  have e2 : axJ n = 2 := by unfold axJ; simp only [kB, jJ] at *; grind
  rw [e1, e2]; rfl
 refine zC (zA (gv (xU (q := -1) rfl rfl) rfl (asg rfl rfl (zD (zB ?_)))))
 refine zN rfl (fun hc25 => ?_) (fun hc25 => ?_)
 ·
  refine wJ (e' := [(5, _), (6, _)]) e2z (zC (zA (mv rfl rfl (mv rfl rfl (asg rfl rfl (asg rfl rfl (zD (zB (zQ (vC (vC (zV (zV ?_)))))))))))))
  refine vC (zV (vK rfl rfl rfl ?_))
  have e1 : axI n = 2 := by unfold axI; simp only [kB, jJ] at *; grind
  have e2 : axJ n = 1 := by unfold axJ; simp only [kB, jJ] at *; grind
  rw [e1, e2]; rfl
 refine wJ (e' := [(1, _), (4, _)]) e2z (zK (xC (xC (zB (zA (mv rfl rfl (gv ((xO (q := 1) rfl rfl (by omega) (by omega)).cv (show _ = vI (-1) from rfl)) rfl (asg rfl rfl (zD (wN (zC (zC (zA ?_)))))))))))))
 refine mv rfl rfl (gv (OpV.fa (by decide) (qT (q := 0) rfl rfl)) rfl (zD (zB (qQ rfl (xG (yB (yB (xF (zB (zC (zA (asg (v := vI (1)) rfl rfl (asg (v := vI (2)) rfl rfl ?_)))))))))))))
 refine zD (zB (zQ (vK rfl rfl rfl ?_)))
 have e1 : axI n = 1 := by unfold axI; simp only [kB, jJ] at *; grind
 have e2 : axJ n = 2 := by unfold axJ; simp only [kB, jJ] at *; grind
 rw [e1, e2]; rfl
theorem o_r4_same {w0 : World} {h0 : Mem}  (hs : MLe h0 (mem w0)) {k l : Nat} {va : Value} {a : (T3 Rat)} (ra : (rpT (rpQ k)).Is h0 va a) {vb : Value} {b : (T3 Rat)} (rb : (rpT (rpQ l)).Is h0 vb b) (hcd0 : k + l ≤ 1000000000)  :
    Calls Tryz.prog 29 #[va, vb] w0 (Ret w0 h0 (fun _ r => r = vB (a = b))) := by
 refine zM (n := 24) (e := [(0, va), (1, vb)]) (vs := [va, vb]) func29 rfl rfl (bL rfl) hs e2z (zC (zA (zI (yU (ρ := (rpT (rpQ k))) rfl ra) rfl rfl rfl ?_)))
 intro v2 q2 hq2
 obtain ⟨b2, cs2, rfl, rfl, rb2⟩ := hq2
 refine zI (yU (ρ := (rpT (rpQ l))) rfl rb) rfl rfl rfl ?_
 intro v3 q3 hq3
 obtain ⟨b3, cs3, rfl, rfl, rb3⟩ := hq3
 refine asg rfl rfl (zD (zB (zC (zA (gv ((zH (sz := 3) (q := 0) 0 underlying32 sizeOf30 rfl rfl rfl (by decide)).cv (show _ = vP b2 0 from congrArg (vP b2) (by rfl))) rfl (xX (F := fun v_ => (rpQ k).Is h0 v_ a.x) (zE xS (Pc.tx (Pc.here _)) rfl rfl rb2 rfl) (yD mh1) rfl ?_))))))
 intro v6 r6
 refine gv ((zH (sz := 3) (q := 0) 0 underlying32 sizeOf30 rfl rfl rfl (by decide)).cv (show _ = vP b3 0 from congrArg (vP b3) (by rfl))) rfl (xX (F := fun v_ => (rpQ l).Is h0 v_ b.x) (zE xS (Pc.tx (Pc.here _)) rfl rfl rb3 rfl) (yD mh0) rfl ?_)
 intro v8 r8
 refine zO (vs := [_, _]) rfl rfl rfl rfl call62 e2z (fun w hs => o_rref_same hs r6 r8 (by omega)) ?_
 intro v9 h1 hh1 r9
 obtain rfl : v9 = vB (a.x = b.x) := r9
 refine vY (ι := Mem) 7 (fun m_ => MLe h1 m_) (fun _ => [(16, vB ((a.x = b.x) ∧ (a.y = b.y))), (2, vP b2 0), (3, vP b3 0)]) (fun _ => [.var b3 32 cs3, .var b2 32 cs2]) (fun m_ => m_) ?_ ?_
 ·
  refine wL (a.x = b.x) (fun hg => ?_) (fun hg => ?_)
  ·
   refine xE (yO (v := .bool true) (congrArg some (xL hg))) rfl rfl rfl (yY rfl rfl rfl (gv ((zH (sz := 3) (q := 1) 1 underlying32 sizeOf30 rfl rfl rfl (by decide)).cv (show _ = vP b2 3 from congrArg (vP b2) (by rfl))) rfl (yY rfl rfl rfl ?_)))
   replace rb2 := rb2.mono hh1
   refine xX (F := fun v_ => (rpQ k).Is h1 v_ a.y) (zE xS (Pc.ty (Pc.here _)) rfl rfl rb2 rfl) (yD mh1) rfl ?_
   intro v12 r12
   refine yY rfl rfl rfl (gv ((zH (sz := 3) (q := 1) 1 underlying32 sizeOf30 rfl rfl rfl (by decide)).cv (show _ = vP b3 3 from congrArg (vP b3) (by rfl))) rfl (yY rfl rfl rfl ?_))
   replace rb3 := rb3.mono hh1
   refine xX (F := fun v_ => (rpQ l).Is h1 v_ b.y) (zE xS (Pc.ty (Pc.here _)) rfl rfl rb3 rfl) (yD mh0) rfl ?_
   intro v14 r14
   refine yY rfl rfl rfl ?_
   refine zO (vs := [_, _]) rfl rfl rfl rfl call62 e2z (fun w hs => o_rref_same hs r12 r14 (by omega)) ?_
   intro v15 h2 hh2 r15
   obtain rfl : v15 = vB (a.y = b.y) := r15
   refine gv (xM rfl rfl) rfl (zD ?_)
   refine yM h2 hh2 ⟨?_, rfl, rfl, trivial⟩ rfl rfl
   exact congrArg some (uC hg)
  refine xE (yO (v := .bool false) (congrArg some (yX hg))) rfl rfl rfl (yI rfl rfl rfl rfl rfl rfl (yI rfl rfl rfl rfl rfl rfl (yI rfl rfl rfl rfl rfl rfl (yI rfl rfl rfl rfl rfl rfl (yI rfl rfl rfl rfl rfl rfl (gv (xW rfl rfl) rfl (zD ?_)))))))
  refine yM h1 (MLe.refl _) ⟨?_, rfl, rfl, trivial⟩ rfl rfl
  exact congrArg some (uD hg)
 intro mg1_5 hmmg1_5
 show GL _ _ _ _ _ _ _ [(16, vB ((a.x = b.x) ∧ (a.y = b.y))), (2, vP b2 0), (3, vP b3 0)] [.var b3 32 cs3, .var b2 32 cs2] mg1_5
 refine vY (ι := Mem) 7 (fun m_ => MLe mg1_5 m_) (fun _ => [(23, vB (((a.x = b.x) ∧ (a.y = b.y)) ∧ (a.z = b.z)))]) (fun _ => [.var b3 32 cs3, .var b2 32 cs2]) (fun m_ => m_) ?_ ?_
 ·
  refine wL ((a.x = b.x) ∧ (a.y = b.y)) (fun hg => ?_) (fun hg => ?_)
  ·
   refine xE (yO (v := .bool true) (congrArg some (xL hg))) rfl rfl rfl (yY rfl rfl rfl (gv ((zH (sz := 3) (q := 2) 2 underlying32 sizeOf30 rfl rfl rfl (by decide)).cv (show _ = vP b2 6 from congrArg (vP b2) (by rfl))) rfl (yY rfl rfl rfl ?_)))
   replace rb2 := rb2.mono (hh1.trans hmmg1_5)
   refine xX (F := fun v_ => (rpQ k).Is mg1_5 v_ a.z) (zE xS (Pc.tz (Pc.here _)) rfl rfl rb2 rfl) (yD mh1) rfl ?_
   intro v19 r19
   refine yY rfl rfl rfl (gv ((zH (sz := 3) (q := 2) 2 underlying32 sizeOf30 rfl rfl rfl (by decide)).cv (show _ = vP b3 6 from congrArg (vP b3) (by rfl))) rfl (yY rfl rfl rfl ?_))
   replace rb3 := rb3.mono (hh1.trans hmmg1_5)
   refine xX (F := fun v_ => (rpQ l).Is mg1_5 v_ b.z) (zE xS (Pc.tz (Pc.here _)) rfl rfl rb3 rfl) (yD mh0) rfl ?_
   intro v21 r21
   refine yY rfl rfl rfl ?_
   refine zO (vs := [_, _]) rfl rfl rfl rfl call62 e2z (fun w hs => o_rref_same hs r19 r21 (by omega)) ?_
   intro v22 h2 hh2 r22
   obtain rfl : v22 = vB (a.z = b.z) := r22
   refine gv (xM rfl rfl) rfl (zD ?_)
   refine yM h2 hh2 ⟨?_, trivial⟩ rfl rfl
   exact congrArg some (uC hg)
  refine xE (yO (v := .bool false) (congrArg some (yX hg))) rfl rfl rfl (yI rfl rfl rfl rfl rfl rfl (yI rfl rfl rfl rfl rfl rfl (yI rfl rfl rfl rfl rfl rfl (yI rfl rfl rfl rfl rfl rfl (yI rfl rfl rfl rfl rfl rfl (gv (xW rfl rfl) rfl (zD ?_)))))))
  refine yM mg1_5 (MLe.refl _) ⟨?_, trivial⟩ rfl rfl
  exact congrArg some (uD hg)
 intro mg1_12 hmmg1_12
 show GL _ _ _ _ _ _ _ [(23, vB (((a.x = b.x) ∧ (a.y = b.y)) ∧ (a.z = b.z)))] [.var b3 32 cs3, .var b2 32 cs2] mg1_12
 refine asg rfl rfl (zD (zB (zQ (yC rfl rfl ?_))))
 first | exact vB_iff (by rw [t3_eq]; grind) | exact (xL (by rw [t3_eq]; grind)).symm | exact (yX (by rw [t3_eq]; grind)).symm
theorem o_r4_zero {w0 : World} {h0 : Mem}  (hs : MLe h0 (mem w0)) {k : Nat} {va : Value} {a : (T3 Rat)} (ra : (rpT (rpQ k)).Is h0 va a) (hcd0 : k ≤ 1000000)  :
    Calls Tryz.prog 41 #[va] w0 (Ret w0 h0 (fun _ r => r = vB (a = zT))) := by
 refine zM (n := 6) (e := [(0, va)]) (vs := [va]) func41 rfl rfl (bL rfl) hs ⟨rfl, trivial⟩ (zC (zA (zI (yU (ρ := (rpT (rpQ k))) rfl ra) rfl rfl rfl ?_)))
 intro v1 q1 hq1
 obtain ⟨b1, cs1, rfl, rfl, rb1⟩ := hq1
 refine asg rfl rfl (zD (zB (zC (zA (xX (F := fun v_ => (rpT (rpQ k)).Is h0 v_ a) (zE xJ (Pc.here _) rfl rfl rb1 rfl) (yD mh0) rfl ?_)))))
 intro v3 r3
 refine xX (F := fun v_ => (rpT (rpQ 1)).Is h0 v_ zT) (wP (ps' := []) underlying32 yL rfl rfl sizeOf30 trivial rfl (wO (wB (by decide))) wH) vQ rfl ?_
 intro v4 r4
 refine zO (vs := [_, _]) rfl rfl rfl rfl call29 e2z (fun w hs => o_r4_same hs r3 r4 (by omega)) ?_
 intro v5 h1 hh1 r5
 obtain rfl : v5 = vB (a = zT) := r5
 refine asg rfl rfl (zD (zB (zQ (yC rfl rfl ?_))))
 rfl
theorem o_r4_dot {w0 : World} {h0 : Mem}  (hs : MLe h0 (mem w0)) {k l : Nat} {va : Value} {a : (T3 Rat)} (ra : (rpT (rpQ k)).Is h0 va a) {vb : Value} {b : (T3 Rat)} (rb : (rpT (rpQ l)).Is h0 vb b) (hcd0 : k + l ≤ 1000000000)  :
    Calls Tryz.prog 57 #[va, vb] w0 (Ret w0 h0 (fun h r => (rpQ (3 * k + 3 * l + 9)).Is h r (wR a b))) := by
 refine zM (n := 21) (e := [(0, va), (1, vb)]) (vs := [va, vb]) func57 rfl rfl (bL rfl) hs e2z (zC (zA (zI (yU (ρ := (rpT (rpQ k))) rfl ra) rfl rfl rfl ?_)))
 intro v2 q2 hq2
 obtain ⟨b2, cs2, rfl, rfl, rb2⟩ := hq2
 refine zI (yU (ρ := (rpT (rpQ l))) rfl rb) rfl rfl rfl ?_
 intro v3 q3 hq3
 obtain ⟨b3, cs3, rfl, rfl, rb3⟩ := hq3
 refine zI (yR (ρ := (rpQ (3 * k + 3 * l + 9))) (X := (0 : Rat)) wT rfl rfl (wB (by omega))) rfl rfl rfl ?_
 intro v4 q4 hq4
 obtain ⟨b4, cs4, rfl, rfl, rb4⟩ := hq4
 refine zD (zB (zC (zA (zI (yR (ρ := (rpQ 1)) (X := (0 : Rat)) wT rfl rfl (wB (by decide))) rfl rfl rfl ?_))))
 intro v5 q5 hq5
 obtain ⟨b5, cs5, rfl, rfl, rb5⟩ := hq5
 refine zD (zB (zC (zC (zA (asg (v := vI (0)) rfl rfl (zD (zB (zP (kD (zC (zC (zA (mv rfl rfl ?_)))))))))))))
 refine gv (OpV.tr (by decide) (zW (q := 3) rfl rfl)) rfl (zD (zB (xZ rfl (zK (zB (zC (zP ?_)))))))
 refine yF 9 _ [] [(0, .q), (1, .q), (2, .q), (3, .q), (4, .q), (5, .q), (6, .q), (7, .c), (8, .c), (9, .t)] xH nX (by kernel_rfl) nX (fun r hr => hr) (yP (F := fun v_ => (rpQ 1).Is h0 v_ (0 : Rat)) rfl (zE xS (Pc.here _) rfl rfl rb5 rfl) (yD mh0) rfl ?_)
 intro v11u5 r11u5
 refine yH rfl rfl rfl (yK rfl (fun _ _ => (zH (sz := 3) 0 underlying32 sizeOf30 rfl rfl rfl (by decide)).cv (show _ = vP b2 0 from congrArg (vP b2) (by rfl))) rfl (yP (F := fun v_ => (rpQ k).Is h0 v_ a.x) rfl (zE xS (Pc.tx (Pc.here _)) rfl rfl rb2 rfl) (yD mh3) rfl ?_))
 intro v14u5 r14u5
 refine yH rfl rfl rfl (yK rfl (fun _ _ => (zH (sz := 3) 0 underlying32 sizeOf30 rfl rfl rfl (by decide)).cv (show _ = vP b3 0 from congrArg (vP b3) (by rfl))) rfl (yP (F := fun v_ => (rpQ l).Is h0 v_ b.x) rfl (zE xS (Pc.tx (Pc.here _)) rfl rfl rb3 rfl) (yD mh2) rfl ?_))
 intro v17u5 r17u5
 refine w_c rfl ?_
 refine zY (vs := [_, _]) call54 e2z (fun w hs => jH hs r14u5 r17u5 (by omega)) rfl ?_
 intro v18u5 h1 hh1 r18u5
 change (rpQ (k + l)).Is h1 v18u5 (a.x * b.x) at r18u5
 refine w_c rfl ?_
 replace r11u5 := r11u5.mono hh1
 refine zY (vs := [_, _]) call53 e2z (fun w hs => o_rref_add hs r11u5 r18u5 (by omega)) rfl ?_
 intro v19u5 h2 hh2 r19u5
 change (rpQ (1 + (k + l) + 1)).Is h2 v19u5 ((0 : Rat) + (a.x * b.x)) at r19u5
 replace r19u5 := Rp.Is.le r19u5 (Le.q (l := k + l + 2) (by omega))
 replace rb5 := rb5.mono (hh1.trans hh2)
 have rw_19 := (Le.q (l := k + l + 2) (by omega)).R rb5
 refine xR (A := []) (F := fun c_ => (rpQ (k + l + 2)).R h2 c_ ((0 : Rat) + (a.x * b.x))) rfl (yJ sizeOf30 (Pc.here _) rfl rfl rfl rw_19 r19u5 rfl) ?_
 intro cs_20 rb_21
 refine xB (xC (zJ (e' := [(2, _), (3, _), (4, _), (5, _), (6, _)]) e5z (zB (zA (mv rfl rfl (gv ((zS (q := 1) rfl rfl (by omega) (by omega)).cv (show _ = vI (1) from rfl)) rfl (asg rfl rfl (zD (wN (zC (zC (zA (mv rfl rfl ?_)))))))))))))
 refine gv (OpV.tr (by decide) (zW (q := 3) rfl rfl)) rfl (zD (zB (xZ rfl (zK (zB (zC (zP ?_)))))))
 refine yF 9 _ [] [(0, .q), (1, .q), (2, .q), (3, .q), (4, .q), (5, .q), (6, .q), (7, .c), (8, .c), (9, .t)] xH nX (by kernel_rfl) nX (fun r hr => hr) (yP (F := fun v_ => (rpQ (k + l + 2)).Is h2 v_ ((0 : Rat) + (a.x * b.x))) rfl (zE xS (Pc.here _) rfl rfl rb_21 rfl) (yD mh0) rfl ?_)
 intro v11u6 r11u6
 refine yH rfl rfl rfl (yK rfl (fun _ _ => (zH (sz := 3) 1 underlying32 sizeOf30 rfl rfl rfl (by decide)).cv (show _ = vP b2 3 from congrArg (vP b2) (by rfl))) rfl ?_)
 replace rb2 := rb2.mono (hh1.trans hh2)
 refine yP (F := fun v_ => (rpQ k).Is h2 v_ a.y) rfl (zE xS (Pc.ty (Pc.here _)) rfl rfl rb2 rfl) (yD mh3) rfl ?_
 intro v14u6 r14u6
 refine yH rfl rfl rfl (yK rfl (fun _ _ => (zH (sz := 3) 1 underlying32 sizeOf30 rfl rfl rfl (by decide)).cv (show _ = vP b3 3 from congrArg (vP b3) (by rfl))) rfl ?_)
 replace rb3 := rb3.mono (hh1.trans hh2)
 refine yP (F := fun v_ => (rpQ l).Is h2 v_ b.y) rfl (zE xS (Pc.ty (Pc.here _)) rfl rfl rb3 rfl) (yD mh2) rfl ?_
 intro v17u6 r17u6
 refine w_c rfl ?_
 refine zY (vs := [_, _]) call54 e2z (fun w hs => jH hs r14u6 r17u6 (by omega)) rfl ?_
 intro v18u6 h3 hh3 r18u6
 change (rpQ (k + l)).Is h3 v18u6 (a.y * b.y) at r18u6
 refine w_c rfl ?_
 replace r11u6 := r11u6.mono hh3
 refine zY (vs := [_, _]) call53 e2z (fun w hs => o_rref_add hs r11u6 r18u6 (by omega)) rfl ?_
 intro v19u6 h4 hh4 r19u6
 change (rpQ ((k + l + 2) + (k + l) + 1)).Is h4 v19u6 (((0 : Rat) + (a.x * b.x)) + (a.y * b.y)) at r19u6
 replace r19u6 := Rp.Is.le r19u6 (Le.q (l := 2 * k + 2 * l + 3) (by omega))
 replace rb_21 := rb_21.mono (hh3.trans hh4)
 have rw_22 := (Le.q (l := 2 * k + 2 * l + 3) (by omega)).R rb_21
 refine xR (A := []) (F := fun c_ => (rpQ (2 * k + 2 * l + 3)).R h4 c_ (((0 : Rat) + (a.x * b.x)) + (a.y * b.y))) rfl (yJ sizeOf30 (Pc.here _) rfl rfl rfl rw_22 r19u6 rfl) ?_
 intro cs_23 rb_24
 refine xB (xC (zJ (e' := [(2, _), (3, _), (4, _), (5, _), (6, _)]) e5z (zB (zA (mv rfl rfl (gv ((zS (q := 1) rfl rfl (by omega) (by omega)).cv (show _ = vI (2) from rfl)) rfl (asg rfl rfl (zD (wN (zC (zC (zA (mv rfl rfl ?_)))))))))))))
 refine gv (OpV.tr (by decide) (zW (q := 3) rfl rfl)) rfl (zD (zB (xZ rfl (zK (zB (zC (zP ?_)))))))
 refine yF 9 _ [] [(0, .q), (1, .q), (2, .q), (3, .q), (4, .q), (5, .q), (6, .q), (7, .c), (8, .c), (9, .t)] xH nX (by kernel_rfl) nX (fun r hr => hr) (yP (F := fun v_ => (rpQ (2 * k + 2 * l + 3)).Is h4 v_ (((0 : Rat) + (a.x * b.x)) + (a.y * b.y))) rfl (zE xS (Pc.here _) rfl rfl rb_24 rfl) (yD mh0) rfl ?_)
 intro v11u7 r11u7
 refine yH rfl rfl rfl (yK rfl (fun _ _ => (zH (sz := 3) 2 underlying32 sizeOf30 rfl rfl rfl (by decide)).cv (show _ = vP b2 6 from congrArg (vP b2) (by rfl))) rfl ?_)
 replace rb2 := rb2.mono (hh3.trans hh4)
 refine yP (F := fun v_ => (rpQ k).Is h4 v_ a.z) rfl (zE xS (Pc.tz (Pc.here _)) rfl rfl rb2 rfl) (yD mh3) rfl ?_
 intro v14u7 r14u7
 refine yH rfl rfl rfl (yK rfl (fun _ _ => (zH (sz := 3) 2 underlying32 sizeOf30 rfl rfl rfl (by decide)).cv (show _ = vP b3 6 from congrArg (vP b3) (by rfl))) rfl ?_)
 replace rb3 := rb3.mono (hh3.trans hh4)
 refine yP (F := fun v_ => (rpQ l).Is h4 v_ b.z) rfl (zE xS (Pc.tz (Pc.here _)) rfl rfl rb3 rfl) (yD mh2) rfl ?_
 intro v17u7 r17u7
 refine w_c rfl ?_
 refine zY (vs := [_, _]) call54 e2z (fun w hs => jH hs r14u7 r17u7 (by omega)) rfl ?_
 intro v18u7 h5 hh5 r18u7
 change (rpQ (k + l)).Is h5 v18u7 (a.z * b.z) at r18u7
 refine w_c rfl ?_
 replace r11u7 := r11u7.mono hh5
 refine zY (vs := [_, _]) call53 e2z (fun w hs => o_rref_add hs r11u7 r18u7 (by omega)) rfl ?_
 intro v19u7 h6 hh6 r19u7
 change (rpQ ((2 * k + 2 * l + 3) + (k + l) + 1)).Is h6 v19u7 ((((0 : Rat) + (a.x * b.x)) + (a.y * b.y)) + (a.z * b.z)) at r19u7
 replace r19u7 := Rp.Is.le r19u7 (Le.q (l := 3 * k + 3 * l + 4) (by omega))
 replace rb_24 := rb_24.mono (hh5.trans hh6)
 have rw_25 := (Le.q (l := 3 * k + 3 * l + 4) (by omega)).R rb_24
 refine xR (A := []) (F := fun c_ => (rpQ (3 * k + 3 * l + 4)).R h6 c_ ((((0 : Rat) + (a.x * b.x)) + (a.y * b.y)) + (a.z * b.z))) rfl (yJ sizeOf30 (Pc.here _) rfl rfl rfl rw_25 r19u7 rfl) ?_
 intro cs_26 rb_27
 refine xB (xC (zJ (e' := [(2, _), (3, _), (4, _), (5, _), (6, _)]) e5z (zB (zA (mv rfl rfl (gv ((zS (q := 1) rfl rfl (by omega) (by omega)).cv (show _ = vI (3) from rfl)) rfl (asg rfl rfl (zD (wN (zC (zC (zA (mv rfl rfl ?_)))))))))))))
 refine gv (OpV.fa (by decide) (zW (q := 3) rfl rfl)) rfl (zD (zB (qQ rfl (xG (yB (yB (xF (zB (zC (zA (xX (F := fun v_ => (rpQ (3 * k + 3 * l + 4)).Is h6 v_ ((((0 : Rat) + (a.x * b.x)) + (a.y * b.y)) + (a.z * b.z))) (zE xS (Pc.here _) rfl rfl rb_27 rfl) (yD mh0) rfl ?_)))))))))))
 intro v20u8 r20u8
 replace rb4 := rb4.mono (((((hh1.trans hh2).trans hh3).trans hh4).trans hh5).trans hh6)
 refine wW (A := [_]) (F := fun c_ => (rpQ (3 * k + 3 * l + 9)).R h6 c_ ((((0 : Rat) + (a.x * b.x)) + (a.y * b.y)) + (a.z * b.z))) (yJ sizeOf30 (Pc.here _) rfl rfl rfl rb4 (r20u8.le (Le.q (l := 3 * k + 3 * l + 9) (by omega))) rfl) ?_
 intro cs_28 rb_29
 refine zD (zB (zQ (uZ (rv_o (t := 4) xS mh1 rfl rb_29) ?_)))
 intro w_30 hvw_30 rr_31
 refine xQ (fun E S => yS rfl hvw_30 E S) ?_
 exact (Rp.Is.cast rr_31 (by unfold wR; grind))
theorem o_r4_cross {w0 : World} {h0 : Mem}  (hs : MLe h0 (mem w0)) {k l : Nat} {va : Value} {a : (T3 Rat)} (ra : (rpT (rpQ k)).Is h0 va a) {vb : Value} {b : (T3 Rat)} (rb : (rpT (rpQ l)).Is h0 vb b) (hcd0 : k + l ≤ 1000000000)  :
    Calls Tryz.prog 61 #[va, vb] w0 (Ret w0 h0 (fun h r => (rpT (rpQ (2 * k + 2 * l + 3))).Is h r (yW a b))) := by
 refine zM (n := 37) (e := [(0, va), (1, vb)]) (vs := [va, vb]) func61 rfl rfl (bL rfl) hs e2z (zC (zA (zI (yU (ρ := (rpT (rpQ k))) rfl ra) rfl rfl rfl ?_)))
 intro v2 q2 hq2
 obtain ⟨b2, cs2, rfl, rfl, rb2⟩ := hq2
 refine zI (yU (ρ := (rpT (rpQ l))) rfl rb) rfl rfl rfl ?_
 intro v3 q3 hq3
 obtain ⟨b3, cs3, rfl, rfl, rb3⟩ := hq3
 refine zI (yR (ρ := (rpT (rpQ (2 * k + 2 * l + 3)))) (X := zT) yL rfl rfl (wO (wB (by omega)))) rfl rfl rfl ?_
 intro v4 q4 hq4
 obtain ⟨b4, cs4, rfl, rfl, rb4⟩ := hq4
 refine zD (zB (zC (zA (zI (yR (ρ := (rpT (rpQ (2 * k + 2 * l + 3)))) (X := zT) yL rfl rfl (wO (wB (by omega)))) rfl rfl rfl ?_))))
 intro v5 q5 hq5
 obtain ⟨b5, cs5, rfl, rfl, rb5⟩ := hq5
 refine zD (zB (zC (zC (zA (asg (v := vI (0)) rfl rfl (zD (zB (zP (kD (zC (zC (zA (mv rfl rfl ?_)))))))))))))
 refine gv (OpV.tr (by decide) (zW (q := 3) rfl rfl)) rfl (zD (zB (xZ rfl (zK (zB (zC (zP (zC (zA (mv rfl rfl (gv ((zS (q := 1) rfl rfl (by omega) (by omega)).cv (show _ = vI (1) from rfl)) rfl (gv ((uU (q := 3) rfl rfl (by omega) (by omega)).cv (show _ = vI (1) from rfl)) rfl (mv rfl rfl ?_)))))))))))))
 refine gv ((zS (q := 2) rfl rfl (by omega) (by omega)).cv (show _ = vI (2) from rfl)) rfl (gv ((uU (q := 3) rfl rfl (by omega) (by omega)).cv (show _ = vI (2) from rfl)) rfl (asg rfl rfl (asg rfl rfl (zD (zJ (e' := [(2, _), (3, _), (4, _), (5, _), (6, _), (7, _), (8, _)]) e7 (zB ?_))))))
 refine yF 17 _ [] [(0, .q), (1, .q), (2, .q), (3, .q), (4, .q), (5, .q), (6, .q), (8, .q), (9, .q), (10, .q), (11, .q), (12, .q), (13, .q), (7, .c), (14, .c), (15, .c), (16, .q), (17, .t)] xH nX (chk_of [0, 0, 2, 4, 0, 16, 32, 72, 0, 256, 512, 0, 2048, 4096, 9344, 16512, 65535, 131071] [262143, 262143, 262141, 262139, 262143, 262127, 262111, 262071, 262143, 261887, 261631, 262143, 260095, 258047, 252927, 245631, 262142, 163839] (by kernel_rfl)) nX (fun r hr => hr) (yH rfl rfl rfl (yH rfl rfl rfl (yK rfl (fun _ _ => (zH (sz := 3) 1 underlying32 sizeOf30 rfl rfl rfl (by decide)).cv (show _ = vP b2 3 from congrArg (vP b2) (by rfl))) rfl (yP (F := fun v_ => (rpQ k).Is h0 v_ a.y) rfl (zE xS (Pc.ty (Pc.here _)) rfl rfl rb2 rfl) (yD mh3) rfl ?_))))
 intro v22u9 r22u9
 refine yH rfl rfl rfl (yK rfl (fun _ _ => (zH (sz := 3) 2 underlying32 sizeOf30 rfl rfl rfl (by decide)).cv (show _ = vP b3 6 from congrArg (vP b3) (by rfl))) rfl (yP (F := fun v_ => (rpQ l).Is h0 v_ b.z) rfl (zE xS (Pc.tz (Pc.here _)) rfl rfl rb3 rfl) (yD mh2) rfl ?_))
 intro v25u9 r25u9
 refine yH rfl rfl rfl (yK rfl (fun _ _ => (zH (sz := 3) 2 underlying32 sizeOf30 rfl rfl rfl (by decide)).cv (show _ = vP b2 6 from congrArg (vP b2) (by rfl))) rfl (yP (F := fun v_ => (rpQ k).Is h0 v_ a.z) rfl (zE xS (Pc.tz (Pc.here _)) rfl rfl rb2 rfl) (yD mh3) rfl ?_))
 intro v29u9 r29u9
 refine yH rfl rfl rfl (yK rfl (fun _ _ => (zH (sz := 3) 1 underlying32 sizeOf30 rfl rfl rfl (by decide)).cv (show _ = vP b3 3 from congrArg (vP b3) (by rfl))) rfl (yP (F := fun v_ => (rpQ l).Is h0 v_ b.y) rfl (zE xS (Pc.ty (Pc.here _)) rfl rfl rb3 rfl) (yD mh2) rfl ?_))
 intro v32u9 r32u9
 refine w_c rfl ?_
 refine zY (vs := [_, _]) call54 e2z (fun w hs => jH hs r22u9 r25u9 (by omega)) rfl ?_
 intro v26u9 h1 hh1 r26u9
 change (rpQ (k + l)).Is h1 v26u9 (a.y * b.z) at r26u9
 refine w_c rfl ?_
 replace r29u9 := r29u9.mono hh1
 replace r32u9 := r32u9.mono hh1
 refine zY (vs := [_, _]) call54 e2z (fun w hs => jH hs r29u9 r32u9 (by omega)) rfl ?_
 intro v33u9 h2 hh2 r33u9
 change (rpQ (k + l)).Is h2 v33u9 (a.z * b.y) at r33u9
 refine w_c rfl ?_
 replace r26u9 := r26u9.mono hh2
 refine zY (vs := [_, _]) call56 e2z (fun w hs => jG hs r26u9 r33u9 (by omega)) rfl ?_
 intro v34u9 h3 hh3 r34u9
 change (rpQ ((k + l) + (k + l) + 1)).Is h3 v34u9 ((a.y * b.z) - (a.z * b.y)) at r34u9
 replace r34u9 := Rp.Is.le r34u9 (Le.q (l := 2 * k + 2 * l + 1) (by omega))
 refine yK rfl (fun _ _ => (zH (sz := 3) 0 underlying32 sizeOf30 rfl rfl rfl (by decide)).cv (show _ = vP b5 0 from congrArg (vP b5) (by rfl))) rfl ?_
 replace rb5 := rb5.mono ((hh1.trans hh2).trans hh3)
 refine xR (A := []) (F := fun c_ => (rpT (rpQ (2 * k + 2 * l + 3))).R h3 c_ (T3.mk ((a.y * b.z) - (a.z * b.y)) (0 : Rat) (0 : Rat))) rfl (yJ sizeOf30 (Pc.tx (Pc.here _)) rfl rfl rfl rb5 (r34u9.le (Le.q (l := 2 * k + 2 * l + 3) (by omega))) rfl) ?_
 intro cs_32 rb_33
 refine xB (xC (zJ (e' := [(2, _), (3, _), (4, _), (5, _), (6, _)]) e5z (zB (zA (mv rfl rfl (gv ((zS (q := 1) rfl rfl (by omega) (by omega)).cv (show _ = vI (1) from rfl)) rfl (asg rfl rfl (zD (wN (zC (zC (zA (mv rfl rfl ?_)))))))))))))
 refine gv (OpV.tr (by decide) (zW (q := 3) rfl rfl)) rfl (zD (zB (xZ rfl (zK (zB (zC (zP (zC (zA (mv rfl rfl (gv ((zS (q := 1) rfl rfl (by omega) (by omega)).cv (show _ = vI (2) from rfl)) rfl (gv ((uU (q := 3) rfl rfl (by omega) (by omega)).cv (show _ = vI (2) from rfl)) rfl (mv rfl rfl ?_)))))))))))))
 refine gv ((zS (q := 2) rfl rfl (by omega) (by omega)).cv (show _ = vI (3) from rfl)) rfl (gv ((uU (q := 3) rfl rfl (by omega) (by omega)).cv (show _ = vI (0) from rfl)) rfl (asg rfl rfl (asg rfl rfl (zD (zJ (e' := [(2, _), (3, _), (4, _), (5, _), (6, _), (7, _), (8, _)]) e7 (zB ?_))))))
 refine yF 17 _ [] [(0, .q), (1, .q), (2, .q), (3, .q), (4, .q), (5, .q), (6, .q), (8, .q), (9, .q), (10, .q), (11, .q), (12, .q), (13, .q), (7, .c), (14, .c), (15, .c), (16, .q), (17, .t)] xH nX (chk_of [0, 0, 2, 4, 0, 16, 32, 72, 0, 256, 512, 0, 2048, 4096, 9344, 16512, 65535, 131071] [262143, 262143, 262141, 262139, 262143, 262127, 262111, 262071, 262143, 261887, 261631, 262143, 260095, 258047, 252927, 245631, 262142, 163839] (by kernel_rfl)) nX (fun r hr => hr) (yH rfl rfl rfl (yH rfl rfl rfl (yK rfl (fun _ _ => (zH (sz := 3) 2 underlying32 sizeOf30 rfl rfl rfl (by decide)).cv (show _ = vP b2 6 from congrArg (vP b2) (by rfl))) rfl ?_)))
 replace rb2 := rb2.mono ((hh1.trans hh2).trans hh3)
 refine yP (F := fun v_ => (rpQ k).Is h3 v_ a.z) rfl (zE xS (Pc.tz (Pc.here _)) rfl rfl rb2 rfl) (yD mh3) rfl ?_
 intro v22u10 r22u10
 refine yH rfl rfl rfl (yK rfl (fun _ _ => (zH (sz := 3) 0 underlying32 sizeOf30 rfl rfl rfl (by decide)).cv (show _ = vP b3 0 from congrArg (vP b3) (by rfl))) rfl ?_)
 replace rb3 := rb3.mono ((hh1.trans hh2).trans hh3)
 refine yP (F := fun v_ => (rpQ l).Is h3 v_ b.x) rfl (zE xS (Pc.tx (Pc.here _)) rfl rfl rb3 rfl) (yD mh2) rfl ?_
 intro v25u10 r25u10
 refine yH rfl rfl rfl (yK rfl (fun _ _ => (zH (sz := 3) 0 underlying32 sizeOf30 rfl rfl rfl (by decide)).cv (show _ = vP b2 0 from congrArg (vP b2) (by rfl))) rfl (yP (F := fun v_ => (rpQ k).Is h3 v_ a.x) rfl (zE xS (Pc.tx (Pc.here _)) rfl rfl rb2 rfl) (yD mh3) rfl ?_))
 intro v29u10 r29u10
 refine yH rfl rfl rfl (yK rfl (fun _ _ => (zH (sz := 3) 2 underlying32 sizeOf30 rfl rfl rfl (by decide)).cv (show _ = vP b3 6 from congrArg (vP b3) (by rfl))) rfl (yP (F := fun v_ => (rpQ l).Is h3 v_ b.z) rfl (zE xS (Pc.tz (Pc.here _)) rfl rfl rb3 rfl) (yD mh2) rfl ?_))
 intro v32u10 r32u10
 refine w_c rfl ?_
 refine zY (vs := [_, _]) call54 e2z (fun w hs => jH hs r22u10 r25u10 (by omega)) rfl ?_
 intro v26u10 h4 hh4 r26u10
 change (rpQ (k + l)).Is h4 v26u10 (a.z * b.x) at r26u10
 refine w_c rfl ?_
 replace r29u10 := r29u10.mono hh4
 replace r32u10 := r32u10.mono hh4
 refine zY (vs := [_, _]) call54 e2z (fun w hs => jH hs r29u10 r32u10 (by omega)) rfl ?_
 intro v33u10 h5 hh5 r33u10
 change (rpQ (k + l)).Is h5 v33u10 (a.x * b.z) at r33u10
 refine w_c rfl ?_
 replace r26u10 := r26u10.mono hh5
 refine zY (vs := [_, _]) call56 e2z (fun w hs => jG hs r26u10 r33u10 (by omega)) rfl ?_
 intro v34u10 h6 hh6 r34u10
 change (rpQ ((k + l) + (k + l) + 1)).Is h6 v34u10 ((a.z * b.x) - (a.x * b.z)) at r34u10
 replace r34u10 := Rp.Is.le r34u10 (Le.q (l := 2 * k + 2 * l + 1) (by omega))
 refine yK rfl (fun _ _ => (zH (sz := 3) 1 underlying32 sizeOf30 rfl rfl rfl (by decide)).cv (show _ = vP b5 3 from congrArg (vP b5) (by rfl))) rfl ?_
 replace rb_33 := rb_33.mono ((hh4.trans hh5).trans hh6)
 refine xR (A := []) (F := fun c_ => (rpT (rpQ (2 * k + 2 * l + 3))).R h6 c_ (T3.mk ((a.y * b.z) - (a.z * b.y)) ((a.z * b.x) - (a.x * b.z)) (0 : Rat))) rfl (yJ sizeOf30 (Pc.ty (Pc.here _)) rfl rfl rfl rb_33 (r34u10.le (Le.q (l := 2 * k + 2 * l + 3) (by omega))) rfl) ?_
 intro cs_34 rb_35
 refine xB (xC (zJ (e' := [(2, _), (3, _), (4, _), (5, _), (6, _)]) e5z (zB (zA (mv rfl rfl (gv ((zS (q := 1) rfl rfl (by omega) (by omega)).cv (show _ = vI (2) from rfl)) rfl (asg rfl rfl (zD (wN (zC (zC (zA (mv rfl rfl ?_)))))))))))))
 refine gv (OpV.tr (by decide) (zW (q := 3) rfl rfl)) rfl (zD (zB (xZ rfl (zK (zB (zC (zP (zC (zA (mv rfl rfl (gv ((zS (q := 1) rfl rfl (by omega) (by omega)).cv (show _ = vI (3) from rfl)) rfl (gv ((uU (q := 3) rfl rfl (by omega) (by omega)).cv (show _ = vI (0) from rfl)) rfl (mv rfl rfl ?_)))))))))))))
 refine gv ((zS (q := 2) rfl rfl (by omega) (by omega)).cv (show _ = vI (4) from rfl)) rfl (gv ((uU (q := 3) rfl rfl (by omega) (by omega)).cv (show _ = vI (1) from rfl)) rfl (asg rfl rfl (asg rfl rfl (zD (zJ (e' := [(2, _), (3, _), (4, _), (5, _), (6, _), (7, _), (8, _)]) e7 (zB ?_))))))
 refine yF 17 _ [] [(0, .q), (1, .q), (2, .q), (3, .q), (4, .q), (5, .q), (6, .q), (8, .q), (9, .q), (10, .q), (11, .q), (12, .q), (13, .q), (7, .c), (14, .c), (15, .c), (16, .q), (17, .t)] xH nX (chk_of [0, 0, 2, 4, 0, 16, 32, 72, 0, 256, 512, 0, 2048, 4096, 9344, 16512, 65535, 131071] [262143, 262143, 262141, 262139, 262143, 262127, 262111, 262071, 262143, 261887, 261631, 262143, 260095, 258047, 252927, 245631, 262142, 163839] (by kernel_rfl)) nX (fun r hr => hr) (yH rfl rfl rfl (yH rfl rfl rfl (yK rfl (fun _ _ => (zH (sz := 3) 0 underlying32 sizeOf30 rfl rfl rfl (by decide)).cv (show _ = vP b2 0 from congrArg (vP b2) (by rfl))) rfl ?_)))
 replace rb2 := rb2.mono ((hh4.trans hh5).trans hh6)
 refine yP (F := fun v_ => (rpQ k).Is h6 v_ a.x) rfl (zE xS (Pc.tx (Pc.here _)) rfl rfl rb2 rfl) (yD mh3) rfl ?_
 intro v22u11 r22u11
 refine yH rfl rfl rfl (yK rfl (fun _ _ => (zH (sz := 3) 1 underlying32 sizeOf30 rfl rfl rfl (by decide)).cv (show _ = vP b3 3 from congrArg (vP b3) (by rfl))) rfl ?_)
 replace rb3 := rb3.mono ((hh4.trans hh5).trans hh6)
 refine yP (F := fun v_ => (rpQ l).Is h6 v_ b.y) rfl (zE xS (Pc.ty (Pc.here _)) rfl rfl rb3 rfl) (yD mh2) rfl ?_
 intro v25u11 r25u11
 refine yH rfl rfl rfl (yK rfl (fun _ _ => (zH (sz := 3) 1 underlying32 sizeOf30 rfl rfl rfl (by decide)).cv (show _ = vP b2 3 from congrArg (vP b2) (by rfl))) rfl (yP (F := fun v_ => (rpQ k).Is h6 v_ a.y) rfl (zE xS (Pc.ty (Pc.here _)) rfl rfl rb2 rfl) (yD mh3) rfl ?_))
 intro v29u11 r29u11
 refine yH rfl rfl rfl (yK rfl (fun _ _ => (zH (sz := 3) 0 underlying32 sizeOf30 rfl rfl rfl (by decide)).cv (show _ = vP b3 0 from congrArg (vP b3) (by rfl))) rfl (yP (F := fun v_ => (rpQ l).Is h6 v_ b.x) rfl (zE xS (Pc.tx (Pc.here _)) rfl rfl rb3 rfl) (yD mh2) rfl ?_))
 intro v32u11 r32u11
 refine w_c rfl ?_
 refine zY (vs := [_, _]) call54 e2z (fun w hs => jH hs r22u11 r25u11 (by omega)) rfl ?_
 intro v26u11 h7 hh7 r26u11
 change (rpQ (k + l)).Is h7 v26u11 (a.x * b.y) at r26u11
 refine w_c rfl ?_
 replace r29u11 := r29u11.mono hh7
 replace r32u11 := r32u11.mono hh7
 refine zY (vs := [_, _]) call54 e2z (fun w hs => jH hs r29u11 r32u11 (by omega)) rfl ?_
 intro v33u11 h8 hh8 r33u11
 change (rpQ (k + l)).Is h8 v33u11 (a.y * b.x) at r33u11
 refine w_c rfl ?_
 replace r26u11 := r26u11.mono hh8
 refine zY (vs := [_, _]) call56 e2z (fun w hs => jG hs r26u11 r33u11 (by omega)) rfl ?_
 intro v34u11 h9 hh9 r34u11
 change (rpQ ((k + l) + (k + l) + 1)).Is h9 v34u11 ((a.x * b.y) - (a.y * b.x)) at r34u11
 replace r34u11 := Rp.Is.le r34u11 (Le.q (l := 2 * k + 2 * l + 1) (by omega))
 refine yK rfl (fun _ _ => (zH (sz := 3) 2 underlying32 sizeOf30 rfl rfl rfl (by decide)).cv (show _ = vP b5 6 from congrArg (vP b5) (by rfl))) rfl ?_
 replace rb_35 := rb_35.mono ((hh7.trans hh8).trans hh9)
 refine xR (A := []) (F := fun c_ => (rpT (rpQ (2 * k + 2 * l + 3))).R h9 c_ (T3.mk ((a.y * b.z) - (a.z * b.y)) ((a.z * b.x) - (a.x * b.z)) ((a.x * b.y) - (a.y * b.x)))) rfl (yJ sizeOf30 (Pc.tz (Pc.here _)) rfl rfl rfl rb_35 (r34u11.le (Le.q (l := 2 * k + 2 * l + 3) (by omega))) rfl) ?_
 intro cs_36 rb_37
 refine xB (xC (zJ (e' := [(2, _), (3, _), (4, _), (5, _), (6, _)]) e5z (zB (zA (mv rfl rfl (gv ((zS (q := 1) rfl rfl (by omega) (by omega)).cv (show _ = vI (3) from rfl)) rfl (asg rfl rfl (zD (wN (zC (zC (zA (mv rfl rfl ?_)))))))))))))
 refine gv (OpV.fa (by decide) (zW (q := 3) rfl rfl)) rfl (zD (zB (qQ rfl (xG (yB (yB (xF (zB (zC (zA (xX (F := fun v_ => (rpT (rpQ (2 * k + 2 * l + 3))).Is h9 v_ (T3.mk ((a.y * b.z) - (a.z * b.y)) ((a.z * b.x) - (a.x * b.z)) ((a.x * b.y) - (a.y * b.x)))) (zE xJ (Pc.here _) rfl rfl rb_37 rfl) (yD mh0) rfl ?_)))))))))))
 intro v36u12 r36u12
 replace rb4 := rb4.mono ((((((((hh1.trans hh2).trans hh3).trans hh4).trans hh5).trans hh6).trans hh7).trans hh8).trans hh9)
 refine wW (A := [_]) (F := fun c_ => (rpT (rpQ (2 * k + 2 * l + 3))).R h9 c_ (T3.mk ((a.y * b.z) - (a.z * b.y)) ((a.z * b.x) - (a.x * b.z)) ((a.x * b.y) - (a.y * b.x)))) (yJ sizeOf32 (Pc.here _) rfl rfl rfl rb4 r36u12 rfl) ?_
 intro cs_38 rb_39
 refine zD (zB (zQ (uZ (rv_o (t := 4) xJ mh1 rfl rb_39) ?_)))
 intro w_40 hvw_40 rr_41
 refine xQ (fun E S => yS rfl hvw_40 E S) ?_
 exact rr_41
theorem o_dice_bool {w0 w : World} {h0 h : Mem} {b k : Nat} {vl : Value} {xs : List Int} (hl : Is h vl xs) (hk : k ≤ xs.length) {n : Int} (hn : 0 < n) (hn2 : n < 4611686018427387904) {L : List Res} (hs : St w0 h0 (.var b 65 [vl, vI ↑k] :: L) h w) :
    Calls Tryz.prog 24 #[vP b 0, vI n] w (RetMut w0 h0 h L (fun g r q' => ∃ k' : Nat, ∃ p : Prop, q' = .var b 65 [vl, vI ↑k'] ∧ k' ≤ xs.length ∧ r = vB p)) := by
 have hlen := hl.lt63
 refine kW (n := 11) (e := [(0, vP b 0), (1, vI n)]) (vs := [vP b 0, vI n]) func24 rfl rfl (bL rfl) hs e2z (zC (zA (asg rfl rfl (zD (zB (zC (zA (mv rfl rfl (mv rfl rfl ?_)))))))))
 refine uO (A := []) (vs := [_, _]) call22 e2z (fun X w hs => dice_next hl (by first | omega | exact Nat.zero_le _) (by omega) (by omega) hs) rfl ?_
 intro v7 g7 q7 hg7 hr7
 obtain ⟨k7, z7, rfl, hk7, rfl, hz7, hy7⟩ := hr7
 refine mv rfl rfl (gv (xO (q := 1) rfl rfl (by omega) (by omega)) rfl (gv (xU rfl rfl) rfl (asg rfl rfl (zD (zB (zQ (jN rfl rfl ?_)))))))
 exact ⟨_, (List.Sublist.refl _), hg7, _, _, rfl, by omega, rfl⟩
theorem o_dice_plane {w0 w : World} {h0 h : Mem} {b k : Nat} {vl : Value} {xs : List Int} (hl : Is h vl xs) (hk : k ≤ xs.length) {L : List Res} (hs : St w0 h0 (.var b 65 [vl, vI ↑k] :: L) h w) :
    Calls Tryz.prog 13 #[vP b 0] w (RetMut w0 h0 h L (fun g r q' => ∃ k' : Nat, ∃ m : (T3 Rat) × Rat, q' = .var b 65 [vl, vI ↑k'] ∧ k' ≤ xs.length ∧ smN m ∧ (rpP (rpT (rpQ 2)) (rpQ 2)).Is g r m)) := by
 have hlen := hl.lt63
 refine kW (n := 30) (e := [(0, vP b 0)]) (vs := [vP b 0]) func13 rfl rfl (bL rfl) hs ⟨rfl, trivial⟩ (zC (zA (zI (yR (ρ := (rpP (rpT (rpQ 2)) (rpQ 2))) (X := (zT, (0 : Rat))) info34 rfl rfl (zr_p (wO (wB (by decide))) (wB (by decide)))) rfl rfl rfl ?_)))
 intro v2 q2 hq2
 obtain ⟨b2, cs2, rfl, rfl, rb2⟩ := hq2
 refine zD (zB (zC (zC (zA (mv rfl rfl ?_)))))
 refine uO (A := [_]) (vs := [_, vI (20)]) call24 e2z (fun X w hs => o_dice_bool hl (by first | omega | exact Nat.zero_le _) (by omega) (by omega) hs) rfl ?_
 intro v5 g5 q5 hg5 hr5
 obtain ⟨k5, P5, rfl, hk5, rfl⟩ := hr5
 refine zD (zB ?_)
 refine zN rfl (fun hc5 => ?_) (fun hc5 => ?_)
 ·
  refine zC (zA (xX (F := fun v_ => (rpP (rpT (rpQ 1)) (rpQ 1)).Is g5 v_ (zT, (0 : Rat))) (ox_build (ps' := []) underlying34 info34 rfl rfl (places34 underlying34) trivial rfl (zr_p (wO (wB (by decide))) (wB (by decide))) wH) vQ rfl ?_))
  intro v6 r6
  replace rb2 := rb2.mono hg5
  refine wW (A := []) (F := fun c_ => (rpP (rpT (rpQ 2)) (rpQ 2)).R g5 c_ (zT, (0 : Rat))) (yJ sizeOf34 (Pc.here _) rfl rfl rfl rb2 (r6.le (Le.p (Le.t (Le.q (l := 2) (by decide))) (Le.q (l := 2) (by decide)))) rfl) ?_
  intro cs_42 rb_43
  refine zD (zB (zQ (zV (uZ (rv_o (t := 2) kH mh0 rfl rb_43) ?_))))
  intro w_44 hvw_44 rr_45
  refine gq_res_own (fun E S => yS rfl hvw_44 E S) ?_
  exact ⟨_, (.cons _ (List.Sublist.refl _)), hg5, _, _, rfl, by omega, (by first | exact sm_zero | exact row_sm (by omega) (by omega) (by omega)), rr_45⟩
 refine zK (zB (zC (zA (xX (F := fun v_ => (rpT rpI).Is g5 v_ (T3.mk (1 : Int) (0 : Int) (0 : Int))) (wP (ps' := [(0, _), (1, _), (2, _)]) underlying66 info66 rfl rfl sizeOf3 e6 rfl (wO zr_i) (yZ rfl (Pc.tx (Pc.here _)) (is_i (by decide) (by decide)) (yZ rfl (Pc.ty (Pc.here _)) (is_i (by decide) (by decide)) (yZ rfl (Pc.tz (Pc.here _)) (is_i (by decide) (by decide)) wH)))) vQ rfl ?_))))
 intro v7 r7
 refine xX (F := fun v_ => (rpT rpI).Is g5 v_ (T3.mk (0 : Int) (1 : Int) (0 : Int))) (wP (ps' := [(0, _), (1, _), (2, _)]) underlying66 info66 rfl rfl sizeOf3 e6 rfl (wO zr_i) (yZ rfl (Pc.tx (Pc.here _)) (is_i (by decide) (by decide)) (yZ rfl (Pc.ty (Pc.here _)) (is_i (by decide) (by decide)) (yZ rfl (Pc.tz (Pc.here _)) (is_i (by decide) (by decide)) wH)))) vQ rfl ?_
 intro v8 r8
 refine xX (F := fun v_ => (rpT rpI).Is g5 v_ (T3.mk (0 : Int) (0 : Int) (1 : Int))) (wP (ps' := [(0, _), (1, _), (2, _)]) underlying66 info66 rfl rfl sizeOf3 e6 rfl (wO zr_i) (yZ rfl (Pc.tx (Pc.here _)) (is_i (by decide) (by decide)) (yZ rfl (Pc.ty (Pc.here _)) (is_i (by decide) (by decide)) (yZ rfl (Pc.tz (Pc.here _)) (is_i (by decide) (by decide)) wH)))) vQ rfl ?_
 intro v9 r9
 refine xX (F := fun v_ => (rpT rpI).Is g5 v_ (T3.mk (1 : Int) (1 : Int) (0 : Int))) (wP (ps' := [(0, _), (1, _), (2, _)]) underlying66 info66 rfl rfl sizeOf3 e6 rfl (wO zr_i) (yZ rfl (Pc.tx (Pc.here _)) (is_i (by decide) (by decide)) (yZ rfl (Pc.ty (Pc.here _)) (is_i (by decide) (by decide)) (yZ rfl (Pc.tz (Pc.here _)) (is_i (by decide) (by decide)) wH)))) vQ rfl ?_
 intro v10 r10
 refine xX (F := fun v_ => (rpT rpI).Is g5 v_ (T3.mk (-1 : Int) (0 : Int) (0 : Int))) (wP (ps' := [(0, _), (1, _), (2, _)]) underlying66 info66 rfl rfl sizeOf3 e6 rfl (wO zr_i) (yZ rfl (Pc.tx (Pc.here _)) (is_i (by decide) (by decide)) (yZ rfl (Pc.ty (Pc.here _)) (is_i (by decide) (by decide)) (yZ rfl (Pc.tz (Pc.here _)) (is_i (by decide) (by decide)) wH)))) vQ rfl ?_
 intro v11 r11
 refine xX (F := fun v_ => (rpT rpI).Is g5 v_ (T3.mk (1 : Int) (-1 : Int) (2 : Int))) (wP (ps' := [(0, _), (1, _), (2, _)]) underlying66 info66 rfl rfl sizeOf3 e6 rfl (wO zr_i) (yZ rfl (Pc.tx (Pc.here _)) (is_i (by decide) (by decide)) (yZ rfl (Pc.ty (Pc.here _)) (is_i (by decide) (by decide)) (yZ rfl (Pc.tz (Pc.here _)) (is_i (by decide) (by decide)) wH)))) vQ rfl ?_
 intro v12 r12
 refine xX (F := fun v_ => (rpT rpI).Is g5 v_ (T3.mk (0 : Int) (2 : Int) (1 : Int))) (wP (ps' := [(0, _), (1, _), (2, _)]) underlying66 info66 rfl rfl sizeOf3 e6 rfl (wO zr_i) (yZ rfl (Pc.tx (Pc.here _)) (is_i (by decide) (by decide)) (yZ rfl (Pc.ty (Pc.here _)) (is_i (by decide) (by decide)) (yZ rfl (Pc.tz (Pc.here _)) (is_i (by decide) (by decide)) wH)))) vQ rfl ?_
 intro v13 r13
 refine xX (F := fun v_ => (rpA 7 (rpT rpI)).Is g5 v_ [(T3.mk (1 : Int) (0 : Int) (0 : Int)), (T3.mk (0 : Int) (1 : Int) (0 : Int)), (T3.mk (0 : Int) (0 : Int) (1 : Int)), (T3.mk (1 : Int) (1 : Int) (0 : Int)), (T3.mk (-1 : Int) (0 : Int) (0 : Int)), (T3.mk (1 : Int) (-1 : Int) (2 : Int)), (T3.mk (0 : Int) (2 : Int) (1 : Int))]) (wP (ps' := [(0, _), (1, _), (2, _), (3, _), (4, _), (5, _), (6, _)]) underlying67 info67 rfl rfl sizeOf66 ⟨rfl, rfl, rfl, rfl, rfl, rfl, rfl, rfl, rfl, rfl, rfl, rfl, rfl, rfl, trivial⟩ rfl (zr_a 7 (wO zr_i)) (yZ rfl (Pc.arr (Pc.here _) (T3.mk (0 : Int) (0 : Int) (0 : Int)) 0 (by decide)) r7 (yZ rfl (Pc.arr (Pc.here _) (T3.mk (0 : Int) (0 : Int) (0 : Int)) 1 (by decide)) r8 (yZ rfl (Pc.arr (Pc.here _) (T3.mk (0 : Int) (0 : Int) (0 : Int)) 2 (by decide)) r9 (yZ rfl (Pc.arr (Pc.here _) (T3.mk (0 : Int) (0 : Int) (0 : Int)) 3 (by decide)) r10 (yZ rfl (Pc.arr (Pc.here _) (T3.mk (0 : Int) (0 : Int) (0 : Int)) 4 (by decide)) r11 (yZ rfl (Pc.arr (Pc.here _) (T3.mk (0 : Int) (0 : Int) (0 : Int)) 5 (by decide)) r12 (yZ rfl (Pc.arr (Pc.here _) (T3.mk (0 : Int) (0 : Int) (0 : Int)) 6 (by decide)) r13 wH)))))))) vQ rfl ?_
 intro v14 r14
 refine mv rfl rfl ?_
 replace hl := hl.mono hg5
 refine uO (A := [_]) (vs := [_, vI (7)]) call22 e2z (fun X w hs => dice_next hl (by first | omega | exact Nat.zero_le _) (by omega) (by omega) hs) rfl ?_
 intro v16 g16 q16 hg16 hr16
 obtain ⟨k16, z16, rfl, hk16, rfl, hz16, hy16⟩ := hr16
 replace r14 := r14.mono hg16
 refine xX (F := fun v_ => (rpT rpI).Is g16 v_ ([(T3.mk (1 : Int) (0 : Int) (0 : Int)), (T3.mk (0 : Int) (1 : Int) (0 : Int)), (T3.mk (0 : Int) (0 : Int) (1 : Int)), (T3.mk (1 : Int) (1 : Int) (0 : Int)), (T3.mk (-1 : Int) (0 : Int) (0 : Int)), (T3.mk (1 : Int) (-1 : Int) (2 : Int)), (T3.mk (0 : Int) (2 : Int) (1 : Int))].getD z16.toNat (T3.mk (0 : Int) (0 : Int) (0 : Int)))) (ox_index z16.toNat underlying67 ty66 (Pc.arr (Pc.here _) (T3.mk (0 : Int) (0 : Int) (0 : Int)) z16.toNat (by omega)) rfl rfl rfl rfl r14 (by omega) (by omega) rfl) vQ rfl ?_
 intro v17 r17
 refine zI (yR (ρ := (rpT rpI)) (X := (T3.mk (0 : Int) (0 : Int) (0 : Int))) info66 rfl rfl (wO zr_i)) rfl rfl rfl ?_
 intro v3 q3 hq3
 obtain ⟨b3, cs3, rfl, rfl, rb3⟩ := hq3
 refine wW (A := []) (F := fun c_ => (rpT rpI).R g16 c_ ([(T3.mk (1 : Int) (0 : Int) (0 : Int)), (T3.mk (0 : Int) (1 : Int) (0 : Int)), (T3.mk (0 : Int) (0 : Int) (1 : Int)), (T3.mk (1 : Int) (1 : Int) (0 : Int)), (T3.mk (-1 : Int) (0 : Int) (0 : Int)), (T3.mk (1 : Int) (-1 : Int) (2 : Int)), (T3.mk (0 : Int) (2 : Int) (1 : Int))].getD z16.toNat (T3.mk (0 : Int) (0 : Int) (0 : Int)))) (yJ sizeOf66 (Pc.here _) rfl rfl rfl rb3 r17 rfl) ?_
 intro cs_46 rb_47
 refine zD (zJ (e' := [(0, _), (2, _), (3, _)]) e3z (zB (zC (zA (gv ((zH (sz := 1) (q := 0) 0 underlying66 sizeOf3 rfl rfl rfl (by decide)).cv (show _ = vP b3 0 from congrArg (vP b3) (by rfl))) rfl (xX (F := fun v_ => rpI.Is g16 v_ (([(T3.mk (1 : Int) (0 : Int) (0 : Int)), (T3.mk (0 : Int) (1 : Int) (0 : Int)), (T3.mk (0 : Int) (0 : Int) (1 : Int)), (T3.mk (1 : Int) (1 : Int) (0 : Int)), (T3.mk (-1 : Int) (0 : Int) (0 : Int)), (T3.mk (1 : Int) (-1 : Int) (2 : Int)), (T3.mk (0 : Int) (2 : Int) (1 : Int))].getD z16.toNat (T3.mk (0 : Int) (0 : Int) (0 : Int))).x)) (zE ty3 (Pc.tx (Pc.here _)) rfl rfl rb_47 rfl) (yD mh0) rfl ?_))))))
 intro v19 r19
 obtain ⟨rfl, hl19, hu19⟩ := of_i r19
 refine gv ((zH (sz := 1) (q := 1) 1 underlying66 sizeOf3 rfl rfl rfl (by decide)).cv (show _ = vP b3 1 from congrArg (vP b3) (by rfl))) rfl (xX (F := fun v_ => rpI.Is g16 v_ (([(T3.mk (1 : Int) (0 : Int) (0 : Int)), (T3.mk (0 : Int) (1 : Int) (0 : Int)), (T3.mk (0 : Int) (0 : Int) (1 : Int)), (T3.mk (1 : Int) (1 : Int) (0 : Int)), (T3.mk (-1 : Int) (0 : Int) (0 : Int)), (T3.mk (1 : Int) (-1 : Int) (2 : Int)), (T3.mk (0 : Int) (2 : Int) (1 : Int))].getD z16.toNat (T3.mk (0 : Int) (0 : Int) (0 : Int))).y)) (zE ty3 (Pc.ty (Pc.here _)) rfl rfl rb_47 rfl) (yD mh0) rfl ?_)
 intro v21 r21
 obtain ⟨rfl, hl21, hu21⟩ := of_i r21
 refine gv ((zH (sz := 1) (q := 2) 2 underlying66 sizeOf3 rfl rfl rfl (by decide)).cv (show _ = vP b3 2 from congrArg (vP b3) (by rfl))) rfl (xX (F := fun v_ => rpI.Is g16 v_ (([(T3.mk (1 : Int) (0 : Int) (0 : Int)), (T3.mk (0 : Int) (1 : Int) (0 : Int)), (T3.mk (0 : Int) (0 : Int) (1 : Int)), (T3.mk (1 : Int) (1 : Int) (0 : Int)), (T3.mk (-1 : Int) (0 : Int) (0 : Int)), (T3.mk (1 : Int) (-1 : Int) (2 : Int)), (T3.mk (0 : Int) (2 : Int) (1 : Int))].getD z16.toNat (T3.mk (0 : Int) (0 : Int) (0 : Int))).z)) (zE ty3 (Pc.tz (Pc.here _)) rfl rfl rb_47 rfl) (yD mh0) rfl ?_)
 intro v23 r23
 obtain ⟨rfl, hl23, hu23⟩ := of_i r23
 refine zO (vs := [_, _, _]) rfl rfl rfl rfl call44 e3z (fun w hs => o_made_at3 hs (by omega) (by omega) (by omega) (by omega) (by omega) (by omega)) ?_
 intro v24 h1 hh1 r24
 change (rpT (rpQ 2)).Is h1 v24 (T3.mk (((([(T3.mk (1 : Int) (0 : Int) (0 : Int)), (T3.mk (0 : Int) (1 : Int) (0 : Int)), (T3.mk (0 : Int) (0 : Int) (1 : Int)), (T3.mk (1 : Int) (1 : Int) (0 : Int)), (T3.mk (-1 : Int) (0 : Int) (0 : Int)), (T3.mk (1 : Int) (-1 : Int) (2 : Int)), (T3.mk (0 : Int) (2 : Int) (1 : Int))].getD z16.toNat (T3.mk (0 : Int) (0 : Int) (0 : Int))).x) : Int) : Rat) (((([(T3.mk (1 : Int) (0 : Int) (0 : Int)), (T3.mk (0 : Int) (1 : Int) (0 : Int)), (T3.mk (0 : Int) (0 : Int) (1 : Int)), (T3.mk (1 : Int) (1 : Int) (0 : Int)), (T3.mk (-1 : Int) (0 : Int) (0 : Int)), (T3.mk (1 : Int) (-1 : Int) (2 : Int)), (T3.mk (0 : Int) (2 : Int) (1 : Int))].getD z16.toNat (T3.mk (0 : Int) (0 : Int) (0 : Int))).y) : Int) : Rat) (((([(T3.mk (1 : Int) (0 : Int) (0 : Int)), (T3.mk (0 : Int) (1 : Int) (0 : Int)), (T3.mk (0 : Int) (0 : Int) (1 : Int)), (T3.mk (1 : Int) (1 : Int) (0 : Int)), (T3.mk (-1 : Int) (0 : Int) (0 : Int)), (T3.mk (1 : Int) (-1 : Int) (2 : Int)), (T3.mk (0 : Int) (2 : Int) (1 : Int))].getD z16.toNat (T3.mk (0 : Int) (0 : Int) (0 : Int))).z) : Int) : Rat)) at r24
 refine mv rfl rfl ?_
 replace hl := hl.mono (hg16.trans hh1)
 refine uO (A := [_, _]) (vs := [_, vI (9)]) call22 e2z (fun X w hs => dice_next hl (by first | omega | exact Nat.zero_le _) (by omega) (by omega) hs) rfl ?_
 intro v26 g26 q26 hg26 hr26
 obtain ⟨k26, z26, rfl, hk26, rfl, hz26, hy26⟩ := hr26
 refine gv (xO (q := 1) rfl rfl (by omega) (by omega)) rfl ?_
 refine zO (vs := [_, vI (2)]) rfl rfl rfl rfl call46 e2z (fun w hs => o_rref_frac hs (by omega) (by omega) (by decide) (by decide)) ?_
 intro v28 h2 hh2 r28
 change (rpQ 2).Is h2 v28 (qR (z26 - (1 : Int)) (2 : Int)) at r28
 replace r24 := r24.mono (hg26.trans hh2)
 refine xX (F := fun v_ => (rpP (rpT (rpQ 2)) (rpQ 2)).Is h2 v_ ((T3.mk (((([(T3.mk (1 : Int) (0 : Int) (0 : Int)), (T3.mk (0 : Int) (1 : Int) (0 : Int)), (T3.mk (0 : Int) (0 : Int) (1 : Int)), (T3.mk (1 : Int) (1 : Int) (0 : Int)), (T3.mk (-1 : Int) (0 : Int) (0 : Int)), (T3.mk (1 : Int) (-1 : Int) (2 : Int)), (T3.mk (0 : Int) (2 : Int) (1 : Int))].getD z16.toNat (T3.mk (0 : Int) (0 : Int) (0 : Int))).x) : Int) : Rat) (((([(T3.mk (1 : Int) (0 : Int) (0 : Int)), (T3.mk (0 : Int) (1 : Int) (0 : Int)), (T3.mk (0 : Int) (0 : Int) (1 : Int)), (T3.mk (1 : Int) (1 : Int) (0 : Int)), (T3.mk (-1 : Int) (0 : Int) (0 : Int)), (T3.mk (1 : Int) (-1 : Int) (2 : Int)), (T3.mk (0 : Int) (2 : Int) (1 : Int))].getD z16.toNat (T3.mk (0 : Int) (0 : Int) (0 : Int))).y) : Int) : Rat) (((([(T3.mk (1 : Int) (0 : Int) (0 : Int)), (T3.mk (0 : Int) (1 : Int) (0 : Int)), (T3.mk (0 : Int) (0 : Int) (1 : Int)), (T3.mk (1 : Int) (1 : Int) (0 : Int)), (T3.mk (-1 : Int) (0 : Int) (0 : Int)), (T3.mk (1 : Int) (-1 : Int) (2 : Int)), (T3.mk (0 : Int) (2 : Int) (1 : Int))].getD z16.toNat (T3.mk (0 : Int) (0 : Int) (0 : Int))).z) : Int) : Rat)), qR (z26 - (1 : Int)) (2 : Int))) (ox_build (ps' := [(0, _), (1, _)]) underlying34 info34 rfl rfl (places34 underlying34) e4z rfl (zr_p (wO (wB (by decide))) (wB (by decide))) (yZ rfl (Pc.fst (Pc.here _)) r24 (yZ rfl (Pc.snd (Pc.here _)) r28 wH))) vQ rfl ?_
 intro v29 r29
 replace rb2 := rb2.mono ((((hg5.trans hg16).trans hh1).trans hg26).trans hh2)
 refine wW (A := [_]) (F := fun c_ => (rpP (rpT (rpQ 2)) (rpQ 2)).R h2 c_ ((T3.mk (((([(T3.mk (1 : Int) (0 : Int) (0 : Int)), (T3.mk (0 : Int) (1 : Int) (0 : Int)), (T3.mk (0 : Int) (0 : Int) (1 : Int)), (T3.mk (1 : Int) (1 : Int) (0 : Int)), (T3.mk (-1 : Int) (0 : Int) (0 : Int)), (T3.mk (1 : Int) (-1 : Int) (2 : Int)), (T3.mk (0 : Int) (2 : Int) (1 : Int))].getD z16.toNat (T3.mk (0 : Int) (0 : Int) (0 : Int))).x) : Int) : Rat) (((([(T3.mk (1 : Int) (0 : Int) (0 : Int)), (T3.mk (0 : Int) (1 : Int) (0 : Int)), (T3.mk (0 : Int) (0 : Int) (1 : Int)), (T3.mk (1 : Int) (1 : Int) (0 : Int)), (T3.mk (-1 : Int) (0 : Int) (0 : Int)), (T3.mk (1 : Int) (-1 : Int) (2 : Int)), (T3.mk (0 : Int) (2 : Int) (1 : Int))].getD z16.toNat (T3.mk (0 : Int) (0 : Int) (0 : Int))).y) : Int) : Rat) (((([(T3.mk (1 : Int) (0 : Int) (0 : Int)), (T3.mk (0 : Int) (1 : Int) (0 : Int)), (T3.mk (0 : Int) (0 : Int) (1 : Int)), (T3.mk (1 : Int) (1 : Int) (0 : Int)), (T3.mk (-1 : Int) (0 : Int) (0 : Int)), (T3.mk (1 : Int) (-1 : Int) (2 : Int)), (T3.mk (0 : Int) (2 : Int) (1 : Int))].getD z16.toNat (T3.mk (0 : Int) (0 : Int) (0 : Int))).z) : Int) : Rat)), qR (z26 - (1 : Int)) (2 : Int))) (yJ sizeOf34 (Pc.here _) rfl rfl rfl rb2 r29 rfl) ?_
 intro cs_48 rb_49
 refine zD (zJ (e' := [(2, _)]) ⟨rfl, trivial⟩ (zB (zQ (uZ (rv_o (t := 2) kH mh1 rfl rb_49) ?_))))
 intro w_50 hvw_50 rr_51
 refine gq_res_own (fun E S => yS rfl hvw_50 E S) ?_
 exact ⟨_, (.cons _ (.cons _ (List.Sublist.refl _))), ((((hg5.trans hg16).trans hh1).trans hg26).trans hh2), _, _, rfl, by omega, (by first | exact sm_zero | exact row_sm (by omega) (by omega) (by omega)), rr_51⟩
end Go.Proofs.YtghhjjmjpeehdaaGreat
namespace Go.Proofs.YtghhjjmjpeehdaaGreat
open Bk Go Tryz
set_option linter.unusedVariables false
set_option linter.unusedSimpArgs false
set_option maxRecDepth 10000
theorem o_dice_spot {w0 w : World} {h0 h : Mem} {b k : Nat} {vl : Value} {xs : List Int} (hl : Is h vl xs) (hk : k ≤ xs.length) {L : List Res} (hs : St w0 h0 (.var b 65 [vl, vI ↑k] :: L) h w) :
    Calls Tryz.prog 33 #[vP b 0] w (RetMut w0 h0 h L (fun g r q' => ∃ k' : Nat, ∃ m : T3 Rat, q' = .var b 65 [vl, vI ↑k'] ∧ k' ≤ xs.length ∧ spP m ∧ (rpT (rpQ 2)).Is g r m)) := by
 have hlen := hl.lt63
 refine kW (n := 22) (e := [(0, vP b 0)]) (vs := [vP b 0]) func33 rfl rfl (bL rfl) hs ⟨rfl, trivial⟩ (zC (zA (zI (yR (ρ := (rpT (rpQ 2))) (X := zT) yL rfl rfl (wO (wB (by decide)))) rfl rfl rfl ?_)))
 intro v2 q2 hq2
 obtain ⟨b2, cs2, rfl, rfl, rb2⟩ := hq2
 refine zD (zB (zC (zA (zI (yR (ρ := (rpT (rpQ 2))) (X := zT) yL rfl rfl (wO (wB (by decide)))) rfl rfl rfl ?_))))
 intro v3 q3 hq3
 obtain ⟨b3, cs3, rfl, rfl, rb3⟩ := hq3
 refine zD (zB (zC (zC (zA (asg (v := vI (0)) rfl rfl (zD (zB (zP ?_))))))))
 refine wE (ι := Nat × T3 Rat × List Value × Nat × Mem) (fun (i, m0, cs_1, kd_3, ma) => MLe h ma ∧ ((rpT (rpQ 2)).R ma cs_1 m0 ∧ kd_3 ≤ xs.length ∧ i ≤ 3 ∧ ∀ u, u < i → jQ (m0.at u) 9)) (fun (i, m0, cs_1, kd_3, ma) => [(0, vP b 0), (2, vP b2 0), (3, vP b3 0), (4, vI ↑i)]) (fun (i, m0, cs_1, kd_3, ma) => (.var b3 32 cs_1 :: .var b2 32 cs2 :: .var b 65 [vl, vI ↑kd_3] :: L)) (fun (i, m0, cs_1, kd_3, ma) => ma) (fun (i, m0, cs_1, kd_3, ma) => 3 - i) (0, (T3.mk 0 0 0), cs3, k, h) ?_ e4z rfl rfl ?_
 ·
  refine ⟨MLe.refl _, ?_⟩
  refine ⟨rb3, (by omega), ?_⟩
  exact ⟨by omega, fun u h => by omega⟩
 intro x hx
 obtain ⟨i, m0, cs_1, kd_3, ma⟩ := x
 obtain ⟨hmma, hinv⟩ := hx
 show GC _ _ _ _ _ _ [(0, vP b 0), (2, vP b2 0), (3, vP b3 0), (4, vI ↑i)] (.var b3 32 cs_1 :: .var b2 32 cs2 :: .var b 65 [vl, vI ↑kd_3] :: L) ma
 obtain ⟨rb_2, hkd_4, hinv⟩ := hinv
 obtain ⟨hi, hh⟩ := hinv
 refine zC (zC (zA (mv rfl rfl (gv (zW (q := 3) rfl rfl) rfl (zD (zB ?_))))))
 refine zN rfl (fun hc6 => ?_) (fun hc6 => ?_)
 ·
  refine zK (zB (zC (zP (zC (zA (mv rfl rfl (mv rfl rfl ?_)))))))
  replace hl := hl.mono hmma
  refine uO (A := [_, _]) (vs := [_, vI (5)]) call22 e2z (fun X w hs => dice_next hl (by first | omega | exact Nat.zero_le _) (by omega) (by omega) hs) rfl ?_
  intro v11 g11 q11 hg11 hr11
  obtain ⟨k11, z11, rfl, hk11, rfl, hz11, hy11⟩ := hr11
  refine zO (vs := [_]) rfl rfl rfl rfl call45 ⟨rfl, trivial⟩ (fun w hs => o_rref_int hs (by omega) (by omega)) ?_
  intro v12 h1 hh1 r12
  change (rpQ 2).Is h1 v12 ((z11 : Int) : Rat) at r12
  refine gv ((zH (sz := 3) i underlying32 sizeOf30 rfl rfl rfl (by omega)).cv (show _ = vP b3 ((i * 3 + 0)) from congrArg (vP b3) (by omega))) rfl ?_
  replace rb_2 := rb_2.mono (hg11.trans hh1)
  refine wW (A := []) (F := fun c_ => (rpT (rpQ 2)).R h1 c_ (m0.set i ((z11 : Int) : Rat))) (yJ sizeOf30 (Pc.ta (Pc.here _) i (by omega)) rfl rfl rfl rb_2 r12 rfl) ?_
  intro cs_5 rb_6
  refine zD (zB (zC (zA (mv rfl rfl ?_))))
  replace hl := hl.mono (hg11.trans hh1)
  refine uO (A := [_, _]) (vs := [_, vI (4)]) call24 e2z (fun X w hs => o_dice_bool hl (by first | omega | exact Nat.zero_le _) (by omega) (by omega) hs) rfl ?_
  intro v15 g15 q15 hg15 hr15
  obtain ⟨k15, P15, rfl, hk15, rfl⟩ := hr15
  refine zD (zB ?_)
  refine zN rfl (fun hc15 => ?_) (fun hc15 => ?_)
  ·
   refine zA (mv rfl rfl (mv rfl rfl ?_))
   replace hl := hl.mono hg15
   refine uO (A := [_, _]) (vs := [_, vI (9)]) call22 e2z (fun X w hs => dice_next hl (by first | omega | exact Nat.zero_le _) (by omega) (by omega) hs) rfl ?_
   intro v18 g18 q18 hg18 hr18
   obtain ⟨k18, z18, rfl, hk18, rfl, hz18, hy18⟩ := hr18
   refine zO (vs := [_, vI (2)]) rfl rfl rfl rfl call46 e2z (fun w hs => o_rref_frac hs (by omega) (by omega) (by decide) (by decide)) ?_
   intro v19 h2 hh2 r19
   change (rpQ 2).Is h2 v19 (qR z18 (2 : Int)) at r19
   refine gv ((zH (sz := 3) i underlying32 sizeOf30 rfl rfl rfl (by omega)).cv (show _ = vP b3 ((i * 3 + 0)) from congrArg (vP b3) (by omega))) rfl ?_
   replace rb_6 := rb_6.mono ((hg15.trans hg18).trans hh2)
   refine wW (A := []) (F := fun c_ => (rpT (rpQ 2)).R h2 c_ ((m0.set i ((z11 : Int) : Rat)).set i (qR z18 (2 : Int)))) (yJ sizeOf30 (Pc.ta (Pc.here _) i (by omega)) rfl rfl rfl rb_6 r19 rfl) ?_
   intro cs_7 rb_8
   refine zD (xC (zJ (e' := [(0, _), (2, _), (3, _), (4, _)]) e4z (zB (zA (mv rfl rfl (gv (zS (q := 1) rfl rfl (by omega) (by omega)) rfl (asg rfl rfl (zD ?_))))))))
   refine yV ((i + 1), ((m0.set i ((z11 : Int) : Rat)).set i (qR z18 (2 : Int))), cs_7, k18, h2) ?_ ?_ e4z rfl rfl
   ·
    refine ⟨(((((hmma.trans hg11).trans hh1).trans hg15).trans hg18).trans hh2), ?_⟩
    refine ⟨rb_8, (by omega), ?_⟩
    exact ⟨by omega, by first | exact sp_next (by omega) hh (half_int (n := 4) (by omega) (by decide)) | exact sp_next (by omega) (fun u hu => sp_next (by omega) hh (half_int (n := 4) (by omega) (by decide)) u (by omega)) (half_mk2 (by omega))⟩
   dsimp only
   omega
  refine zK (xC (zB (zA (mv rfl rfl (gv (zS (q := 1) rfl rfl (by omega) (by omega)) rfl (asg rfl rfl (zD ?_)))))))
  refine yV ((i + 1), (m0.set i ((z11 : Int) : Rat)), cs_5, k15, g15) ?_ ?_ e4z rfl rfl
  ·
   refine ⟨(((hmma.trans hg11).trans hh1).trans hg15), ?_⟩
   replace rb_6 := rb_6.mono hg15
   refine ⟨rb_6, (by omega), ?_⟩
   exact ⟨by omega, by first | exact sp_next (by omega) hh (half_int (n := 4) (by omega) (by decide)) | exact sp_next (by omega) (fun u hu => sp_next (by omega) hh (half_int (n := 4) (by omega) (by decide)) u (by omega)) (half_mk2 (by omega))⟩
  dsimp only
  omega
 refine xG (yB (yB (xF (zB (zC (zA (xX (F := fun v_ => (rpT (rpQ 2)).Is ma v_ m0) (zE xJ (Pc.here _) rfl rfl rb_2 rfl) (yD mh0) rfl ?_)))))))
 intro v21 r21
 replace rb2 := rb2.mono hmma
 refine wW (A := [_]) (F := fun c_ => (rpT (rpQ 2)).R ma c_ m0) (yJ sizeOf32 (Pc.here _) rfl rfl rfl rb2 r21 rfl) ?_
 intro cs_9 rb_10
 refine zD (zB (zQ (uZ (rv_o (t := 2) xJ mh1 rfl rb_10) ?_)))
 intro w_11 hvw_11 rr_12
 refine gq_res_own (fun E S => yS rfl hvw_11 E S) ?_
 exact ⟨_, (.cons _ (.cons _ (List.Sublist.refl _))), hmma, _, _, rfl, by omega, sp_of (fun u hu => hh u (by omega)), rr_12⟩
theorem o_r5_axes {w0 : World} {h0 : Mem}  (hs : MLe h0 (mem w0)) {m l : Nat} {vs : Value} {s : ((T3 Rat) × Rat)} (rs : (rpP (rpT (rpQ m)) (rpQ l)).Is h0 vs s) (hcd0 : m ≤ 1000000000)  :
    Calls Tryz.prog 112 #[vs] w0 (Ret w0 h0 (fun h r => r = .tuple #[vI (↑(axI s.1) : Int), vI (↑(axJ s.1) : Int), vI (↑(axK s.1) : Int)])) := by
 refine zM (n := 29) (e := [(0, vs)]) (vs := [vs]) func112 rfl rfl (bL rfl) hs ⟨rfl, trivial⟩ (zC (zA (zI (yU (ρ := (rpP (rpT (rpQ m)) (rpQ l))) rfl rs) rfl rfl rfl ?_)))
 intro v1 q1 hq1
 obtain ⟨b1, cs1, rfl, rfl, rb1⟩ := hq1
 refine asg (v := vI (0)) rfl rfl (asg (v := vI (0)) rfl rfl (asg (v := vI (0)) rfl rfl (zD (zB (zC (zA (asg (v := vI (0)) rfl rfl (asg (v := vI (1)) rfl rfl (asg (v := vI (2)) rfl rfl (zD (zB (zC (zC ?_)))))))))))))
 refine zA (gv ((zG underlying34 rfl sizeOf32 rfl).cv (show _ = vP b1 0 from congrArg (vP b1) (by rfl))) rfl (gv ((zH (sz := 3) (q := 2) 2 underlying32 sizeOf30 rfl rfl rfl (by decide)).cv (show _ = vP b1 6 from congrArg (vP b1) (by rfl))) rfl (xX (F := fun v_ => (rpQ m).Is h0 v_ s.1.z) (zE xS (Pc.fst (Pc.tz (Pc.here _))) rfl rfl rb1 rfl) (yD mh0) rfl ?_)))
 intro v10 r10
 refine zO (vs := [_]) rfl rfl rfl rfl call50 ⟨rfl, trivial⟩ (fun w hs => o_rref_sign hs r10 (by omega)) ?_
 intro v11 h1 hh1 r11
 obtain rfl : v11 = vI (uT s.1.z) := r11
 have hsr11 := uE s.1.z
 refine gv (xU (q := 0) rfl rfl) rfl (zD (zB ?_))
 refine zN rfl (fun hc12 => ?_) (fun hc12 => ?_)
 ·
  refine wJ (e' := [(1, _)]) ⟨rfl, trivial⟩ (zC (zA (asg (v := vI (2)) rfl rfl (asg (v := vI (0)) rfl rfl (asg (v := vI (1)) rfl rfl (zD (zB (zC (zA (gv ((zG underlying34 rfl sizeOf32 rfl).cv (show _ = vP b1 0 from congrArg (vP b1) (by rfl))) rfl (gv ((zH (sz := 3) (q := 1) 1 underlying32 sizeOf30 rfl rfl rfl (by decide)).cv (show _ = vP b1 3 from congrArg (vP b1) (by rfl))) rfl ?_)))))))))))
  replace rb1 := rb1.mono hh1
  refine xX (F := fun v_ => (rpQ m).Is h1 v_ s.1.y) (zE xS (Pc.fst (Pc.ty (Pc.here _))) rfl rfl rb1 rfl) (yD mh0) rfl ?_
  intro v15 r15
  refine zO (vs := [_]) rfl rfl rfl rfl call50 ⟨rfl, trivial⟩ (fun w hs => o_rref_sign hs r15 (by omega)) ?_
  intro v16 h2 hh2 r16
  obtain rfl : v16 = vI (uT s.1.y) := r16
  have hsr16 := uE s.1.y
  refine gv (xU (q := 0) rfl rfl) rfl (zD (zB ?_))
  refine zN rfl (fun hc17 => ?_) (fun hc17 => ?_)
  ·
   refine zA (asg (v := vI (1)) rfl rfl (asg (v := vI (2)) rfl rfl (asg (v := vI (0)) rfl rfl (zD (zB (zC (zC (zA (mv rfl rfl (gv ((zG underlying34 rfl sizeOf32 rfl).cv (show _ = vP b1 0 from congrArg (vP b1) (by rfl))) rfl (gv ((zH (sz := 3) 0 underlying32 sizeOf30 rfl rfl rfl (by decide)).cv (show _ = vP b1 0 from congrArg (vP b1) (by rfl))) rfl ?_)))))))))))
   replace rb1 := rb1.mono hh2
   refine xX (F := fun v_ => (rpQ m).Is h2 v_ s.1.x) (zE xS (Pc.fst (Pc.tx (Pc.here _))) rfl rfl rb1 rfl) (yD mh0) rfl ?_
   intro v21 r21
   refine zO (vs := [_]) rfl rfl rfl rfl call50 ⟨rfl, trivial⟩ (fun w hs => o_rref_sign hs r21 (by omega)) ?_
   intro v22 h3 hh3 r22
   obtain rfl : v22 = vI (uT s.1.x) := r22
   have hsr22 := uE s.1.x
   refine gv (zW (q := 0) rfl rfl) rfl (zD (zJ (e' := [(5, _), (6, _), (7, _), (23, _)]) e4z (zB ?_)))
   refine zN rfl (fun hc23 => ?_) (fun hc23 => ?_)
   ·
    refine zA (mv rfl rfl (mv rfl rfl (asg rfl rfl (asg rfl rfl (zD (zB (zC (zA (mv rfl rfl (mv rfl rfl (mv rfl rfl (asg rfl rfl (asg rfl rfl ?_)))))))))))))
    refine asg rfl rfl (zD (zB (zQ (qL rfl rfl rfl rfl ?_))))
    have eI : axI s.1 = 2 := by unfold axI; simp only [uQ, qY] at *; grind
    have eJ : axJ s.1 = 1 := by unfold axJ; simp only [uQ, qY] at *; grind
    have eK : axK s.1 = 0 := by unfold axK; simp only [uQ, qY] at *; grind
    rw [eI, eJ, eK]; rfl
   refine zK (zB (zC (zA (mv rfl rfl (mv rfl rfl (mv rfl rfl (asg rfl rfl (asg rfl rfl (asg rfl rfl (zD (zB (zQ (qL rfl rfl rfl rfl ?_)))))))))))))
   have eI : axI s.1 = 1 := by unfold axI; simp only [uQ, qY] at *; grind
   have eJ : axJ s.1 = 2 := by unfold axJ; simp only [uQ, qY] at *; grind
   have eK : axK s.1 = 0 := by unfold axK; simp only [uQ, qY] at *; grind
   rw [eI, eJ, eK]; rfl
  refine zK (zB (zC (zC (zA (mv rfl rfl (gv ((zG underlying34 rfl sizeOf32 rfl).cv (show _ = vP b1 0 from congrArg (vP b1) (by rfl))) rfl (gv ((zH (sz := 3) 1 underlying32 sizeOf30 rfl rfl rfl (by decide)).cv (show _ = vP b1 3 from congrArg (vP b1) (by rfl))) rfl ?_)))))))
  replace rb1 := rb1.mono hh2
  refine xX (F := fun v_ => (rpQ m).Is h2 v_ s.1.y) (zE xS (Pc.fst (Pc.ty (Pc.here _))) rfl rfl rb1 rfl) (yD mh0) rfl ?_
  intro v21 r21
  refine zO (vs := [_]) rfl rfl rfl rfl call50 ⟨rfl, trivial⟩ (fun w hs => o_rref_sign hs r21 (by omega)) ?_
  intro v22 h3 hh3 r22
  obtain rfl : v22 = vI (uT s.1.y) := r22
  have hsr22 := uE s.1.y
  refine gv (zW (q := 0) rfl rfl) rfl (zD (zJ (e' := [(5, _), (6, _), (7, _), (23, _)]) e4z (zB ?_)))
  refine zN rfl (fun hc23 => ?_) (fun hc23 => ?_)
  ·
   refine zA (mv rfl rfl (mv rfl rfl (asg rfl rfl (asg rfl rfl (zD (zB (zC (zA (mv rfl rfl (mv rfl rfl (mv rfl rfl (asg rfl rfl (asg rfl rfl ?_)))))))))))))
   refine asg rfl rfl (zD (zB (zQ (qL rfl rfl rfl rfl ?_))))
   have eI : axI s.1 = 0 := by unfold axI; simp only [uQ, qY] at *; grind
   have eJ : axJ s.1 = 2 := by unfold axJ; simp only [uQ, qY] at *; grind
   have eK : axK s.1 = 1 := by unfold axK; simp only [uQ, qY] at *; grind
   rw [eI, eJ, eK]; rfl
  refine zK (zB (zC (zA (mv rfl rfl (mv rfl rfl (mv rfl rfl (asg rfl rfl (asg rfl rfl (asg rfl rfl (zD (zB (zQ (qL rfl rfl rfl rfl ?_)))))))))))))
  have eI : axI s.1 = 2 := by unfold axI; simp only [uQ, qY] at *; grind
  have eJ : axJ s.1 = 0 := by unfold axJ; simp only [uQ, qY] at *; grind
  have eK : axK s.1 = 1 := by unfold axK; simp only [uQ, qY] at *; grind
  rw [eI, eJ, eK]; rfl
 refine zK (zB (zC (zC (zA (mv rfl rfl (gv ((zG underlying34 rfl sizeOf32 rfl).cv (show _ = vP b1 0 from congrArg (vP b1) (by rfl))) rfl (gv ((zH (sz := 3) 2 underlying32 sizeOf30 rfl rfl rfl (by decide)).cv (show _ = vP b1 6 from congrArg (vP b1) (by rfl))) rfl ?_)))))))
 replace rb1 := rb1.mono hh1
 refine xX (F := fun v_ => (rpQ m).Is h1 v_ s.1.z) (zE xS (Pc.fst (Pc.tz (Pc.here _))) rfl rfl rb1 rfl) (yD mh0) rfl ?_
 intro v21 r21
 refine zO (vs := [_]) rfl rfl rfl rfl call50 ⟨rfl, trivial⟩ (fun w hs => o_rref_sign hs r21 (by omega)) ?_
 intro v22 h2 hh2 r22
 obtain rfl : v22 = vI (uT s.1.z) := r22
 have hsr22 := uE s.1.z
 refine gv (zW (q := 0) rfl rfl) rfl (zD (zJ (e' := [(5, _), (6, _), (7, _), (23, _)]) e4z (zB ?_)))
 refine zN rfl (fun hc23 => ?_) (fun hc23 => ?_)
 ·
  refine zA (mv rfl rfl (mv rfl rfl (asg rfl rfl (asg rfl rfl (zD (zB (zC (zA (mv rfl rfl (mv rfl rfl (mv rfl rfl (asg rfl rfl (asg rfl rfl ?_)))))))))))))
  refine asg rfl rfl (zD (zB (zQ (qL rfl rfl rfl rfl ?_))))
  have eI : axI s.1 = 1 := by unfold axI; simp only [uQ, qY] at *; grind
  have eJ : axJ s.1 = 0 := by unfold axJ; simp only [uQ, qY] at *; grind
  have eK : axK s.1 = 2 := by unfold axK; simp only [uQ, qY] at *; grind
  rw [eI, eJ, eK]; rfl
 refine zK (zB (zC (zA (mv rfl rfl (mv rfl rfl (mv rfl rfl (asg rfl rfl (asg rfl rfl (asg rfl rfl (zD (zB (zQ (qL rfl rfl rfl rfl ?_)))))))))))))
 have eI : axI s.1 = 0 := by unfold axI; simp only [uQ, qY] at *; grind
 have eJ : axJ s.1 = 1 := by unfold axJ; simp only [uQ, qY] at *; grind
 have eK : axK s.1 = 2 := by unfold axK; simp only [uQ, qY] at *; grind
 rw [eI, eJ, eK]; rfl
theorem o_r5_flatten {w0 : World} {h0 : Mem}  (hs : MLe h0 (mem w0)) {m l k : Nat} {vs : Value} {s : ((T3 Rat) × Rat)} (rs : (rpP (rpT (rpQ m)) (rpQ l)).Is h0 vs s) {vp : Value} {p : (T3 Rat)} (rp : (rpT (rpQ k)).Is h0 vp p) (hcd0 : k ≤ 1000000000) (hcd1 : m ≤ 1000000000)  :
    Calls Tryz.prog 73 #[vs, vp] w0 (Ret w0 h0 (fun h r => (rpT (rpQ (k + 1))).Is h r (qX s p))) := by
 refine zM (n := 21) (e := [(0, vs), (1, vp)]) (vs := [vs, vp]) func73 rfl rfl (bL rfl) hs e2z (zC (zA (zI (yU (ρ := (rpP (rpT (rpQ m)) (rpQ l))) rfl rs) rfl rfl rfl ?_)))
 intro v2 q2 hq2
 obtain ⟨b2, cs2, rfl, rfl, rb2⟩ := hq2
 refine zI (yU (ρ := (rpT (rpQ k))) rfl rp) rfl rfl rfl ?_
 intro v3 q3 hq3
 obtain ⟨b3, cs3, rfl, rfl, rb3⟩ := hq3
 refine zI (yR (ρ := (rpT (rpQ (k + 1)))) (X := zT) yL rfl rfl (wO (wB (by omega)))) rfl rfl rfl ?_
 intro v4 q4 hq4
 obtain ⟨b4, cs4, rfl, rfl, rb4⟩ := hq4
 refine zD (zB (zC (zA (xX (F := fun v_ => (rpP (rpT (rpQ m)) (rpQ l)).Is h0 v_ s) (zE kH (Pc.here _) rfl rfl rb2 rfl) (yD mh2) rfl ?_))))
 intro v9 r9
 refine zO (vs := [_]) rfl rfl rfl rfl call112 ⟨rfl, trivial⟩ (fun w hs => o_r5_axes hs r9 (by omega)) ?_
 intro v10 h1 hh1 r10
 obtain rfl := r10
 refine mv rfl rfl (gv (zL (vs := [_, _, _]) rfl rfl) rfl (gv (zL (vs := [_, _, _]) rfl rfl) rfl (gv (zL (vs := [_, _, _]) rfl rfl) rfl (asg rfl rfl (asg rfl rfl (asg rfl rfl (zD (zJ (e' := [(3, _), (4, _), (5, _), (6, _)]) e4z (zB (zC ?_))))))))))
 refine yF 7 _ [] [(0, .q), (1, .q), (2, .q), (3, .q), (4, .q), (5, .q), (6, .q), (7, .t)] xH nX (by kernel_rfl) nX (fun r hr => hr) (yH rfl rfl rfl (yK rfl (fun _ _ => (zH (sz := 3) (axI s.1) underlying32 sizeOf30 rfl rfl (by rfl) (by exact axI_lt _)).cv (show _ = vP b3 (((axI s.1) * 3 + 0)) from congrArg (vP b3) (by omega))) rfl ?_))
 replace rb3 := rb3.mono hh1
 refine yP (F := fun v_ => (rpQ k).Is h1 v_ (p.at (axI s.1))) rfl (zE xS (Pc.ta (Pc.here _) (axI s.1) (by exact axI_lt _)) rfl rfl rb3 rfl) (yD mh1) rfl ?_
 intro v16 r16
 refine yH rfl rfl rfl (yK rfl (fun _ _ => (zH (sz := 3) (axJ s.1) underlying32 sizeOf30 rfl rfl (by rfl) (by exact axJ_lt _)).cv (show _ = vP b3 (((axJ s.1) * 3 + 0)) from congrArg (vP b3) (by omega))) rfl (yP (F := fun v_ => (rpQ k).Is h1 v_ (p.at (axJ s.1))) rfl (zE xS (Pc.ta (Pc.here _) (axJ s.1) (by exact axJ_lt _)) rfl rfl rb3 rfl) (yD mh1) rfl ?_))
 intro v19 r19
 refine yP (F := fun v_ => (rpT (rpQ (k + 1))).Is h1 v_ (T3.mk (p.at (axI s.1)) (p.at (axJ s.1)) (0 : Rat))) rfl (wP (ps' := [(0, _), (1, _)]) underlying32 yL rfl rfl sizeOf30 e4z rfl (wO (wB (by omega))) (yZ rfl (Pc.tx (Pc.here _)) (r16.le (Le.q (l := k + 1) (by omega))) (yZ rfl (Pc.ty (Pc.here _)) (r19.le (Le.q (l := k + 1) (by omega))) wH))) vQ rfl ?_
 intro v20 r20
 replace rb4 := rb4.mono hh1
 refine xR (A := []) (F := fun c_ => (rpT (rpQ (k + 1))).R h1 c_ (T3.mk (p.at (axI s.1)) (p.at (axJ s.1)) (0 : Rat))) rfl (yJ sizeOf32 (Pc.here _) rfl rfl rfl rb4 r20 rfl) ?_
 intro cs_13 rb_14
 refine xB (zJ (e' := [(4, _)]) ⟨rfl, trivial⟩ (zB (zQ (uZ (rv_o (t := 4) xJ mh0 rfl rb_14) ?_))))
 intro w_15 hvw_15 rr_16
 refine xQ (fun E S => yS rfl hvw_15 E S) ?_
 exact rr_16
theorem o_r5_lift {w0 : World} {h0 : Mem}  (hs : MLe h0 (mem w0)) {m l k : Nat} {vs : Value} {s : ((T3 Rat) × Rat)} (rs : (rpP (rpT (rpQ m)) (rpQ l)).Is h0 vs s) {vq : Value} {q : (T3 Rat)} (rq : (rpT (rpQ k)).Is h0 vq q) (hcd0 : k ≤ 1000000) (hcd1 : l ≤ 1000000) (hcd2 : m ≤ 1000000)  :
    Calls Tryz.prog 114 #[vs, vq] w0 (Ret w0 h0 (fun h r => ∃ u0, r = .tuple #[u0, vB (¬ s.1.at (axK s.1) = 0)] ∧ (rpT (rpQ (3 * k + l + 4 * m + 30))).Is h u0 (qF s q))) := by
 have hax := ax_sum s.1
 refine zM (n := 46) (e := [(0, vs), (1, vq)]) (vs := [vs, vq]) func114 rfl rfl (bL rfl) hs e2z (zC (zA (zI (yU (ρ := (rpP (rpT (rpQ m)) (rpQ l))) rfl rs) rfl rfl rfl ?_)))
 intro v2 q2 hq2
 obtain ⟨b2, cs2, rfl, rfl, rb2⟩ := hq2
 refine zI (yU (ρ := (rpT (rpQ k))) rfl rq) rfl rfl rfl ?_
 intro v3 q3 hq3
 obtain ⟨b3, cs3, rfl, rfl, rb3⟩ := hq3
 refine zI (yR (ρ := (rpT (rpQ (3 * k + l + 4 * m + 30)))) (X := zT) yL rfl rfl (wO (wB (by omega)))) rfl rfl rfl ?_
 intro v4 q4 hq4
 obtain ⟨b4, cs4, rfl, rfl, rb4⟩ := hq4
 refine asg rfl rfl (zD (zB (zC (zC (zA (gv ((zG underlying34 rfl sizeOf32 rfl).cv (show _ = vP b2 0 from congrArg (vP b2) (by rfl))) rfl (xX (F := fun v_ => (rpT (rpQ m)).Is h0 v_ s.1) (zE xJ (Pc.fst (Pc.here _)) rfl rfl rb2 rfl) (yD mh2) rfl ?_)))))))
 intro v11 r11
 refine zO (vs := [_]) rfl rfl rfl rfl call41 ⟨rfl, trivial⟩ (fun w hs => o_r4_zero hs r11 (by omega)) ?_
 intro v12 h1 hh1 r12
 obtain rfl : v12 = vB (s.1 = zT) := r12
 refine zD (zB ?_)
 refine zN rfl (fun hc12 => ?_) (fun hc12 => ?_)
 ·
  have hz := (ax_zero s.1).2 hc12
  refine zC (zA (xX (F := fun v_ => (rpT (rpQ 1)).Is h1 v_ zT) (wP (ps' := []) underlying32 yL rfl rfl sizeOf30 trivial rfl (wO (wB (by decide))) wH) vQ rfl ?_))
  intro v13 r13
  replace rb4 := rb4.mono hh1
  refine wW (A := []) (F := fun c_ => (rpT (rpQ (3 * k + l + 4 * m + 30))).R h1 c_ zT) (yJ sizeOf32 (Pc.here _) rfl rfl rfl rb4 (r13.le (Le.t (Le.q (l := 3 * k + l + 4 * m + 30) (by omega)))) rfl) ?_
  intro cs_17 rb_18
  refine asg rfl rfl (zD (zB (zQ (zV (uZ (rv_o (t := 4) xJ mh0 rfl rb_18) ?_)))))
  intro w_19 hvw_19 rr_20
  refine xQ (fun E S => run_res2 rfl hvw_19 (rv_tmp rfl) E S) ?_
  refine ⟨_, ?_, (Rp.Is.cast rr_20 (by exact (if_pos hz).symm))⟩
  rw [yX (fun e => e hz)]
 have hz : ¬ s.1.at (axK s.1) = 0 := fun e => hc12 ((ax_zero s.1).1 e)
 refine zK (zB (zC (zA ?_)))
 replace rb2 := rb2.mono hh1
 refine xX (F := fun v_ => (rpP (rpT (rpQ m)) (rpQ l)).Is h1 v_ s) (zE kH (Pc.here _) rfl rfl rb2 rfl) (yD mh2) rfl ?_
 intro v15 r15
 refine zO (vs := [_]) rfl rfl rfl rfl call112 ⟨rfl, trivial⟩ (fun w hs => o_r5_axes hs r15 (by omega)) ?_
 intro v16 h2 hh2 r16
 obtain rfl := r16
 refine mv rfl rfl (gv (zL (vs := [_, _, _]) rfl rfl) rfl (gv (zL (vs := [_, _, _]) rfl rfl) rfl (gv (zL (vs := [_, _, _]) rfl rfl) rfl (asg rfl rfl (asg rfl rfl (asg rfl rfl (zD (zJ (e' := [(2, _), (3, _), (4, _), (6, _), (7, _), (8, _)]) e6 (zB (zC (zA (zI (yR (ρ := (rpT (rpQ (k + 1)))) (X := zT) yL rfl rfl (wO (wB (by omega)))) rfl rfl rfl ?_))))))))))))
 intro v9 q9 hq9
 obtain ⟨b9, cs9, rfl, rfl, rb9⟩ := hq9
 refine zD (zB (zC ?_))
 refine gc_draw1 (A := []) 10 [] [(0, .q), (1, .q), (2, .q), (3, .q), (4, .q), (5, .q), (6, .q), (7, .c), (8, .q), (9, .c)] xH nX (by kernel_rfl) nX (yH rfl rfl rfl (yH rfl rfl rfl (yK rfl (fun _ _ => (zH (sz := 3) (q := 0) 0 underlying32 sizeOf30 rfl rfl rfl (by decide)).cv (show _ = vP b3 0 from congrArg (vP b3) (by rfl))) rfl ?_)))
 replace rb3 := rb3.mono (hh1.trans hh2)
 refine yP (F := fun v_ => (rpQ k).Is h2 v_ q.x) rfl (zE xS (Pc.tx (Pc.here _)) rfl rfl rb3 rfl) (yD mh1) rfl ?_
 intro v23 r23
 refine yK rfl (fun _ _ => (zH (sz := 3) (q := 1) 1 underlying32 sizeOf30 rfl rfl rfl (by decide)).cv (show _ = vP b3 3 from congrArg (vP b3) (by rfl))) rfl (yP (F := fun v_ => (rpQ k).Is h2 v_ q.y) rfl (zE xS (Pc.ty (Pc.here _)) rfl rfl rb3 rfl) (yD mh1) rfl ?_)
 intro v25 r25
 refine yK rfl (fun _ _ => (zH (sz := 3) (axI s.1) underlying32 sizeOf30 rfl rfl (by rfl) (by exact axI_lt _)).cv (show _ = vP b9 (((axI s.1) * 3 + 0)) from congrArg (vP b9) (by omega))) rfl ?_
 refine w_c rfl (s_updx (A := []) (F := fun c_ => (rpT (rpQ (k + 1))).R h2 c_ (zT.set (axI s.1) q.x)) (yJ sizeOf30 (Pc.ta (Pc.here _) (axI s.1) (by exact axI_lt _)) rfl rfl rfl rb9 (r23.le (Le.q (l := k + 1) (by omega))) rfl) (wV (by first | (simp; done) | grind)) ?_)
 intro cs_21 rb_22
 refine yK rfl (fun _ _ => (zH (sz := 3) (axJ s.1) underlying32 sizeOf30 rfl rfl (by rfl) (by exact axJ_lt _)).cv (show _ = vP b9 (((axJ s.1) * 3 + 0)) from congrArg (vP b9) (by omega))) rfl ?_
 refine w_c rfl (s_updx (A := []) (F := fun c_ => (rpT (rpQ (k + 1))).R h2 c_ ((zT.set (axI s.1) q.x).set (axJ s.1) q.y)) (yJ sizeOf30 (Pc.ta (Pc.here _) (axJ s.1) (by exact axJ_lt _)) rfl rfl rfl rb_22 (r25.le (Le.q (l := k + 1) (by omega))) rfl) (wV (by first | (simp; done) | grind)) ?_)
 intro cs_23 rb_24
 refine xB (zJ (e' := [(2, _), (4, _), (8, _), (9, _)]) e4z (zB (zC ?_)))
 refine gc_draw1 (A := []) 18 [] [(0, .q), (1, .q), (2, .q), (3, .q), (4, .q), (8, .q), (9, .q), (10, .q), (11, .q), (5, .c), (6, .c), (7, .c), (12, .c), (13, .q), (14, .q), (15, .q), (16, .q), (17, .c)] xH nX (chk_of [0, 0, 2, 0, 8, 0, 48, 68, 0, 0, 768, 1024, 2176, 4096, 8192, 8192, 32767, 98303] [262143, 262143, 262141, 262143, 262135, 262143, 262095, 262075, 262143, 262143, 261375, 261119, 259967, 258047, 253951, 253951, 262142, 180223] (by kernel_rfl)) nX (yH rfl rfl rfl (yK rfl (fun _ _ => (zG underlying34 rfl sizeOf30 rfl).cv (show _ = vP b2 9 from congrArg (vP b2) (by rfl))) rfl ?_))
 replace rb2 := rb2.mono hh2
 refine yP (F := fun v_ => (rpQ l).Is h2 v_ s.2) rfl (zE xS (Pc.snd (Pc.here _)) rfl rfl rb2 rfl) (yD mh2) rfl ?_
 intro v31 r31
 refine yK rfl (fun _ _ => (zG underlying34 rfl sizeOf32 rfl).cv (show _ = vP b2 0 from congrArg (vP b2) (by rfl))) rfl (yP (F := fun v_ => (rpT (rpQ m)).Is h2 v_ s.1) rfl (zE xJ (Pc.fst (Pc.here _)) rfl rfl rb2 rfl) (yD mh2) rfl ?_)
 intro v33 r33
 refine yH rfl rfl rfl (yK rfl (fun _ _ => (zG underlying34 rfl sizeOf32 rfl).cv (show _ = vP b2 0 from congrArg (vP b2) (by rfl))) rfl (yK rfl (fun _ _ => (zH (sz := 3) (axK s.1) underlying32 sizeOf30 rfl rfl (by rfl) (by exact axK_lt _)).cv (show _ = vP b2 (((axK s.1) * 3 + 0)) from congrArg (vP b2) (by omega))) rfl (yP (F := fun v_ => (rpQ m).Is h2 v_ (s.1.at (axK s.1))) rfl (zE xS (Pc.fst (Pc.ta (Pc.here _) (axK s.1) (by exact axK_lt _))) rfl rfl rb2 rfl) (yD mh2) rfl ?_)))
 intro v40 r40
 refine w_c rfl (s_x (F := fun v_ => (rpT (rpQ (k + 1))).Is h2 v_ ((zT.set (axI s.1) q.x).set (axJ s.1) q.y)) (zE xJ (Pc.here _) rfl rfl rb_24 rfl) (yD mh0) rfl ?_)
 intro v34 r34
 refine w_c rfl ?_
 refine zY (vs := [_, _]) call57 e2z (fun w hs => o_r4_dot hs r33 r34 (by omega)) rfl ?_
 intro v35 h3 hh3 r35
 change (rpQ (3 * m + 3 * (k + 1) + 9)).Is h3 v35 (wR s.1 ((zT.set (axI s.1) q.x).set (axJ s.1) q.y)) at r35
 replace r35 := Rp.Is.le r35 (Le.q (l := 3 * k + 3 * m + 12) (by omega))
 refine w_c rfl ?_
 replace r31 := r31.mono hh3
 refine zY (vs := [_, _]) call56 e2z (fun w hs => jG hs r31 r35 (by omega)) rfl ?_
 intro v36 h4 hh4 r36
 change (rpQ (l + (3 * k + 3 * m + 12) + 1)).Is h4 v36 (s.2 - (wR s.1 ((zT.set (axI s.1) q.x).set (axJ s.1) q.y))) at r36
 replace r36 := Rp.Is.le r36 (Le.q (l := 3 * k + l + 3 * m + 13) (by omega))
 refine w_c rfl ?_
 replace r40 := r40.mono (hh3.trans hh4)
 refine zY (vs := [_, _]) call88 e2z (fun w hs => o_rref_quo hs r36 r40 (by omega)) rfl ?_
 intro v41 h5 hh5 r41
 obtain ⟨v41_0, rfl, r41_0⟩ := r41
 change (rpQ ((3 * k + l + 3 * m + 13) + m)).Is h5 v41_0 (if (s.1.at (axK s.1)) = 0 then 0 else (s.2 - (wR s.1 ((zT.set (axI s.1) q.x).set (axJ s.1) q.y))) / (s.1.at (axK s.1))) at r41_0
 replace r41_0 := Rp.Is.le r41_0 (Le.q (l := 3 * k + l + 4 * m + 13) (by omega))
 refine yH rfl rfl rfl (yK rfl (fun _ _ => zL (vs := [_, _]) rfl rfl) rfl (yK rfl (fun _ _ => zL (vs := [_, _]) rfl rfl) rfl (yK rfl (fun _ _ => (zH (sz := 3) (axK s.1) underlying32 sizeOf30 rfl rfl (by rfl) (by exact axK_lt _)).cv (show _ = vP b9 (((axK s.1) * 3 + 0)) from congrArg (vP b9) (by omega))) rfl ?_)))
 refine w_c rfl ?_
 replace rb_24 := rb_24.mono ((hh3.trans hh4).trans hh5)
 have rw_25 := (Le.t (Le.q (l := 3 * k + l + 4 * m + 13) (by omega))).R rb_24
 refine s_updx (A := []) (F := fun c_ => (rpT (rpQ (3 * k + l + 4 * m + 13))).R h5 c_ (((zT.set (axI s.1) q.x).set (axJ s.1) q.y).set (axK s.1) (if (s.1.at (axK s.1)) = 0 then 0 else (s.2 - (wR s.1 ((zT.set (axI s.1) q.x).set (axJ s.1) q.y))) / (s.1.at (axK s.1))))) (yJ sizeOf30 (Pc.ta (Pc.here _) (axK s.1) (by exact axK_lt _)) rfl rfl rfl rw_25 r41_0 rfl) (wV (by first | (simp; done) | grind)) ?_
 intro cs_26 rb_27
 refine xB (zJ (e' := [(4, _), (9, _)]) e2z (zB (zC (zA (xX (F := fun v_ => (rpT (rpQ (3 * k + l + 4 * m + 13))).Is h5 v_ (((zT.set (axI s.1) q.x).set (axJ s.1) q.y).set (axK s.1) (if (s.1.at (axK s.1)) = 0 then 0 else (s.2 - (wR s.1 ((zT.set (axI s.1) q.x).set (axJ s.1) q.y))) / (s.1.at (axK s.1))))) (zE xJ (Pc.here _) rfl rfl rb_27 rfl) (yD mh0) rfl ?_)))))
 intro v45 r45
 replace rb4 := rb4.mono ((((hh1.trans hh2).trans hh3).trans hh4).trans hh5)
 refine wW (A := [_]) (F := fun c_ => (rpT (rpQ (3 * k + l + 4 * m + 30))).R h5 c_ (((zT.set (axI s.1) q.x).set (axJ s.1) q.y).set (axK s.1) (if (s.1.at (axK s.1)) = 0 then 0 else (s.2 - (wR s.1 ((zT.set (axI s.1) q.x).set (axJ s.1) q.y))) / (s.1.at (axK s.1))))) (yJ sizeOf32 (Pc.here _) rfl rfl rfl rb4 (r45.le (Le.t (Le.q (l := 3 * k + l + 4 * m + 30) (by omega)))) rfl) ?_
 intro cs_28 rb_29
 refine asg rfl rfl (zD (zB (zQ (uZ (rv_o (t := 4) xJ mh1 rfl rb_29) ?_))))
 intro w_30 hvw_30 rr_31
 refine xQ (fun E S => run_res2 rfl hvw_30 (rv_tmp rfl) E S) ?_
 refine ⟨_, ?_, (Rp.Is.cast rr_31 (by exact ref_lift hc12))⟩
 rw [xL hz]
end Go.Proofs.YtghhjjmjpeehdaaGreat
namespace Bk
set_option linter.unusedVariables false
open Classical
def pairsTo (R : Nat → Nat → Prop) (n a : Nat) : Prop := ∀ p q, p < a → p < q → q < n → R p q
def rowTo (R : Nat → Nat → Prop) (a b : Nat) : Prop := ∀ q, a < q → q < b → R a q
def difR (l : List Pt) (i j p q : Nat) : Prop := ¬ pr (gp l p) i j = pr (gp l q) i j
noncomputable def wantZ (n p q : Nat) : Int := if q = p + 1 ∨ (p = 0 ∧ q + 1 = n) then 1 else 0
def okT (l : List Pt) (i j p q : Nat) : Prop := touch2 (edgeA l i j p) (edgeB l i j p) (edgeA l i j q) (edgeB l i j q) = wantZ l.length p q
def simP (l : List Pt) (i j : Nat) : Prop := 3 ≤ l.length ∧ pairsTo (difR l i j) l.length l.length ∧ pairsTo (okT l i j) l.length l.length
end Bk
namespace Bk
set_option linter.unusedVariables false
set_option linter.unusedSimpArgs false
open Classical
def addT (a b : Pt) : Pt := T3.mk (a.x + b.x) (a.y + b.y) (a.z + b.z)
def moved (l l' : List Pt) (v : Pt) : Prop := l'.length = l.length ∧ ∀ q, q < l.length → gp l' q = addT (gp l q) v
def sh (a v : P2) : P2 := (a.1 + v.1, a.2 + v.2)
end Bk
namespace Bk
set_option linter.unusedVariables false
set_option linter.unusedSimpArgs false
open Classical
def reved (l z : List Pt) : Prop := z.length = l.length ∧ ∀ q, q < l.length → gp z q = gp l (l.length - 1 - q)
def sN (n m : Nat) : Nat := if m + 1 = n then m else n - 2 - m
def movTo (l y : List Pt) (v : Pt) (m : Nat) : Prop := y.length = m ∧ ∀ q, q < m → gp y q = addT (gp l q) v
def revTo (l z : List Pt) (m : Nat) : Prop := z.length = m ∧ ∀ q, q < m → gp z q = gp l (l.length - 1 - q)
end Bk
namespace Bk
set_option linter.unusedVariables false
set_option linter.unusedSimpArgs false
open Classical
def hgt (pl : Pl) (p : Pt) : Rat := wR pl.1 p - pl.2
noncomputable def sdZ (pl : Pl) (p : Pt) : Int := uT (hgt pl p)
theorem kS (pl : Pl) (p : Pt) : -1 ≤ sdZ pl p ∧ sdZ pl p ≤ 1 := uE _
def lerp (t : Rat) (a b : Pt) : Pt := T3.mk (a.x + t * (b.x - a.x)) (a.y + t * (b.y - a.y)) (a.z + t * (b.z - a.z))
noncomputable def cutT (pl : Pl) (a b : Pt) : Rat := if hgt pl a - hgt pl b = 0 then 0 else hgt pl a / (hgt pl a - hgt pl b)
noncomputable def btw (pl : Pl) (a b : Pt) : Pt := lerp (cutT pl a b) a b
abbrev nx (l : List Pt) (m : Nat) : Pt := gp l ((m + 1) % l.length)
def xP (pl : Pl) (l : List Pt) (m : Nat) : Prop := sdZ pl (gp l m) * sdZ pl (nx l m) < 0
noncomputable def bkTo (pl : Pl) (l : List Pt) : Nat → List Pt
  | 0 => []
  | m + 1 => bkTo pl l m ++ (if sdZ pl (gp l m) ≤ 0 then [gp l m] else []) ++ (if xP pl l m then [btw pl (gp l m) (nx l m)] else [])
noncomputable def frTo (pl : Pl) (l : List Pt) : Nat → List Pt
  | 0 => []
  | m + 1 => frTo pl l m ++ (if 0 ≤ sdZ pl (gp l m) then [gp l m] else []) ++ (if xP pl l m then [btw pl (gp l m) (nx l m)] else [])
def qV (pl : Pl) (l : List Pt) : Nat → Prop
  | 0 => False
  | m + 1 => qV pl l m ∨ sdZ pl (gp l m) < 0
def qP (pl : Pl) (l : List Pt) : Nat → Prop
  | 0 => False
  | m + 1 => qP pl l m ∨ 0 < sdZ pl (gp l m)
noncomputable def qA (pl : Pl) (l : List Pt) : List Pt := if qV pl l l.length ∨ ¬ qP pl l l.length then bkTo pl l l.length else []
noncomputable def uW (pl : Pl) (l : List Pt) : List Pt := if qP pl l l.length then frTo pl l l.length else []
section
variable {pl : Pl} {l B : List Pt} {m : Nat}
theorem bk_n (hB : B = bkTo pl l m) (h1 : ¬ sdZ pl (gp l m) ≤ 0) (h2 : ¬ xP pl l m) : B = bkTo pl l (m + 1) := by
  show _ = _ ++ _ ++ _; rw [if_neg h1, if_neg h2, hB, List.append_nil, List.append_nil]
theorem bk_a (hB : B = bkTo pl l m) (h1 : sdZ pl (gp l m) ≤ 0) (h2 : ¬ xP pl l m) : B ++ [gp l m] = bkTo pl l (m + 1) := by
  show _ = _ ++ _ ++ _; rw [if_pos h1, if_neg h2, hB, List.append_nil]
theorem bk_x (hB : B = bkTo pl l m) (h1 : ¬ sdZ pl (gp l m) ≤ 0) (h2 : xP pl l m) : B ++ [btw pl (gp l m) (nx l m)] = bkTo pl l (m + 1) := by
  show _ = _ ++ _ ++ _; rw [if_neg h1, if_pos h2, hB, List.append_nil]
theorem bk_ax (hB : B = bkTo pl l m) (h1 : sdZ pl (gp l m) ≤ 0) (h2 : xP pl l m) : B ++ [gp l m] ++ [btw pl (gp l m) (nx l m)] = bkTo pl l (m + 1) := by
  show _ = _ ++ _ ++ _; rw [if_pos h1, if_pos h2, hB]
theorem fr_n (hB : B = frTo pl l m) (h1 : ¬ 0 ≤ sdZ pl (gp l m)) (h2 : ¬ xP pl l m) : B = frTo pl l (m + 1) := by
  show _ = _ ++ _ ++ _; rw [if_neg h1, if_neg h2, hB, List.append_nil, List.append_nil]
theorem fr_a (hB : B = frTo pl l m) (h1 : 0 ≤ sdZ pl (gp l m)) (h2 : ¬ xP pl l m) : B ++ [gp l m] = frTo pl l (m + 1) := by
  show _ = _ ++ _ ++ _; rw [if_pos h1, if_neg h2, hB, List.append_nil]
theorem fr_x (hB : B = frTo pl l m) (h1 : ¬ 0 ≤ sdZ pl (gp l m)) (h2 : xP pl l m) : B ++ [btw pl (gp l m) (nx l m)] = frTo pl l (m + 1) := by
  show _ = _ ++ _ ++ _; rw [if_neg h1, if_pos h2, hB, List.append_nil]
theorem fr_ax (hB : B = frTo pl l m) (h1 : 0 ≤ sdZ pl (gp l m)) (h2 : xP pl l m) : B ++ [gp l m] ++ [btw pl (gp l m) (nx l m)] = frTo pl l (m + 1) := by
  show _ = _ ++ _ ++ _; rw [if_pos h1, if_pos h2, hB]
noncomputable def bkH (pl : Pl) (l : List Pt) (m : Nat) : List Pt := bkTo pl l m ++ (if sdZ pl (gp l m) ≤ 0 then [gp l m] else [])
noncomputable def frH (pl : Pl) (l : List Pt) (m : Nat) : List Pt := frTo pl l m ++ (if 0 ≤ sdZ pl (gp l m) then [gp l m] else [])
theorem bk_h1 (hB : B = bkTo pl l m) (h1 : sdZ pl (gp l m) ≤ 0) : B ++ [gp l m] = bkH pl l m := by unfold bkH; rw [if_pos h1, hB]
theorem bk_h0 (hB : B = bkTo pl l m) (h1 : ¬ sdZ pl (gp l m) ≤ 0) : B = bkH pl l m := by unfold bkH; rw [if_neg h1, hB, List.append_nil]
theorem fr_h1 (hB : B = frTo pl l m) (h1 : 0 ≤ sdZ pl (gp l m)) : B ++ [gp l m] = frH pl l m := by unfold frH; rw [if_pos h1, hB]
theorem fr_h0 (hB : B = frTo pl l m) (h1 : ¬ 0 ≤ sdZ pl (gp l m)) : B = frH pl l m := by unfold frH; rw [if_neg h1, hB, List.append_nil]
theorem bk_y (hB : B = bkH pl l m) (h : xP pl l m) : B ++ [btw pl (gp l m) (nx l m)] = bkTo pl l (m + 1) := by show _ = bkH pl l m ++ _; rw [if_pos h, hB]
theorem bk_z (hB : B = bkH pl l m) (h : ¬ xP pl l m) : B = bkTo pl l (m + 1) := by show _ = bkH pl l m ++ _; rw [if_neg h, hB, List.append_nil]
theorem fr_y (hB : B = frH pl l m) (h : xP pl l m) : B ++ [btw pl (gp l m) (nx l m)] = frTo pl l (m + 1) := by show _ = frH pl l m ++ _; rw [if_pos h, hB]
theorem fr_z (hB : B = frH pl l m) (h : ¬ xP pl l m) : B = frTo pl l (m + 1) := by show _ = frH pl l m ++ _; rw [if_neg h, hB, List.append_nil]
theorem beh_iff : ∀ m, qV pl l m ↔ ∃ q, q < m ∧ sdZ pl (gp l q) < 0
  | 0 => ⟨False.elim, fun ⟨q, h, _⟩ => by omega⟩
  | m + 1 => by
    show (_ ∨ _) ↔ _
    rw [beh_iff m]
    constructor
    · rintro (⟨q, h1, h2⟩ | h)
      · exact ⟨q, by omega, h2⟩
      · exact ⟨m, by omega, h⟩
    · rintro ⟨q, h1, h2⟩
      rcases Nat.lt_succ_iff_lt_or_eq.1 h1 with h3 | h3
      · exact .inl ⟨q, h3, h2⟩
      · subst h3; exact .inr h2
theorem ahe_iff : ∀ m, qP pl l m ↔ ∃ q, q < m ∧ 0 < sdZ pl (gp l q)
  | 0 => ⟨False.elim, fun ⟨q, h, _⟩ => by omega⟩
  | m + 1 => by
    show (_ ∨ _) ↔ _
    rw [ahe_iff m]
    constructor
    · rintro (⟨q, h1, h2⟩ | h)
      · exact ⟨q, by omega, h2⟩
      · exact ⟨m, by omega, h⟩
    · rintro ⟨q, h1, h2⟩
      rcases Nat.lt_succ_iff_lt_or_eq.1 h1 with h3 | h3
      · exact .inl ⟨q, h3, h2⟩
      · subst h3; exact .inr h2
end
theorem take_gp {l : List Pt} {m : Nat} (h : m < l.length) : l.take m ++ [gp l m] = l.take (m + 1) := by
  unfold gp
  rw [List.getD_eq_getElem?_getD, List.getElem?_eq_getElem h]
  exact (List.take_succ_eq_append_getElem h).symm
theorem no_x {pl : Pl} {l : List Pt} {m : Nat} (h : ∀ q, q < l.length → sdZ pl (gp l q) ≤ 0) (hm : m < l.length) : ¬ xP pl l m := fun e => by
  have h1 := h m hm
  have h2 := h _ (Nat.mod_lt (m + 1) (show 0 < l.length by omega))
  have h3 := Int.mul_nonneg_of_nonpos_of_nonpos h1 h2
  exact absurd e (Int.not_lt.2 h3)
theorem no_x' {pl : Pl} {l : List Pt} {m : Nat} (h : ∀ q, q < l.length → 0 ≤ sdZ pl (gp l q)) (hm : m < l.length) : ¬ xP pl l m := fun e => by
  have h1 := h m hm
  have h2 := h _ (Nat.mod_lt (m + 1) (show 0 < l.length by omega))
  have h3 := Int.mul_nonneg h1 h2
  exact absurd e (Int.not_lt.2 h3)
theorem bk_same {pl : Pl} {l : List Pt} (h : ∀ q, q < l.length → sdZ pl (gp l q) ≤ 0) : ∀ m, m ≤ l.length → bkTo pl l m = l.take m
  | 0, _ => by rw [List.take_zero]; rfl
  | m + 1, hm => by
    rw [← bk_a rfl (h m (by omega)) (no_x h (by omega)), bk_same h m (by omega), take_gp (by omega)]
theorem fr_same {pl : Pl} {l : List Pt} (h : ∀ q, q < l.length → 0 ≤ sdZ pl (gp l q)) : ∀ m, m ≤ l.length → frTo pl l m = l.take m
  | 0, _ => by rw [List.take_zero]; rfl
  | m + 1, hm => by
    rw [← fr_a rfl (h m (by omega)) (no_x' h (by omega)), fr_same h m (by omega), take_gp (by omega)]
theorem kV {pl : Pl} {l : List Pt} (h : ¬ qP pl l l.length) : qA pl l = l ∧ uW pl l = [] := by
  have h1 : ∀ q, q < l.length → sdZ pl (gp l q) ≤ 0 := fun q hq => Int.not_lt.1 fun e => h ((ahe_iff _).2 ⟨q, hq, e⟩)
  unfold qA uW
  rw [if_pos (.inr h), if_neg h, bk_same h1 _ (Nat.le_refl _), List.take_length]
  exact ⟨rfl, rfl⟩
theorem cutF_all {pl : Pl} {l : List Pt} (h : qP pl l l.length) (hb : ¬ qV pl l l.length) : qA pl l = [] ∧ uW pl l = l := by
  have h1 : ∀ q, q < l.length → 0 ≤ sdZ pl (gp l q) := fun q hq => Int.not_lt.1 fun e => hb ((beh_iff _).2 ⟨q, hq, e⟩)
  unfold qA uW
  rw [if_neg (fun e => e.elim hb fun e => e h), if_pos h, fr_same h1 _ (Nat.le_refl _), List.take_length]
  exact ⟨rfl, rfl⟩
theorem kF {pl : Pl} {l : List Pt} (h : qP pl l l.length) (hb : qV pl l l.length) : qA pl l = bkTo pl l l.length ∧ uW pl l = frTo pl l l.length := by
  unfold qA uW
  rw [if_pos (.inl hb), if_pos h]
  exact ⟨rfl, rfl⟩
theorem bk_len (pl : Pl) (l : List Pt) : ∀ m, (bkTo pl l m).length ≤ 2 * m
  | 0 => Nat.le_refl _
  | m + 1 => by
    have h := bk_len pl l m
    show List.length (_ ++ _ ++ _) ≤ _
    rw [lAz, lAz]
    have h1 : (if sdZ pl (gp l m) ≤ 0 then [gp l m] else []).length ≤ 1 := by split <;> simp
    have h2 : (if xP pl l m then [btw pl (gp l m) (nx l m)] else []).length ≤ 1 := by split <;> simp
    omega
theorem fr_len (pl : Pl) (l : List Pt) : ∀ m, (frTo pl l m).length ≤ 2 * m
  | 0 => Nat.le_refl _
  | m + 1 => by
    have h := fr_len pl l m
    show List.length (_ ++ _ ++ _) ≤ _
    rw [lAz, lAz]
    have h1 : (if 0 ≤ sdZ pl (gp l m) then [gp l m] else []).length ≤ 1 := by split <;> simp
    have h2 : (if xP pl l m then [btw pl (gp l m) (nx l m)] else []).length ≤ 1 := by split <;> simp
    omega
theorem bkh_len (pl : Pl) (l : List Pt) (m : Nat) : (bkH pl l m).length ≤ 2 * m + 1 := by
  have h := bk_len pl l m
  unfold bkH
  rw [lAz]
  have h1 : (if sdZ pl (gp l m) ≤ 0 then [gp l m] else []).length ≤ 1 := by split <;> simp
  omega
theorem frh_len (pl : Pl) (l : List Pt) (m : Nat) : (frH pl l m).length ≤ 2 * m + 1 := by
  have h := fr_len pl l m
  unfold frH
  rw [lAz]
  have h1 : (if 0 ≤ sdZ pl (gp l m) then [gp l m] else []).length ≤ 1 := by split <;> simp
  omega
theorem cutB_len (pl : Pl) (l : List Pt) : (qA pl l).length ≤ 2 * l.length := by
  unfold qA; split
  · exact bk_len pl l _
  · exact Nat.zero_le _
theorem cutF_len (pl : Pl) (l : List Pt) : (uW pl l).length ≤ 2 * l.length := by
  unfold uW; split
  · exact fr_len pl l _
  · exact Nat.zero_le _
end Bk
namespace Bk
set_option linter.unusedVariables false
set_option linter.unusedSimpArgs false
open Classical
theorem cr_rot (a b c : P2) : cr b c a = cr a b c := by unfold cr; grind
theorem cr_dup (a b : P2) : cr a b b = 0 := by unfold cr; grind
def triT (P : Nat → P2) (n : Nat) : Prop := ∀ i j k, i < j → j < k → k < n → 0 < cr (P i) (P j) (P k)
def edgeT (P : Nat → P2) (n : Nat) : Prop := ∀ i k, i < n → 2 ≤ k → k < n → 0 < cr (P i) (P ((i + 1) % n)) (P ((i + k) % n))
theorem plucker {o a b c d : P2} : cr o a c * cr o b d = cr o a b * cr o c d + cr o a d * cr o b c := by unfold cr; grind
theorem pos_div {x y : Rat} (hx : 0 < x) (h : 0 < x * y) : 0 < y := by
  refine Rat.not_le.1 fun e => ?_
  have := Rat.mul_nonneg (a := x) (b := -y) (by grind) (by grind)
  grind
theorem tri_of_edge {P : Nat → P2} {n : Nat} (h3 : 3 ≤ n) (h : edgeT P n) : triT P n := by
  intro i j k hij hjk hk
  have key : ∀ b, b < n → ∀ a, 1 ≤ a → a < b → 0 < cr (P i) (P ((i + a) % n)) (P ((i + b) % n)) := by
    intro b
    induction b with
    | zero => intro _ a h1 h2; omega
    | succ b ih =>
      intro hb a ha hab
      have hedge : 1 ≤ b → 0 < cr (P i) (P ((i + b) % n)) (P ((i + (b + 1)) % n)) := fun hb1 => by
        have h1 := h ((i + b) % n) (n - b) (Nat.mod_lt _ (by omega)) (by omega) (by omega)
        have e1 : ((i + b) % n + 1) % n = (i + (b + 1)) % n := by rw [Nat.mod_add_mod]; congr 1
        have e2 : ((i + b) % n + (n - b)) % n = i := by
          rw [Nat.mod_add_mod, show i + b + (n - b) = i + n by omega, Nat.add_mod_right, Nat.mod_eq_of_lt (by omega)]
        rw [e1, e2, ← cr_rot] at h1
        rw [cr_rot] at h1
        rw [← cr_rot]
        exact h1
      rcases Nat.lt_succ_iff_lt_or_eq.1 hab with hlt | heq
      · have h1 := ih (by omega) a ha hlt
        rcases Nat.lt_or_ge 1 a with h2 | h2
        · have e1 := h i b (by omega) (by omega) (by omega)
          have e2 := h i (b + 1) (by omega) (by omega) (by omega)
          have e3 := h i a (by omega) (by omega) (by omega)
          have e4 := hedge (by omega)
          have pl := plucker (o := P i) (a := P ((i + 1) % n)) (b := P ((i + a) % n)) (c := P ((i + b) % n)) (d := P ((i + (b + 1)) % n))
          refine pos_div e1 ?_
          rw [pl]
          have := Rat.mul_pos e3 e4
          have := Rat.mul_pos e2 h1
          grind
        · have e : a = 1 := by omega
          subst e
          exact h i (b + 1) (by omega) (by omega) (by omega)
      · subst heq; exact hedge ha
  have := key (k - i) (by omega) (j - i) (by omega) (by omega)
  rw [show i + (j - i) = j by omega, show i + (k - i) = k by omega, Nat.mod_eq_of_lt (show j < n by omega), Nat.mod_eq_of_lt hk] at this
  exact this
theorem edge_of_tri {P : Nat → P2} {n : Nat} (h : triT P n) : edgeT P n := by
  intro i k hi hk hkn
  by_cases h1 : i + 1 = n
  · rw [h1, Nat.mod_self, show (i + k) % n = k - 1 by rw [show i + k = (k - 1) + n by omega, Nat.add_mod_right, Nat.mod_eq_of_lt (by omega)]]
    rw [cr_rot, cr_rot]
    exact h 0 (k - 1) i (by omega) (by omega) hi
  · rw [Nat.mod_eq_of_lt (show i + 1 < n by omega)]
    by_cases h2 : i + k < n
    · rw [Nat.mod_eq_of_lt h2]; exact h i (i + 1) (i + k) (by omega) (by omega) h2
    · rw [show (i + k) % n = i + k - n by rw [show i + k = (i + k - n) + n by omega, Nat.add_mod_right, Nat.mod_eq_of_lt (by omega)]; omega]
      rw [cr_rot]
      exact h (i + k - n) i (i + 1) (by omega) (by omega) (by omega)
def lp (t : Rat) (a b : P2) : P2 := (a.1 + t * (b.1 - a.1), a.2 + t * (b.2 - a.2))
theorem lp_zero (a b : P2) : lp 0 a b = a := by unfold lp; obtain ⟨a1, a2⟩ := a; rw [Prod.mk.injEq]; grind
theorem cr_lp1 (t : Rat) (a b c d : P2) : cr (lp t a b) c d = (1 - t) * cr a c d + t * cr b c d := by unfold cr lp; grind
theorem cr_lp2 (t : Rat) (a b c d : P2) : cr c (lp t a b) d = (1 - t) * cr c a d + t * cr c b d := by unfold cr lp; grind
theorem cr_lp3 (t : Rat) (a b c d : P2) : cr c d (lp t a b) = (1 - t) * cr c d a + t * cr c d b := by unfold cr lp; grind
def ex (P : Nat → P2) (n m : Nat) : P2 := P (m % n)
theorem ex_pos {P : Nat → P2} {n i j k : Nat} (h : triT P n) (hij : i < j) (hjk : j < k) (hk : k ≤ n) (hno : ¬ (i = 0 ∧ k = n)) : 0 < cr (ex P n i) (ex P n j) (ex P n k) := by
  unfold ex
  rw [Nat.mod_eq_of_lt (show i < n by omega), Nat.mod_eq_of_lt (show j < n by omega)]
  by_cases e : k = n
  · rw [e, Nat.mod_self, cr_rot]
    exact h 0 i j (by omega) hij (by omega)
  · rw [Nat.mod_eq_of_lt (by omega)]
    exact h i j k hij hjk (by omega)
theorem ex_nonneg {P : Nat → P2} {n i j k : Nat} (h : triT P n) (hij : i ≤ j) (hjk : j ≤ k) (hk : k ≤ n) : 0 ≤ cr (ex P n i) (ex P n j) (ex P n k) := by
  by_cases e1 : i = j
  · rw [e1, cr_self]; exact Rat.le_refl
  · by_cases e2 : j = k
    · rw [e2, cr_dup]; exact Rat.le_refl
    · by_cases e3 : i = 0 ∧ k = n
      · rw [e3.1, e3.2]
        have : ex P n 0 = ex P n n := by unfold ex; rw [Nat.mod_self, Nat.zero_mod]
        rw [this, cr_end']; exact Rat.le_refl
      · exact Rat.le_of_lt (ex_pos h (by omega) (by omega) hk e3)
abbrev Mk := Nat × Bool
def mkP (P : Nat → P2) (n : Nat) (t : Nat → Rat) (M : Mk) : P2 := if M.2 then lp (t M.1) (ex P n M.1) (ex P n (M.1 + 1)) else ex P n M.1
def mkLt (A B : Mk) : Prop := A.1 < B.1 ∨ (A.1 = B.1 ∧ A.2 = false ∧ B.2 = true)
def chg (s : Nat → Int) (n m : Nat) : Prop := s m * s ((m + 1) % n) < 0
noncomputable def mks (s : Nat → Int) (n : Nat) : Nat → List Mk
  | 0 => []
  | m + 1 => mks s n m ++ (if s m ≤ 0 then [(m, false)] else []) ++ (if chg s n m then [(m, true)] else [])
theorem kC {s : Nat → Int} {n : Nat} {M : Mk} : ∀ {m}, M ∈ mks s n m ↔ M.1 < m ∧ if M.2 then chg s n M.1 else s M.1 ≤ 0
  | 0 => ⟨fun h => absurd h List.not_mem_nil, fun h => by omega⟩
  | m + 1 => by
    obtain ⟨i, b⟩ := M
    show (i, b) ∈ _ ++ _ ++ _ ↔ _
    rw [List.mem_append, List.mem_append, kC]
    constructor
    · rintro ((⟨h1, h2⟩ | h) | h)
      · exact ⟨by omega, h2⟩
      · split at h
        · rename_i h3
          rw [List.mem_singleton, Prod.mk.injEq] at h
          obtain ⟨rfl, rfl⟩ := h
          exact ⟨by omega, h3⟩
        · exact absurd h List.not_mem_nil
      · split at h
        · rename_i h3
          rw [List.mem_singleton, Prod.mk.injEq] at h
          obtain ⟨rfl, rfl⟩ := h
          exact ⟨by omega, h3⟩
        · exact absurd h List.not_mem_nil
    · rintro ⟨h1, h2⟩
      rcases Nat.lt_succ_iff_lt_or_eq.1 h1 with h3 | h3
      · exact .inl (.inl ⟨h3, h2⟩)
      · have h3' : i = m := h3
        subst h3'
        cases b with
        | false => have h2' : s i ≤ 0 := h2; refine .inl (.inr ?_); rw [if_pos h2']; exact List.mem_singleton.2 rfl
        | true => have h2' : chg s n i := h2; refine .inr ?_; rw [if_pos h2']; exact List.mem_singleton.2 rfl
theorem mks_sorted {s : Nat → Int} {n : Nat} : ∀ m, (mks s n m).Pairwise mkLt
  | 0 => List.Pairwise.nil
  | m + 1 => by
    show (_ ++ _ ++ _ : List Mk).Pairwise mkLt
    rw [List.pairwise_append, List.pairwise_append]
    refine ⟨⟨mks_sorted m, by split <;> simp, ?_⟩, by split <;> simp, ?_⟩
    · intro a ha b hb
      split at hb
      · rw [List.mem_singleton] at hb; subst hb; exact .inl (kC.1 ha).1
      · exact absurd hb List.not_mem_nil
    · intro a ha b hb
      split at hb
      · rw [List.mem_singleton] at hb; subst hb
        rcases List.mem_append.1 ha with h | h
        · exact .inl (kC.1 h).1
        · split at h
          · rw [List.mem_singleton] at h; subst h; exact .inr ⟨rfl, rfl, rfl⟩
          · exact absurd h List.not_mem_nil
      · exact absurd hb List.not_mem_nil
theorem sgn_opp {a b : Int} (ha : a ≤ 0) (h : a * b < 0) : a < 0 ∧ 0 < b := by
  have h1 : a ≠ 0 := fun e => by rw [e, Int.zero_mul] at h; omega
  refine ⟨by omega, Int.not_le.1 fun e => ?_⟩
  have := Int.mul_nonneg_of_nonpos_of_nonpos ha e
  omega
theorem mk_tri {P : Nat → P2} {n : Nat} {t : Nat → Rat} {s : Nat → Int} (h3 : 3 ≤ n) (h : triT P n) (ht : ∀ m, m < n → chg s n m → 0 < t m ∧ t m < 1) {A B C : Mk} (hA : A ∈ mks s n n) (hB : B ∈ mks s n n) (hC : C ∈ mks s n n) (hAB : mkLt A B) (hBC : mkLt B C) : 0 < cr (mkP P n t A) (mkP P n t B) (mkP P n t C) := by
  obtain ⟨i, a⟩ := A; obtain ⟨j, b⟩ := B; obtain ⟨k, c⟩ := C
  obtain ⟨hi, hA⟩ := kC.1 hA; obtain ⟨hj, hB⟩ := kC.1 hB; obtain ⟨hk, hC⟩ := kC.1 hC
  simp only at hi hj hk
  -- weights
  have wt : ∀ (i : Nat) (a : Bool), i < n → (if a then chg s n i else s i ≤ 0) → ∃ w, mkP P n t (i, a) = lp w (ex P n i) (ex P n (i + 1)) ∧ 0 ≤ w ∧ w < 1 ∧ (a = true → 0 < w) ∧ (a = false → w = 0) := by
    intro i a hi h1
    cases a with
    | false => exact ⟨0, (lp_zero _ _).symm, Rat.le_refl, by decide, fun e => absurd e (by decide), fun _ => rfl⟩
    | true => have := ht i hi h1; exact ⟨t i, rfl, Rat.le_of_lt this.1, this.2, fun _ => this.1, fun e => absurd e (by decide)⟩
  obtain ⟨u, eA, u0, u1, up, uz⟩ := wt i a hi hA
  obtain ⟨v, eB, v0, v1, vp, vz⟩ := wt j b hj hB
  obtain ⟨w, eC, w0, w1, wp, wz⟩ := wt k c hk hC
  rw [eA, eB, eC]
  have F0 : ∀ {x y z : Nat}, x ≤ y → y ≤ z → z ≤ n → 0 ≤ cr (ex P n x) (ex P n y) (ex P n z) := fun a b c => ex_nonneg h a b c
  have nn : ∀ {x y : Rat}, 0 ≤ x → 0 ≤ y → 0 ≤ x * y := Rat.mul_nonneg
  have pp : ∀ {x y : Rat}, 0 < x → 0 < y → 0 < x * y := Rat.mul_pos
  have u1' : 0 < 1 - u := by grind
  have v1' : 0 < 1 - v := by grind
  have w1' : 0 < 1 - w := by grind
  have u1n := Rat.le_of_lt u1'
  have v1n := Rat.le_of_lt v1'
  have w1n := Rat.le_of_lt w1'
  rcases hAB with hij | ⟨hij, hab⟩
  · rcases hBC with hjk | ⟨hjk, hbc⟩
    · -- all on edges of their own
      have hij' : i < j := hij
      have hjk' : j < k := hjk
      have x1 : 0 < cr (lp u (ex P n i) (ex P n (i + 1))) (ex P n j) (ex P n k) := by
        rw [cr_lp1]
        have a1 := pp u1' (ex_pos h hij' hjk' (by omega) (by omega))
        have a2 := nn u0 (F0 (show i + 1 ≤ j by omega) (show j ≤ k by omega) (by omega))
        grind
      have x2 : ∀ {y z : Nat}, j ≤ y → y ≤ z → z ≤ n → 0 ≤ cr (lp u (ex P n i) (ex P n (i + 1))) (ex P n y) (ex P n z) := fun {y z} h1 h2 h3 => by
        rw [cr_lp1]
        have a1 := nn u1n (F0 (show i ≤ y by omega) h2 h3)
        have a2 := nn u0 (F0 (show i + 1 ≤ y by omega) h2 h3)
        grind
      rw [cr_lp2, cr_lp3, cr_lp3]
      have a1 := pp v1' (pp w1' x1)
      have a2 := nn v1n (nn w0 (x2 (Nat.le_refl j) (show j ≤ k + 1 by omega) (by omega)))
      have a3 := nn v0 (nn w1n (x2 (show j ≤ j + 1 by omega) (show j + 1 ≤ k by omega) (by omega)))
      have a4 := nn v0 (nn w0 (x2 (show j ≤ j + 1 by omega) (show j + 1 ≤ k + 1 by omega) (by omega)))
      grind
    · -- a vertex and a point on the edge behind it
      have hjk' : j = k := hjk
      obtain ⟨hb, hc⟩ := hbc
      simp only at hb hc
      subst hjk' hb hc
      have hij' : i < j := hij
      rw [vz rfl, lp_zero, cr_lp3, cr_dup]
      have hs := sgn_opp hB hC
      have w2 := wp rfl
      have x : 0 < cr (lp u (ex P n i) (ex P n (i + 1))) (ex P n j) (ex P n (j + 1)) := by
        rw [cr_lp1]
        by_cases e : i = 0 ∧ j + 1 = n
        · have ua : a = true := by
            cases a with
            | true => rfl
            | false =>
              have h1 : s i ≤ 0 := hA
              have h2 := hs.2
              rw [e.2, Nat.mod_self, ← e.1] at h2
              omega
          have a1 := nn u1n (F0 (show i ≤ j by omega) (show j ≤ j + 1 by omega) (by omega))
          have a2 := pp (up ua) (ex_pos h (show i + 1 < j by omega) (show j < j + 1 by omega) (by omega) (by omega))
          grind
        · have a1 := pp u1' (ex_pos h hij' (show j < j + 1 by omega) (by omega) e)
          have a2 := nn u0 (F0 (show i + 1 ≤ j by omega) (show j ≤ j + 1 by omega) (by omega))
          grind
      have := pp w2 x
      grind
  · have hij' : i = j := hij
    obtain ⟨ha, hb⟩ := hab
    simp only at ha hb
    subst hij' ha hb
    rcases hBC with hjk | ⟨hjk, hbc⟩
    · have hjk' : i < k := hjk
      rw [uz rfl, lp_zero, cr_lp2, cr_self]
      have hs := sgn_opp hA hB
      have v2 := vp rfl
      have x : 0 < cr (ex P n i) (ex P n (i + 1)) (lp w (ex P n k) (ex P n (k + 1))) := by
        rw [cr_lp3]
        by_cases e : k = i + 1
        · have wc : c = true := by
            cases c with
            | true => rfl
            | false =>
              have h1 : s k ≤ 0 := hC
              have h2 := hs.2
              rw [Nat.mod_eq_of_lt (show i + 1 < n by omega), ← e] at h2
              omega
          have a1 := nn w1n (F0 (show i ≤ i + 1 by omega) (show i + 1 ≤ k by omega) (by omega))
          have a2 := pp (wp wc) (ex_pos h (show i < i + 1 by omega) (show i + 1 < k + 1 by omega) (by omega) (by omega))
          grind
        · have a1 := pp w1' (ex_pos h (show i < i + 1 by omega) (show i + 1 < k by omega) (by omega) (by omega))
          have a2 := nn w0 (F0 (show i ≤ i + 1 by omega) (show i + 1 ≤ k + 1 by omega) (by omega))
          grind
      have := pp v2 x
      grind
    · exact absurd hbc.1 (by simp)
theorem mks_tri {P : Nat → P2} {n : Nat} {t : Nat → Rat} {s : Nat → Int} (h3 : 3 ≤ n) (h : triT P n) (ht : ∀ m, m < n → chg s n m → 0 < t m ∧ t m < 1) : triT (fun q => mkP P n t ((mks s n n).getD q (0, false))) (mks s n n).length := by
  intro a b c hab hbc hc
  have g : ∀ q (hq : q < (mks s n n).length), (mks s n n).getD q (0, false) = (mks s n n)[q] := fun q hq => by
    rw [List.getD_eq_getElem?_getD, List.getElem?_eq_getElem hq]; rfl
  have hp := List.pairwise_iff_getElem.1 (mks_sorted (s := s) (n := n) n)
  simp only [g a (by omega), g b (by omega), g c hc]
  exact mk_tri h3 h ht (List.getElem_mem _) (List.getElem_mem _) (List.getElem_mem _) (hp a b _ _ hab) (hp b c _ _ hbc)
theorem up_x {S : Nat → Int} {i : Nat} : ∀ d, S i < 0 → 0 < S (i + d) → ∃ p, i ≤ p ∧ p < i + d ∧ (S p * S (p + 1) < 0 ∨ (i < p ∧ S p = 0))
  | 0, h1, h2 => by rw [Nat.add_zero] at h2; omega
  | d + 1, h1, h2 => by
    rcases Int.lt_trichotomy (S (i + d)) 0 with h | h | h
    · exact ⟨i + d, by omega, by omega, .inl (Int.mul_neg_of_neg_of_pos h h2)⟩
    · refine ⟨i + d, by omega, by omega, .inr ⟨?_, h⟩⟩
      rcases Nat.eq_zero_or_pos d with e | e
      · subst e; rw [Nat.add_zero] at h; omega
      · omega
    · obtain ⟨p, a, b, c⟩ := up_x d h1 h
      exact ⟨p, a, by omega, c⟩
theorem down_x {S : Nat → Int} {i : Nat} : ∀ d, 0 < S i → S (i + d) < 0 → ∃ p, i ≤ p ∧ p < i + d ∧ (S p * S (p + 1) < 0 ∨ (i < p ∧ S p = 0))
  | 0, h1, h2 => by rw [Nat.add_zero] at h2; omega
  | d + 1, h1, h2 => by
    rcases Int.lt_trichotomy (S (i + d)) 0 with h | h | h
    · obtain ⟨p, a, b, c⟩ := down_x d h1 h
      exact ⟨p, a, by omega, c⟩
    · refine ⟨i + d, by omega, by omega, .inr ⟨?_, h⟩⟩
      rcases Nat.eq_zero_or_pos d with e | e
      · subst e; rw [Nat.add_zero] at h; omega
      · omega
    · exact ⟨i + d, by omega, by omega, .inl (Int.mul_neg_of_pos_of_neg h h2)⟩
theorem three_le {α : Type} {l : List α} {a b c : α} (ha : a ∈ l) (hb : b ∈ l) (hc : c ∈ l) (h1 : a ≠ b) (h2 : b ≠ c) (h3 : a ≠ c) : 3 ≤ l.length := by
  obtain ⟨i, hi, ei⟩ := List.mem_iff_getElem.1 ha
  obtain ⟨j, hj, ej⟩ := List.mem_iff_getElem.1 hb
  obtain ⟨k, hk, ek⟩ := List.mem_iff_getElem.1 hc
  have n1 : i ≠ j := fun e => by subst e; exact h1 (ei.symm.trans ej)
  have n2 : j ≠ k := fun e => by subst e; exact h2 (ej.symm.trans ek)
  have n3 : i ≠ k := fun e => by subst e; exact h3 (ei.symm.trans ek)
  omega
theorem mks_len {s : Nat → Int} {n i j : Nat} (hi : i < n) (hj : j < n) (h1 : s i < 0) (h2 : 0 < s j) : 3 ≤ (mks s n n).length := by
  have hn : 0 < n := by omega
  let S := fun m => s (m % n)
  have hSi : S i = s i := by show s (i % n) = _; rw [Nat.mod_eq_of_lt hi]
  -- j behind i
  obtain ⟨d, hd, hSd⟩ : ∃ d, d < n ∧ 0 < S (i + d) := by
    rcases Nat.lt_or_ge i j with h | h
    · refine ⟨j - i, by omega, ?_⟩
      show 0 < s ((i + (j - i)) % n)
      rw [show i + (j - i) = j by omega, Nat.mod_eq_of_lt hj]; exact h2
    · refine ⟨j + n - i, by have : i ≠ j := fun e => by subst e; omega
                            omega, ?_⟩
      show 0 < s ((i + (j + n - i)) % n)
      rw [show i + (j + n - i) = j + n by omega, Nat.add_mod_right, Nat.mod_eq_of_lt hj]; exact h2
  obtain ⟨p, p1, p2, p3⟩ := up_x d (by rw [hSi]; exact h1) hSd
  have hSn : S (i + d + (n - d)) < 0 := by
    show s ((i + d + (n - d)) % n) < 0
    rw [show i + d + (n - d) = i + n by omega, Nat.add_mod_right, Nat.mod_eq_of_lt hi]; exact h1
  obtain ⟨q, q1, q2, q3⟩ := down_x (n - d) hSd hSn
  have mm : ∀ {r : Nat}, (S r * S (r + 1) < 0 → ((r % n, true) : Mk) ∈ mks s n n) ∧ (S r = 0 → ((r % n, false) : Mk) ∈ mks s n n) := fun {r} => by
    have hr := Nat.mod_lt r hn
    refine ⟨fun e => kC.2 ⟨hr, ?_⟩, fun e => kC.2 ⟨hr, ?_⟩⟩
    · show s (r % n) * s ((r % n + 1) % n) < 0
      rw [Nat.mod_add_mod]; exact e
    · show s (r % n) ≤ 0
      have : s (r % n) = 0 := e
      omega
  have hI : ((i, false) : Mk) ∈ mks s n n := kC.2 ⟨hi, Int.le_of_lt h1⟩
  have modne : ∀ {x y : Nat}, x < y → y < x + n → x % n ≠ y % n := fun {x y} h h' e => by
    have h4 : (y - x) % n = 0 := by
      have := Nat.sub_mod_eq_zero_of_mod_eq e.symm
      exact this
    rw [Nat.mod_eq_of_lt (by omega)] at h4
    omega
  have hpq : p % n ≠ q % n := modne (by omega) (by omega)
  have ii : i % n = i := Nat.mod_eq_of_lt hi
  have hp : ∃ b, ((p % n, b) : Mk) ∈ mks s n n ∧ ((p % n, b) : Mk) ≠ (i, false) := by
    rcases p3 with h | ⟨h, h'⟩
    · exact ⟨true, mm.1 h, fun e => by rw [Prod.mk.injEq] at e; exact absurd e.2 (by decide)⟩
    · refine ⟨false, mm.2 h', fun e => ?_⟩
      rw [Prod.mk.injEq] at e
      exact modne h (by omega) (by rw [ii]; exact e.1.symm)
  have hq : ∃ b, ((q % n, b) : Mk) ∈ mks s n n ∧ ((q % n, b) : Mk) ≠ (i, false) := by
    rcases q3 with h | ⟨h, h'⟩
    · exact ⟨true, mm.1 h, fun e => by rw [Prod.mk.injEq] at e; exact absurd e.2 (by decide)⟩
    · refine ⟨false, mm.2 h', fun e => ?_⟩
      rw [Prod.mk.injEq] at e
      exact modne (show i < q by omega) (by omega) (by rw [ii]; exact e.1.symm)
  obtain ⟨b, hb, hb'⟩ := hp
  obtain ⟨c, hc, hc'⟩ := hq
  exact three_le hI hb hc (fun e => hb' e.symm) (fun e => hpq (Prod.mk.inj e).1) (fun e => hc' e.symm)
end Bk
namespace Bk
set_option linter.unusedVariables false
set_option linter.unusedSimpArgs false
open Classical
def inC (P : Nat → P2) (n : Nat) (p : P2) : Prop := ∀ m, m < n → 0 ≤ cr (P m) (P ((m + 1) % n)) p
def afZ (w : Rat × Rat × Rat) (p : P2) : Rat := w.1 + w.2.1 * p.1 + w.2.2 * p.2
theorem bary (w : Rat × Rat × Rat) (a b c p : P2) : cr a b c * afZ w p = afZ w a * cr b c p + afZ w b * cr c a p + afZ w c * cr a b p := by unfold cr afZ; grind
theorem af_lp (w : Rat × Rat × Rat) (t : Rat) (a b : P2) : afZ w (lp t a b) = (1 - t) * afZ w a + t * afZ w b := by unfold afZ lp; grind
theorem nonneg_div {x y : Rat} (hx : 0 < x) (h : 0 ≤ x * y) : 0 ≤ y := by
  refine Rat.not_lt.1 fun e => ?_
  have := Rat.mul_pos (a := x) (b := -y) hx (by grind)
  grind
theorem find_turn {f : Nat → Rat} : ∀ d, 0 ≤ f 1 → f (1 + d + 1) ≤ 0 → ∃ k, 1 ≤ k ∧ k ≤ 1 + d ∧ 0 ≤ f k ∧ f (k + 1) ≤ 0
  | 0, h1, h2 => ⟨1, Nat.le_refl _, Nat.le_refl _, h1, h2⟩
  | d + 1, h1, h2 => by
    rcases Rat.le_total (a := 0) (b := f (1 + d + 1)) with h | h
    · exact ⟨1 + d + 1, by omega, by omega, h, h2⟩
    · obtain ⟨k, a, b, c, e⟩ := find_turn d h1 h
      exact ⟨k, a, by omega, c, e⟩
theorem hull {P : Nat → P2} {n : Nat} {p : P2} (h3 : 3 ≤ n) (hp : inC P n p) : ∃ k, 1 ≤ k ∧ k + 1 < n ∧ 0 ≤ cr (P 0) (P k) p ∧ 0 ≤ cr (P k) (P (k + 1)) p ∧ 0 ≤ cr (P (k + 1)) (P 0) p := by
  have h1 : 0 ≤ cr (P 0) (P 1) p := by
    have := hp 0 (by omega)
    rw [Nat.mod_eq_of_lt (show 0 + 1 < n by omega)] at this
    exact this
  have h2 : cr (P 0) (P (1 + (n - 3) + 1)) p ≤ 0 := by
    have := hp (n - 1) (by omega)
    rw [show n - 1 + 1 = n by omega, Nat.mod_self, cr_swap] at this
    rw [show 1 + (n - 3) + 1 = n - 1 by omega]
    grind
  obtain ⟨k, a, b, c, d⟩ := find_turn (f := fun k => cr (P 0) (P k) p) (n - 3) h1 h2
  refine ⟨k, a, by omega, c, ?_, ?_⟩
  · have := hp k (by omega)
    rw [Nat.mod_eq_of_lt (show k + 1 < n by omega)] at this
    exact this
  · rw [cr_swap]; grind
theorem hull_nonneg {P : Nat → P2} {n : Nat} {p : P2} {w : Rat × Rat × Rat} (h3 : 3 ≤ n) (h : triT P n) (hp : inC P n p) (hw : ∀ m, m < n → 0 ≤ afZ w (P m)) : 0 ≤ afZ w p := by
  obtain ⟨k, k1, k2, c1, c2, c3⟩ := hull h3 hp
  have hD := h 0 k (k + 1) (by omega) (by omega) k2
  refine nonneg_div hD ?_
  rw [bary]
  have a1 := Rat.mul_nonneg (hw 0 (by omega)) c2
  have a2 := Rat.mul_nonneg (hw k (by omega)) c3
  have a3 := Rat.mul_nonneg (hw (k + 1) k2) c1
  grind
def mkS (S : Nat → Int) (M : Mk) : Prop := if M.2 then S M.1 * S (M.1 + 1) < 0 else S M.1 ≤ 0
theorem nbr {S : Nat → Int} {A B : Mk} (hA : mkS S A) (hB : mkS S B) (hAB : mkLt A B) (hno : ∀ M, mkS S M → mkLt A M → mkLt M B → False) :
    (B.1 = A.1 ∨ (B.1 = A.1 + 1 ∧ B.2 = false)) ∨ (((A.2 = true ∨ S A.1 = 0) ∧ (B.2 = true ∨ S B.1 = 0)) ∧ (A.1 < B.1 ∧ ¬ (B.1 = A.1 + 1 ∧ B.2 = false)) ∧ ∀ m, A.1 < m → m < B.1 + (if B.2 then 1 else 0) → 0 < S m) := by
  obtain ⟨i, a⟩ := A; obtain ⟨j, b⟩ := B
  by_cases h0 : j = i ∨ (j = i + 1 ∧ b = false)
  · exact .inl h0
  refine .inr ?_
  have hij : i < j := by
    rcases hAB with h | h
    · exact h
    · exact absurd (.inl h.1.symm) h0
  have pos : ∀ m, i < m → m < j + (if b then 1 else 0) → 0 < S m := fun m h1 h2 => by
    refine Int.not_le.1 fun e => hno (m, false) e (.inl h1) ?_
    cases b with
    | false => exact .inl (by simpa using h2)
    | true =>
      have h3 : m < j + 1 := by simpa using h2
      rcases Nat.lt_succ_iff_lt_or_eq.1 h3 with h4 | h4
      · exact .inl h4
      · exact .inr ⟨h4, rfl, rfl⟩
  refine ⟨⟨?_, ?_⟩, ⟨hij, fun e => h0 (.inr e)⟩, pos⟩
  · cases a with
    | true => exact .inl rfl
    | false =>
      right
      have h1 : S i ≤ 0 := hA
      show S i = 0
      refine Classical.byContradiction fun e => ?_
      have h2 : 0 < S (i + 1) := by
        refine pos (i + 1) (by omega) ?_
        cases b with
        | false => simp; have : j ≠ i + 1 := fun e => h0 (.inr ⟨e, rfl⟩); omega
        | true => simp; omega
      refine hno (i, true) (Int.mul_neg_of_neg_of_pos (show S i < 0 by omega) h2) (.inr ⟨rfl, rfl, rfl⟩) (.inl hij)
  · cases b with
    | true => exact .inl rfl
    | false =>
      right
      have h1 : S j ≤ 0 := hB
      have hj : j ≠ i + 1 := fun e => h0 (.inr ⟨e, rfl⟩)
      show S j = 0
      refine Classical.byContradiction fun e => ?_
      have h2 : 0 < S (j - 1) := pos (j - 1) (by omega) (by simp; omega)
      refine hno (j - 1, true) ?_ (.inl (by show i < j - 1; omega)) (.inl (by show j - 1 < j; omega))
      show S (j - 1) * S (j - 1 + 1) < 0
      rw [show j - 1 + 1 = j by omega]
      exact Int.mul_neg_of_pos_of_neg h2 (by omega)
def nxM (L : List Mk) (n q : Nat) : Mk := if q + 1 < L.length then L.getD (q + 1) (0, false) else ((L.getD 0 (0, false)).1 + n, (L.getD 0 (0, false)).2)
section
variable {s : Nat → Int} {n : Nat}
theorem mk_at {L : List Mk} {q : Nat} (hq : q < L.length) : L.getD q (0, false) = L[q] := by
  rw [List.getD_eq_getElem?_getD, List.getElem?_eq_getElem hq]; rfl
theorem mk_in {q : Nat} (hq : q < (mks s n n).length) : (mks s n n).getD q (0, false) ∈ mks s n n := by rw [mk_at hq]; exact List.getElem_mem hq
theorem mem_S {M : Mk} (hn : 0 < n) : mkS (fun m => s (m % n)) M ↔ ((M.1 % n, M.2) : Mk) ∈ mks s n n := by
  rw [kC]
  obtain ⟨i, b⟩ := M
  have h1 := Nat.mod_lt i hn
  unfold mkS chg
  cases b with
  | false => exact ⟨fun h => ⟨h1, h⟩, fun h => h.2⟩
  | true =>
    show (s (i % n) * s ((i + 1) % n) < 0) ↔ (i % n < n ∧ s (i % n) * s ((i % n + 1) % n) < 0)
    rw [Nat.mod_add_mod]
    exact ⟨fun h => ⟨h1, h⟩, fun h => h.2⟩
theorem mkLt_irr {A : Mk} : ¬ mkLt A A := by
  rintro (h | ⟨_, h, h'⟩)
  · omega
  · rw [h] at h'; exact absurd h' (by decide)
theorem mkLt_asym {A B : Mk} (h : mkLt A B) : ¬ mkLt B A := by
  rintro (k | ⟨k1, k2, k3⟩) <;> rcases h with h | ⟨h1, h2, h3⟩
  · omega
  · omega
  · omega
  · rw [k2] at h3; exact absurd h3 (by decide)
theorem sorted_lt {a b : Nat} (hab : a < b) (hb : b < (mks s n n).length) : mkLt ((mks s n n).getD a (0, false)) ((mks s n n).getD b (0, false)) := by
  have hp := List.pairwise_iff_getElem.1 (mks_sorted (s := s) (n := n) n)
  rw [mk_at (by omega), mk_at hb]
  exact hp a b _ _ hab
theorem mk_index {M : Mk} (h : M ∈ mks s n n) : ∃ v, v < (mks s n n).length ∧ (mks s n n).getD v (0, false) = M := by
  obtain ⟨v, hv, e⟩ := List.mem_iff_getElem.1 h
  exact ⟨v, hv, by rw [mk_at hv]; exact e⟩
theorem mk_bound {q : Nat} (hq : q < (mks s n n).length) : ((mks s n n).getD q (0, false)).1 < n := (kC.1 (mk_in hq)).1
theorem nb_list {q : Nat} (hq : q < (mks s n n).length) (hn : 0 < n) : mkS (fun m => s (m % n)) ((mks s n n).getD q (0, false)) ∧ mkS (fun m => s (m % n)) (nxM (mks s n n) n q) ∧ mkLt ((mks s n n).getD q (0, false)) (nxM (mks s n n) n q) ∧
    ∀ M, mkS (fun m => s (m % n)) M → mkLt ((mks s n n).getD q (0, false)) M → mkLt M (nxM (mks s n n) n q) → False := by
  have inS : ∀ {v}, v < (mks s n n).length → mkS (fun m => s (m % n)) ((mks s n n).getD v (0, false)) := fun {v} hv => by
    rw [mem_S hn, Nat.mod_eq_of_lt (mk_bound hv)]
    exact mk_in hv
  refine ⟨inS hq, ?_, ?_, ?_⟩
  · unfold nxM
    split
    · rename_i h; exact inS h
    · rw [mem_S hn]
      have h0 : 0 < (mks s n n).length := by omega
      have e : ((((mks s n n).getD 0 (0, false)).1 + n) % n, ((mks s n n).getD 0 (0, false)).2) = (mks s n n).getD 0 (0, false) := by
        rw [Nat.add_mod_right, Nat.mod_eq_of_lt (mk_bound h0)]
      rw [e]
      exact mk_in h0
  · unfold nxM
    split
    · rename_i h; exact sorted_lt (by omega) h
    · have := mk_bound hq
      exact .inl (by show _ < _ + n; omega)
  · intro M hM h1 h2
    rw [mem_S hn] at hM
    obtain ⟨v, hv, ev⟩ := mk_index hM
    unfold nxM at h2
    split at h2
    · rename_i h
      have hMn : M.1 < n := by
        have := mk_bound h
        rcases h2 with k | ⟨k, _⟩ <;> omega
      rw [Nat.mod_eq_of_lt hMn] at ev
      have ev' : (mks s n n).getD v (0, false) = M := ev
      rw [← ev'] at h1 h2
      have g1 : q < v := Nat.not_le.1 fun e => by
        rcases Nat.lt_or_eq_of_le e with e | e
        · exact mkLt_asym h1 (sorted_lt e hq)
        · subst e; exact mkLt_irr h1
      have g2 : v < q + 1 := Nat.not_le.1 fun e => by
        rcases Nat.lt_or_eq_of_le e with e | e
        · exact mkLt_asym h2 (sorted_lt e hv)
        · rw [← e] at h2; exact mkLt_irr h2
      omega
    · rename_i h
      have h0 : 0 < (mks s n n).length := by omega
      have b0 := mk_bound (s := s) (n := n) h0
      rcases Nat.lt_or_ge M.1 n with hMn | hMn
      · rw [Nat.mod_eq_of_lt hMn] at ev
        have ev' : (mks s n n).getD v (0, false) = M := ev
        rw [← ev'] at h1
        have g1 : q < v := Nat.not_le.1 fun e => by
          rcases Nat.lt_or_eq_of_le e with e | e
          · exact mkLt_asym h1 (sorted_lt e hq)
          · subst e; exact mkLt_irr h1
        omega
      · -- M of the next round lies ahead of the first one
        have hM2 : M.1 < 2 * n := by
          rcases h2 with k | ⟨k, _⟩
          · have k' : M.1 < ((mks s n n).getD 0 (0, false)).1 + n := k
            omega
          · have k' : M.1 = ((mks s n n).getD 0 (0, false)).1 + n := k
            omega
        have em : M.1 % n = M.1 - n := by rw [Nat.mod_eq_sub_mod hMn, Nat.mod_eq_of_lt (by omega)]
        have h4 : mkLt (M.1 - n, M.2) ((mks s n n).getD 0 (0, false)) := by
          rcases h2 with k | ⟨k, k2, k3⟩
          · have k' : M.1 < ((mks s n n).getD 0 (0, false)).1 + n := k
            exact .inl (by show M.1 - n < _; omega)
          · have k' : M.1 = ((mks s n n).getD 0 (0, false)).1 + n := k
            exact .inr ⟨by show M.1 - n = _; omega, k2, k3⟩
        rw [em] at ev
        rw [← ev] at h4
        rcases Nat.eq_zero_or_pos v with e | e
        · subst e; exact mkLt_irr h4
        · exact mkLt_asym h4 (sorted_lt e hv)
end
structure Cfg (P : Nat → P2) (n : Nat) (t : Nat → Rat) (s : Nat → Int) (w : Rat × Rat × Rat) : Prop where
  h3 : 3 ≤ n
  tri : triT P n
  per : ∀ m, t (m % n) = t m
  cross : ∀ m, m < n → chg s n m → (0 < t m ∧ t m < 1) ∧ afZ w (lp (t m) (P m) (P ((m + 1) % n))) = 0
  neg : ∀ m, m < n → (s m < 0 ↔ afZ w (P m) < 0)
  zero : ∀ m, m < n → (s m = 0 ↔ afZ w (P m) = 0)
section
variable {P : Nat → P2} {n : Nat} {t : Nat → Rat} {s : Nat → Int} {w : Rat × Rat × Rat}
theorem ex_mod (m : Nat) : ex P n (m % n) = ex P n m := by unfold ex; rw [Nat.mod_mod]
theorem ex_mod1 (m : Nat) : ex P n (m % n + 1) = ex P n (m + 1) := by unfold ex; rw [Nat.mod_add_mod]
theorem mkP_mod (hper : ∀ m, t (m % n) = t m) (M : Mk) : mkP P n t (M.1 % n, M.2) = mkP P n t M := by
  unfold mkP
  simp only [ex_mod, ex_mod1, hper]
theorem nx_pt (hper : ∀ m, t (m % n) = t m) {q : Nat} (hq : q < (mks s n n).length) : mkP P n t (nxM (mks s n n) n q) = mkP P n t ((mks s n n).getD ((q + 1) % (mks s n n).length) (0, false)) := by
  unfold nxM
  split
  · rename_i h; rw [Nat.mod_eq_of_lt h]
  · have h0 : 0 < (mks s n n).length := by omega
    rw [show q + 1 = (mks s n n).length by omega, Nat.mod_self, ← mkP_mod hper]
    show mkP P n t ((((mks s n n).getD 0 (0, false)).1 + n) % n, _) = _
    rw [Nat.add_mod_right, Nat.mod_eq_of_lt (mk_bound h0)]
theorem zero_mk (C : Cfg P n t s w) {M : Mk} (hS : mkS (fun m => s (m % n)) M) (hz : M.2 = true ∨ s (M.1 % n) = 0) : afZ w (mkP P n t M) = 0 := by
  have hn : 0 < n := by have := C.h3; omega
  obtain ⟨i, b⟩ := M
  have hi := Nat.mod_lt i hn
  cases b with
  | false =>
    have : s (i % n) = 0 := by
      rcases hz with h | h
      · exact absurd h (by simp)
      · exact h
    exact (C.zero _ hi).1 this
  | true =>
    have hc : chg s n (i % n) := by
      have : s (i % n) * s ((i + 1) % n) < 0 := hS
      unfold chg
      rw [Nat.mod_add_mod]
      exact this
    have := (C.cross _ hi hc).2
    rw [C.per, Nat.mod_add_mod] at this
    exact this
theorem lp_one (a b : P2) : lp 1 a b = b := by unfold lp; obtain ⟨b1, b2⟩ := b; rw [Prod.mk.injEq]; grind
theorem seg (C : Cfg P n t s w) {q : Nat} (hq : q < (mks s n n).length) :
    (∃ e u v, e < n ∧ mkP P n t ((mks s n n).getD q (0, false)) = lp u (ex P n e) (ex P n (e + 1)) ∧ mkP P n t (nxM (mks s n n) n q) = lp v (ex P n e) (ex P n (e + 1)) ∧ u ≤ v) ∨
    (afZ w (mkP P n t ((mks s n n).getD q (0, false))) = 0 ∧ afZ w (mkP P n t (nxM (mks s n n) n q)) = 0) := by
  have hn : 0 < n := by have := C.h3; omega
  obtain ⟨hA, hB, hAB, hno⟩ := nb_list hq hn
  have hb := mk_bound hq
  rcases nbr hA hB hAB hno with h | ⟨⟨h1, h2⟩, _⟩
  · left
    generalize (mks s n n).getD q (0, false) = A at *
    generalize nxM (mks s n n) n q = B at *
    obtain ⟨i, a⟩ := A; obtain ⟨j, b⟩ := B
    have hi : i < n := hb
    have tin : s (i % n) * s ((i + 1) % n) < 0 → 0 < t i ∧ t i < 1 := fun e => (C.cross i hi (by unfold chg; rw [Nat.mod_eq_of_lt hi] at e; exact e)).1
    rcases h with h | ⟨h, h'⟩
    · have hji : j = i := h
      subst hji
      rcases hAB with k | ⟨_, ka, kb⟩
      · have : j < j := k; omega
      · have ka' : a = false := ka
        have kb' : b = true := kb
        subst ka' kb'
        exact ⟨j, 0, t j, hi, (lp_zero _ _).symm, rfl, Rat.le_of_lt (tin hB).1⟩
    · have hji : j = i + 1 := h
      have hb' : b = false := h'
      subst hji hb'
      cases a with
      | false => exact ⟨i, 0, 1, hi, (lp_zero _ _).symm, (lp_one _ _).symm, by decide⟩
      | true => exact ⟨i, t i, 1, hi, rfl, (lp_one _ _).symm, Rat.le_of_lt (tin hA).2⟩
  · exact .inr ⟨zero_mk C hA h1, zero_mk C hB h2⟩
theorem edge_nonneg (h : triT P n) {m i : Nat} (hm : m < n) (hi : i < n) : 0 ≤ cr (P m) (P ((m + 1) % n)) (P i) := by
  by_cases e1 : i = m
  · rw [e1, cr_end']; exact Rat.le_refl
  · by_cases e2 : i = (m + 1) % n
    · rw [e2, cr_dup]; exact Rat.le_refl
    · have hedge := edge_of_tri h
      rcases Nat.lt_or_ge m i with k | k
      · have := hedge m (i - m) hm (by have : i ≠ m + 1 := fun e => e2 (by rw [← e, Nat.mod_eq_of_lt hi])
                                       omega) (by omega)
        rw [show m + (i - m) = i by omega, Nat.mod_eq_of_lt hi] at this
        exact Rat.le_of_lt this
      · have := hedge m (i + n - m) hm (by have : ¬ (m + 1 = n ∧ i = 0) := fun e => e2 (by rw [e.1, Nat.mod_self, e.2])
                                           omega) (by omega)
        rw [show m + (i + n - m) = i + n by omega, Nat.add_mod_right, Nat.mod_eq_of_lt hi] at this
        exact Rat.le_of_lt this
def cx (u v : P2) : Rat := u.1 * v.2 - v.1 * u.2
def arC (P : Nat → P2) (n : Nat) : Nat → Rat
  | 0 => 0
  | m + 1 => arC P n m + cx (P m) (P ((m + 1) % n))
theorem cr_cx (o a b : P2) : cr o a b = cx a b + cx o a - cx o b := by unfold cr cx; grind
def arO (P : Nat → P2) (n : Nat) (o : P2) : Nat → Rat
  | 0 => 0
  | m + 1 => arO P n o m + cr o (P m) (P ((m + 1) % n))
theorem arO_eq (P : Nat → P2) (n : Nat) (o : P2) : ∀ m, m ≤ n → arO P n o m = arC P n m + cx o (P 0) - cx o (P (m % n))
  | 0, _ => by rw [Nat.zero_mod]; show (0 : Rat) = 0 + _ - _; grind
  | m + 1, h => by
    have ih := arO_eq P n o m (by omega)
    rw [Nat.mod_eq_of_lt (show m < n by omega)] at ih
    show arO P n o m + cr o (P m) (P ((m + 1) % n)) = arC P n m + cx (P m) (P ((m + 1) % n)) + _ - _
    rw [ih, cr_cx]
    grind
theorem arO_all (P : Nat → P2) (n : Nat) (o : P2) : arO P n o n = arC P n n := by
  rw [arO_eq P n o n (Nat.le_refl _), Nat.mod_self]
  grind
noncomputable def om (S : Nat → Int) (t : Nat → Rat) (e : Nat) : Rat :=
  if S e ≤ 0 ∧ S (e + 1) ≤ 0 then 1 else if S e < 0 ∧ 0 < S (e + 1) then t e else if 0 < S e ∧ S (e + 1) < 0 then 1 - t e else 0
theorem om_two {S : Nat → Int} {t : Nat → Rat} {e : Nat} {x y : Int} (hx : S e = x) (hy : S (e + 1) = y) : om S t e = if x ≤ 0 ∧ y ≤ 0 then 1 else if x < 0 ∧ 0 < y then t e else if 0 < x ∧ y < 0 then 1 - t e else 0 := by
  unfold om; rw [hx, hy]
noncomputable def usum (S : Nat → Int) (t : Nat → Rat) (k : Nat → Rat) : Nat → Rat
  | 0 => 0
  | e + 1 => usum S t k e + om S t e * k e
noncomputable def uM (S : Nat → Int) (t : Nat → Rat) (k : Nat → Rat) (M : Mk) : Rat := usum S t k M.1 + if M.2 = true ∧ S M.1 < 0 then t M.1 * k M.1 else 0
theorem usum_zero {S : Nat → Int} {t k : Nat → Rat} {i j : Nat} (h : ∀ m, i < m → m < j → 0 < S m) (hj : 0 ≤ S j) : ∀ d, i + 1 + d ≤ j → usum S t k (i + 1 + d) = usum S t k (i + 1)
  | 0, _ => rfl
  | d + 1, hd => by
    have ih := usum_zero (t := t) (k := k) h hj d (by omega)
    have h1 := h (i + 1 + d) (by omega) (by omega)
    have h2 : 0 ≤ S (i + 1 + d + 1) := by
      rcases Nat.lt_or_eq_of_le hd with e | e
      · exact Int.le_of_lt (h (i + 1 + d + 1) (by omega) (by omega))
      · rw [show i + 1 + d + 1 = j by omega]; exact hj
    have : om S t (i + 1 + d) = 0 := by
      unfold om
      rw [if_neg (by omega), if_neg (by omega), if_neg (by omega)]
    show usum S t k (i + 1 + d) + om S t (i + 1 + d) * k (i + 1 + d) = _
    rw [this, ih]
    grind
theorem usum_add {S : Nat → Int} {t k : Nat → Rat} {n : Nat} (hS : ∀ m, S (n + m) = S m) (ht : ∀ m, t (n + m) = t m) (hk : ∀ m, k (n + m) = k m) : ∀ m, usum S t k (n + m) = usum S t k n + usum S t k m
  | 0 => by show usum S t k n = _ + 0; grind
  | m + 1 => by
    have ih := usum_add hS ht hk m
    have e : om S t (n + m) = om S t m := by
      unfold om
      rw [hS, show n + m + 1 = n + (m + 1) by omega, hS, ht]
    show usum S t k (n + m) + om S t (n + m) * k (n + m) = usum S t k n + (usum S t k m + om S t m * k m)
    rw [ih, e, hk]
    grind
theorem line_zero {o a b v : P2} (ho : afZ w o = 0) (ha : afZ w a = 0) (hb : afZ w b = 0) (hv : ¬ afZ w v = 0) : cr o a b = 0 := by
  have h := bary w o a b v
  rw [ho, ha, hb] at h
  have h1 : cr o a b * afZ w v = 0 := by grind
  rcases Rat.mul_eq_zero.1 h1 with h2 | h2
  · exact h2
  · exact absurd h2 hv
theorem edge_u (C : Cfg P n t s w) {o v : P2} (ho : afZ w o = 0) (hv : ¬ afZ w v = 0) {q : Nat} (hq : q < (mks s n n).length) :
    cr o (mkP P n t ((mks s n n).getD q (0, false))) (mkP P n t (nxM (mks s n n) n q)) =
    uM (fun m => s (m % n)) t (fun e => cr o (ex P n e) (ex P n (e + 1))) (nxM (mks s n n) n q) - uM (fun m => s (m % n)) t (fun e => cr o (ex P n e) (ex P n (e + 1))) ((mks s n n).getD q (0, false)) := by
  have hn : 0 < n := by have := C.h3; omega
  obtain ⟨hA, hB, hAB, hno⟩ := nb_list hq hn
  rcases nbr hA hB hAB hno with h | ⟨⟨h1, h2⟩, ⟨hij, hns⟩, hpos⟩
  · generalize (mks s n n).getD q (0, false) = A at *
    generalize nxM (mks s n n) n q = B at *
    obtain ⟨i, a⟩ := A; obtain ⟨j, b⟩ := B
    rcases h with h | ⟨h, h'⟩
    · have hji : j = i := h
      subst hji
      rcases hAB with k | ⟨_, ka, kb⟩
      · have : j < j := k; omega
      · have ka' : a = false := ka
        have kb' : b = true := kb
        subst ka' kb'
        have hA' : s (j % n) ≤ 0 := hA
        have hB' : s (j % n) * s ((j + 1) % n) < 0 := hB
        have hs := sgn_opp hA' hB'
        show cr o (ex P n j) (lp (t j) (ex P n j) (ex P n (j + 1))) = (usum _ t _ j + if true = true ∧ s (j % n) < 0 then t j * cr o (ex P n j) (ex P n (j + 1)) else 0) - (usum _ t _ j + if false = true ∧ s (j % n) < 0 then t j * cr o (ex P n j) (ex P n (j + 1)) else 0)
        rw [if_pos ⟨rfl, hs.1⟩, if_neg (by simp), cr_lp3, cr_dup]
        grind
    · have hji : j = i + 1 := h
      have hb' : b = false := h'
      subst hji hb'
      have hB' : s ((i + 1) % n) ≤ 0 := hB
      show cr o (mkP P n t (i, a)) (ex P n (i + 1)) = (usum _ t _ i + om (fun m => s (m % n)) t i * cr o (ex P n i) (ex P n (i + 1)) + if false = true ∧ s ((i + 1) % n) < 0 then t (i + 1) * _ else 0) - (usum _ t _ i + if a = true ∧ s (i % n) < 0 then t i * cr o (ex P n i) (ex P n (i + 1)) else 0)
      rw [if_neg (by simp : ¬ (false = true ∧ s ((i + 1) % n) < 0))]
      cases a with
      | false =>
        have hA' : s (i % n) ≤ 0 := hA
        have e : om (fun m => s (m % n)) t i = 1 := if_pos ⟨hA', hB'⟩
        rw [e, if_neg (by simp)]
        show cr o (ex P n i) (ex P n (i + 1)) = _
        grind
      | true =>
        have hA' : s (i % n) * s ((i + 1) % n) < 0 := hA
        have hs := sgn_opp hB' (by rw [Int.mul_comm]; exact hA')
        have e : om (fun m => s (m % n)) t i = 1 - t i := by
          unfold om
          simp only
          rw [if_neg (by omega), if_neg (by omega), if_pos ⟨hs.2, hs.1⟩]
        rw [e, if_neg (by omega)]
        show cr o (lp (t i) (ex P n i) (ex P n (i + 1))) (ex P n (i + 1)) = _
        rw [cr_lp2, cr_dup]
        grind
  · rw [line_zero ho (zero_mk C hA h1) (zero_mk C hB h2) hv]
    generalize (mks s n n).getD q (0, false) = A at *
    generalize nxM (mks s n n) n q = B at *
    obtain ⟨i, a⟩ := A; obtain ⟨j, b⟩ := B
    have hij' : i < j := hij
    have hpos' : ∀ m, i < m → m < j + (if b then 1 else 0) → 0 < s (m % n) := hpos
    have hj0 : 0 ≤ s (j % n) := by
      cases b with
      | true => exact Int.le_of_lt (hpos' j hij' (by simp))
      | false =>
        rcases h2 with h | h
        · exact absurd h (by simp)
        · have : s (j % n) = 0 := h
          omega
    have hp1 : ∀ m, i < m → m < j → 0 < s (m % n) := fun m m1 m2 => hpos' m m1 (by split <;> omega)
    have hnx : j = i + 1 → b = false → 0 = s ((i + 1) % n) := fun e1 e2 => by
      subst e2
      rcases h2 with h | h
      · exact absurd h (by simp)
      · have : s (j % n) = 0 := h
        rw [e1] at this; exact this.symm
    have hu := usum_zero (S := fun m => s (m % n)) (t := t) (k := fun e => cr o (ex P n e) (ex P n (e + 1))) hp1 hj0 (j - (i + 1)) (by omega)
    rw [show i + 1 + (j - (i + 1)) = j by omega] at hu
    have hs1 : 0 ≤ s ((i + 1) % n) := by
      rcases Nat.lt_or_eq_of_le (show i + 1 ≤ j by omega) with e | e
      · exact Int.le_of_lt (hp1 (i + 1) (by omega) e)
      · rw [e]; exact hj0
    have hUB : uM (fun m => s (m % n)) t (fun e => cr o (ex P n e) (ex P n (e + 1))) (j, b) = usum (fun m => s (m % n)) t (fun e => cr o (ex P n e) (ex P n (e + 1))) (i + 1) := by
      show usum _ t _ j + (if b = true ∧ s (j % n) < 0 then _ else 0) = _
      rw [if_neg (by omega), hu]
      grind
    rw [hUB]
    show (0 : Rat) = (usum _ t _ i + om (fun m => s (m % n)) t i * cr o (ex P n i) (ex P n (i + 1))) - (usum _ t _ i + if a = true ∧ s (i % n) < 0 then t i * cr o (ex P n i) (ex P n (i + 1)) else 0)
    cases a with
    | true =>
      have hA' : s (i % n) * s ((i + 1) % n) < 0 := hA
      have hs2 : s (i % n) < 0 ∧ 0 < s ((i + 1) % n) := by
        have h3 : s ((i + 1) % n) ≠ 0 := fun e => by rw [e, Int.mul_zero] at hA'; omega
        have h4 : 0 < s ((i + 1) % n) := by omega
        refine ⟨Int.not_le.1 fun e => ?_, h4⟩
        have := Int.mul_nonneg e (Int.le_of_lt h4)
        omega
      have e : om (fun m => s (m % n)) t i = t i := by
        unfold om
        simp only
        rw [if_neg (by omega), if_pos hs2]
      rw [e, if_pos ⟨rfl, hs2.1⟩]
      grind
    | false =>
      have h5 : s (i % n) = 0 := by
        rcases h1 with h | h
        · exact absurd h (by simp)
        · exact h
      have h6 : 0 < s ((i + 1) % n) := by
        rcases Nat.lt_or_eq_of_le (show i + 1 ≤ j by omega) with e | e
        · exact hp1 (i + 1) (by omega) e
        · cases b with
          | true => exact hpos' (i + 1) (by omega) (by simp; omega)
          | false =>
            exact absurd ⟨e.symm, rfl⟩ hns
      have e : om (fun m => s (m % n)) t i = 0 := by
        unfold om
        simp only
        rw [if_neg (by omega), if_neg (by omega), if_neg (by omega)]
      rw [e, if_neg (by simp)]
      grind
theorem part_area (C : Cfg P n t s w) {o v : P2} (ho : afZ w o = 0) (hv : ¬ afZ w v = 0) (hr : 0 < (mks s n n).length) :
    arC (fun q => mkP P n t ((mks s n n).getD q (0, false))) (mks s n n).length (mks s n n).length = usum (fun m => s (m % n)) t (fun e => cr o (ex P n e) (ex P n (e + 1))) n := by
  rw [← arO_all _ _ o]
  have hn : 0 < n := by have := C.h3; omega
  have key : ∀ m, m + 1 ≤ (mks s n n).length → arO (fun q => mkP P n t ((mks s n n).getD q (0, false))) (mks s n n).length o (m + 1) =
      uM (fun m => s (m % n)) t (fun e => cr o (ex P n e) (ex P n (e + 1))) (nxM (mks s n n) n m) - uM (fun m => s (m % n)) t (fun e => cr o (ex P n e) (ex P n (e + 1))) ((mks s n n).getD 0 (0, false)) := by
    intro m
    induction m with
    | zero =>
      intro h
      show 0 + cr o (mkP P n t ((mks s n n).getD 0 (0, false))) (mkP P n t ((mks s n n).getD ((0 + 1) % (mks s n n).length) (0, false))) = _
      rw [← nx_pt C.per (show 0 < (mks s n n).length by omega), edge_u C ho hv (show 0 < (mks s n n).length by omega)]
      grind
    | succ m ih =>
      intro h
      have ih' := ih (by omega)
      show arO _ _ o (m + 1) + cr o (mkP P n t ((mks s n n).getD (m + 1) (0, false))) (mkP P n t ((mks s n n).getD ((m + 1 + 1) % (mks s n n).length) (0, false))) = _
      rw [ih', ← nx_pt C.per (show m + 1 < (mks s n n).length by omega), edge_u C ho hv (show m + 1 < (mks s n n).length by omega)]
      have e : nxM (mks s n n) n m = (mks s n n).getD (m + 1) (0, false) := if_pos (by omega)
      rw [e]
      grind
  have k2 := key ((mks s n n).length - 1) (by omega)
  rw [show (mks s n n).length - 1 + 1 = (mks s n n).length by omega] at k2
  rw [k2]
  have e : nxM (mks s n n) n ((mks s n n).length - 1) = (((mks s n n).getD 0 (0, false)).1 + n, ((mks s n n).getD 0 (0, false)).2) := if_neg (by omega)
  rw [e]
  generalize (mks s n n).getD 0 (0, false) = M
  obtain ⟨i, b⟩ := M
  have hS : ∀ m, (fun m => s (m % n)) (n + m) = (fun m => s (m % n)) m := fun m => by show s ((n + m) % n) = _; rw [Nat.add_mod_left]
  have ht : ∀ m, t (n + m) = t m := fun m => by rw [← C.per, Nat.add_mod_left, C.per]
  have hex : ∀ m, ex P n (n + m) = ex P n m := fun m => by unfold ex; rw [Nat.add_mod_left]
  have hk : ∀ m, (fun e => cr o (ex P n e) (ex P n (e + 1))) (n + m) = (fun e => cr o (ex P n e) (ex P n (e + 1))) m := fun m => by
    show cr o (ex P n (n + m)) (ex P n (n + m + 1)) = _
    rw [hex, show n + m + 1 = n + (m + 1) by omega, hex]
  show (usum _ t _ (i + n) + if b = true ∧ s ((i + n) % n) < 0 then t (i + n) * cr o (ex P n (i + n)) (ex P n (i + n + 1)) else 0) - (usum _ t _ i + if b = true ∧ s (i % n) < 0 then t i * cr o (ex P n i) (ex P n (i + 1)) else 0) = _
  have hk' := hk i
  simp only at hk'
  rw [Nat.add_comm i n, usum_add hS ht hk, Nat.add_mod_left, ht, hk']
  grind
end
def ngW (w : Rat × Rat × Rat) : Rat × Rat × Rat := (-w.1, -w.2.1, -w.2.2)
theorem af_ng (w : Rat × Rat × Rat) (p : P2) : afZ (ngW w) p = -afZ w p := by unfold afZ ngW; grind
theorem chg_ng {s : Nat → Int} {n m : Nat} : chg (fun m => -s m) n m ↔ chg s n m := by
  unfold chg
  rw [Int.neg_mul_neg]
section
variable {P : Nat → P2} {n : Nat} {t : Nat → Rat} {s : Nat → Int} {w : Rat × Rat × Rat}
theorem Cfg.ng (C : Cfg P n t s w) : Cfg P n t (fun m => -s m) (ngW w) where
  h3 := C.h3
  tri := C.tri
  per := C.per
  cross := fun m hm hc => ⟨(C.cross m hm (chg_ng.1 hc)).1, by rw [af_ng, (C.cross m hm (chg_ng.1 hc)).2]; rfl⟩
  neg := fun m hm => by
    have h1 := C.neg m hm
    have h2 := C.zero m hm
    rw [af_ng]
    have e1 : (-s m < 0) ↔ ¬ (s m < 0 ∨ s m = 0) := by omega
    rw [e1, h1, h2]
    grind
  zero := fun m hm => by
    have h2 := C.zero m hm
    rw [af_ng]
    have e1 : (-s m = 0) ↔ s m = 0 := by omega
    rw [e1, h2]
    grind
theorem zero_pt {a b : P2} (h : afZ w a < 0) (h' : 0 < afZ w b) : ∃ o, afZ w o = 0 := by
  refine ⟨lp (afZ w a / (afZ w a - afZ w b)) a b, ?_⟩
  rw [af_lp]
  have hne : ¬ afZ w a - afZ w b = 0 := by grind
  have e := Rat.div_mul_cancel (a := afZ w a) hne
  generalize afZ w a / (afZ w a - afZ w b) = u at *
  grind
theorem om_sum (C : Cfg P n t s w) {o v : P2} (ho : afZ w o = 0) (hv : ¬ afZ w v = 0) : ∀ m, m ≤ n →
    usum (fun m => s (m % n)) t (fun e => cr o (ex P n e) (ex P n (e + 1))) m + usum (fun m => -s (m % n)) t (fun e => cr o (ex P n e) (ex P n (e + 1))) m = arO P n o m
  | 0, _ => by show (0 : Rat) + 0 = 0; grind
  | m + 1, hm => by
    have ih := om_sum C ho hv m (by omega)
    have hn : 0 < n := by omega
    have e1 : ex P n m = P m := by unfold ex; rw [Nat.mod_eq_of_lt (by omega)]
    have e2 : ex P n (m + 1) = P ((m + 1) % n) := rfl
    show (usum _ t _ m + om (fun m => s (m % n)) t m * cr o (ex P n m) (ex P n (m + 1))) + (usum _ t _ m + om (fun m => -s (m % n)) t m * cr o (ex P n m) (ex P n (m + 1))) = arO P n o m + cr o (P m) (P ((m + 1) % n))
    rw [← ih, e1, e2]
    have hk : (om (fun m => s (m % n)) t m + om (fun m => -s (m % n)) t m) * cr o (P m) (P ((m + 1) % n)) = cr o (P m) (P ((m + 1) % n)) := by
      have hmm : m % n = m := Nat.mod_eq_of_lt (by omega)
      have hk2 := Nat.mod_lt (m + 1) hn
      rw [om_two (S := fun m => s (m % n)) (x := s m) (y := s ((m + 1) % n)) (by show s (m % n) = _; rw [hmm]) rfl, om_two (S := fun m => -s (m % n)) (x := -s m) (y := -s ((m + 1) % n)) (by show -s (m % n) = _; rw [hmm]) rfl]
      generalize hk1 : (m + 1) % n = k at *
      rcases Int.lt_trichotomy (s m) 0 with h | h | h <;> rcases Int.lt_trichotomy (s k) 0 with h' | h' | h'
      · rw [if_pos (by omega), if_neg (by omega), if_neg (by omega), if_neg (by omega)]; grind
      · rw [if_pos (by omega), if_neg (by omega), if_neg (by omega), if_neg (by omega)]; grind
      · rw [if_neg (by omega), if_pos (by omega), if_neg (by omega), if_neg (by omega), if_pos (by omega)]; grind
      · rw [if_pos (by omega), if_neg (by omega), if_neg (by omega), if_neg (by omega)]; grind
      · rw [line_zero ho ((C.zero m (by omega)).1 h) ((C.zero k hk2).1 h') hv]; grind
      · rw [if_neg (by omega), if_neg (by omega), if_neg (by omega), if_pos (by omega)]; grind
      · rw [if_neg (by omega), if_neg (by omega), if_pos (by omega), if_neg (by omega), if_pos (by omega)]; grind
      · rw [if_neg (by omega), if_neg (by omega), if_neg (by omega), if_pos (by omega)]; grind
      · rw [if_neg (by omega), if_neg (by omega), if_neg (by omega), if_pos (by omega)]; grind
    grind
theorem area_sum (C : Cfg P n t s w) {i j : Nat} (hi : i < n) (hj : j < n) (h1 : s i < 0) (h2 : 0 < s j) :
    arC (fun q => mkP P n t ((mks s n n).getD q (0, false))) (mks s n n).length (mks s n n).length +
    arC (fun q => mkP P n t ((mks (fun m => -s m) n n).getD q (0, false))) (mks (fun m => -s m) n n).length (mks (fun m => -s m) n n).length = arC P n n := by
  have g1 := (C.neg i hi).1 h1
  have g2 : 0 < afZ w (P j) := by
    have a := C.neg j hj
    have b := C.zero j hj
    have h3 : ¬ s j < 0 := by omega
    have h4 : ¬ s j = 0 := by omega
    rw [a] at h3
    rw [b] at h4
    grind
  obtain ⟨o, ho⟩ := zero_pt g1 g2
  have hv : ¬ afZ w (P i) = 0 := by grind
  have l1 := mks_len hi hj h1 h2
  have l2 := mks_len (s := fun m => -s m) hj hi (by show -s j < 0; omega) (by show 0 < -s i; omega)
  rw [part_area C ho hv (by omega), part_area C.ng (o := o) (v := P i) (by rw [af_ng, ho]; rfl) (by rw [af_ng]; grind) (by omega), om_sum C ho hv n (Nat.le_refl _), arO_all]
end
end Bk
