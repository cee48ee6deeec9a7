/-
  No cell of these rows narrows 'for every input' (looked for: loops, veiled, ifaces, maps, wideKeys, modest, calm, conditions, laid).
  DERIVED. THE GIVEN ROWS OF THIS SEAT. 8 by the template 'for every input the law returns true; each argument reads behind the call as it read before'; 0 by the template 'total and deterministic' (their statements: YtoionddicppahaaTotals.lean).
  GIVEN WITH THE SEED: the statements are not yours to turn. If you find one false, say at which input.
  Laid BY PROGRAM, IN A SANDBOX (cutbox-rows.mjs): the forced cells as the released guide's own fill.sh prints them over the translation 328e31a0e31e9834… (all of the seat's roots in one cut). By AI agents, Wed Nov 11 2026. No macro, syntax, notation, axiom, sorry.
-/
import Derived.Test.YtoionddicppahaaChecked
import GoSem.Claim
import GoSem.ClaimJoined
import GoSem.ClaimMapViews
import Derived.JoinedTies
import Derived.KernelRfl
namespace Go.Proofs.Ytoionddicppahaa
/- THE CELL 'sum', in the pinned program and in every row, IS THE sha256 OF THE DUMP (.gsa) THAT YtoionddicppahaaProg.lean LOADS. Nothing in Lean hashes anything: it is a label: what it is worth is what the hold of that sum in a sandbox is worth. -/
noncomputable def Try.pinned : Pinned := { name := "ytoionddicppahaa", sum := "328e31a0e31e9834cc3f0851110ecf271cf3c564abea0c16107350803c9eacd3", checked := Try.checked }
namespace Rows
def none {H : Type} : Left H := { results := [], args := [] }

/-- 'brepkernellaw01.NaturalReads': WHATEVER THE INPUT: true; the input reads as it did. -/
def naturalReadsSpec : ChangeSpec := { name := "naturalReads", fn := fun _ => fun
  | [d1, d2, d3] => { results := [.lit (.bool true)], args := [d1, d2, d3] }
  | _ => none }
def naturalReadsRow : OpenClaim := { program := "ytoionddicppahaa", sum := "328e31a0e31e9834cc3f0851110ecf271cf3c564abea0c16107350803c9eacd3", func := "brepkernel/brepkernellaw01.NaturalReads", spec := "naturalReads", apart := false }
def NaturalReadsSaid : Prop := naturalReadsRow.holds Try.pinned (OpenSpec.ofChange naturalReadsSpec)

/-- ITS FALSE NEIGHBOUR: 'it returns false'. Refute it at one input. -/
def naturalReadsWrong : ChangeSpec := { name := "naturalReads", fn := fun _ => fun
  | [d1, d2, d3] => { results := [.lit (.bool false)], args := [d1, d2, d3] }
  | _ => none }
def NaturalReadsWrongFalsely : Prop := naturalReadsRow.holds Try.pinned (OpenSpec.ofChange naturalReadsWrong)

/-- 'brepkernellaw01.NaturalRing': WHATEVER THE INPUT: true; the input reads as it did. -/
def naturalRingSpec : ChangeSpec := { name := "naturalRing", fn := fun _ => fun
  | [d1, d2, d3] => { results := [.lit (.bool true)], args := [d1, d2, d3] }
  | _ => none }
def naturalRingRow : OpenClaim := { program := "ytoionddicppahaa", sum := "328e31a0e31e9834cc3f0851110ecf271cf3c564abea0c16107350803c9eacd3", func := "brepkernel/brepkernellaw01.NaturalRing", spec := "naturalRing", apart := false }
def NaturalRingSaid : Prop := naturalRingRow.holds Try.pinned (OpenSpec.ofChange naturalRingSpec)

/-- ITS FALSE NEIGHBOUR: 'it returns false'. Refute it at one input. -/
def naturalRingWrong : ChangeSpec := { name := "naturalRing", fn := fun _ => fun
  | [d1, d2, d3] => { results := [.lit (.bool false)], args := [d1, d2, d3] }
  | _ => none }
def NaturalRingWrongFalsely : Prop := naturalRingRow.holds Try.pinned (OpenSpec.ofChange naturalRingWrong)

/-- 'brepkernellaw01.NaturalShifts': WHATEVER THE INPUT: true; the input reads as it did. -/
def naturalShiftsSpec : ChangeSpec := { name := "naturalShifts", fn := fun _ => fun
  | [d1, d2] => { results := [.lit (.bool true)], args := [d1, d2] }
  | _ => none }
def naturalShiftsRow : OpenClaim := { program := "ytoionddicppahaa", sum := "328e31a0e31e9834cc3f0851110ecf271cf3c564abea0c16107350803c9eacd3", func := "brepkernel/brepkernellaw01.NaturalShifts", spec := "naturalShifts", apart := false }
def NaturalShiftsSaid : Prop := naturalShiftsRow.holds Try.pinned (OpenSpec.ofChange naturalShiftsSpec)

/-- ITS FALSE NEIGHBOUR: 'it returns false'. Refute it at one input. -/
def naturalShiftsWrong : ChangeSpec := { name := "naturalShifts", fn := fun _ => fun
  | [d1, d2] => { results := [.lit (.bool false)], args := [d1, d2] }
  | _ => none }
def NaturalShiftsWrongFalsely : Prop := naturalShiftsRow.holds Try.pinned (OpenSpec.ofChange naturalShiftsWrong)

/-- 'brepkernellaw01.NaturalTexts': WHATEVER THE INPUT: true; the input reads as it did. -/
def naturalTextsSpec : ChangeSpec := { name := "naturalTexts", fn := fun _ => fun
  | [d1, d2] => { results := [.lit (.bool true)], args := [d1, d2] }
  | _ => none }
def naturalTextsRow : OpenClaim := { program := "ytoionddicppahaa", sum := "328e31a0e31e9834cc3f0851110ecf271cf3c564abea0c16107350803c9eacd3", func := "brepkernel/brepkernellaw01.NaturalTexts", spec := "naturalTexts", apart := false }
def NaturalTextsSaid : Prop := naturalTextsRow.holds Try.pinned (OpenSpec.ofChange naturalTextsSpec)

/-- ITS FALSE NEIGHBOUR: 'it returns false'. Refute it at one input. -/
def naturalTextsWrong : ChangeSpec := { name := "naturalTexts", fn := fun _ => fun
  | [d1, d2] => { results := [.lit (.bool false)], args := [d1, d2] }
  | _ => none }
def NaturalTextsWrongFalsely : Prop := naturalTextsRow.holds Try.pinned (OpenSpec.ofChange naturalTextsWrong)

/-- 'brepkernellaw01.NaturalDivides': WHATEVER THE INPUT: true; the input reads as it did. -/
def naturalDividesSpec : ChangeSpec := { name := "naturalDivides", fn := fun _ => fun
  | [d1, d2, d3] => { results := [.lit (.bool true)], args := [d1, d2, d3] }
  | _ => none }
def naturalDividesRow : OpenClaim := { program := "ytoionddicppahaa", sum := "328e31a0e31e9834cc3f0851110ecf271cf3c564abea0c16107350803c9eacd3", func := "brepkernel/brepkernellaw01.NaturalDivides", spec := "naturalDivides", apart := false }
def NaturalDividesSaid : Prop := naturalDividesRow.holds Try.pinned (OpenSpec.ofChange naturalDividesSpec)

/-- ITS FALSE NEIGHBOUR: 'it returns false'. Refute it at one input. -/
def naturalDividesWrong : ChangeSpec := { name := "naturalDivides", fn := fun _ => fun
  | [d1, d2, d3] => { results := [.lit (.bool false)], args := [d1, d2, d3] }
  | _ => none }
def NaturalDividesWrongFalsely : Prop := naturalDividesRow.holds Try.pinned (OpenSpec.ofChange naturalDividesWrong)

/-- 'brepkernellaw01.NaturalAdds': WHATEVER THE INPUT: true; the input reads as it did. -/
def naturalAddsSpec : ChangeSpec := { name := "naturalAdds", fn := fun _ => fun
  | [d1, d2] => { results := [.lit (.bool true)], args := [d1, d2] }
  | _ => none }
def naturalAddsRow : OpenClaim := { program := "ytoionddicppahaa", sum := "328e31a0e31e9834cc3f0851110ecf271cf3c564abea0c16107350803c9eacd3", func := "brepkernel/brepkernellaw01.NaturalAdds", spec := "naturalAdds", apart := false }
def NaturalAddsSaid : Prop := naturalAddsRow.holds Try.pinned (OpenSpec.ofChange naturalAddsSpec)

/-- ITS FALSE NEIGHBOUR: 'it returns false'. Refute it at one input. -/
def naturalAddsWrong : ChangeSpec := { name := "naturalAdds", fn := fun _ => fun
  | [d1, d2] => { results := [.lit (.bool false)], args := [d1, d2] }
  | _ => none }
def NaturalAddsWrongFalsely : Prop := naturalAddsRow.holds Try.pinned (OpenSpec.ofChange naturalAddsWrong)

/-- 'brepkernellaw01.NaturalQuotient': WHATEVER THE INPUT: true; the input reads as it did. -/
def naturalQuotientSpec : ChangeSpec := { name := "naturalQuotient", fn := fun _ => fun
  | [d1, d2] => { results := [.lit (.bool true)], args := [d1, d2] }
  | _ => none }
def naturalQuotientRow : OpenClaim := { program := "ytoionddicppahaa", sum := "328e31a0e31e9834cc3f0851110ecf271cf3c564abea0c16107350803c9eacd3", func := "brepkernel/brepkernellaw01.NaturalQuotient", spec := "naturalQuotient", apart := false }
def NaturalQuotientSaid : Prop := naturalQuotientRow.holds Try.pinned (OpenSpec.ofChange naturalQuotientSpec)

/-- ITS FALSE NEIGHBOUR: 'it returns false'. Refute it at one input. -/
def naturalQuotientWrong : ChangeSpec := { name := "naturalQuotient", fn := fun _ => fun
  | [d1, d2] => { results := [.lit (.bool false)], args := [d1, d2] }
  | _ => none }
def NaturalQuotientWrongFalsely : Prop := naturalQuotientRow.holds Try.pinned (OpenSpec.ofChange naturalQuotientWrong)

/-- 'brepkernellaw01.NaturalBack': WHATEVER THE INPUT: true; the input reads as it did. -/
def naturalBackSpec : ChangeSpec := { name := "naturalBack", fn := fun _ => fun
  | [d1, d2, d3] => { results := [.lit (.bool true)], args := [d1, d2, d3] }
  | _ => none }
def naturalBackRow : OpenClaim := { program := "ytoionddicppahaa", sum := "328e31a0e31e9834cc3f0851110ecf271cf3c564abea0c16107350803c9eacd3", func := "brepkernel/brepkernellaw01.NaturalBack", spec := "naturalBack", apart := false }
def NaturalBackSaid : Prop := naturalBackRow.holds Try.pinned (OpenSpec.ofChange naturalBackSpec)

/-- ITS FALSE NEIGHBOUR: 'it returns false'. Refute it at one input. -/
def naturalBackWrong : ChangeSpec := { name := "naturalBack", fn := fun _ => fun
  | [d1, d2, d3] => { results := [.lit (.bool false)], args := [d1, d2, d3] }
  | _ => none }
def NaturalBackWrongFalsely : Prop := naturalBackRow.holds Try.pinned (OpenSpec.ofChange naturalBackWrong)

/- THE SECOND FORM. 'bulk': how many values and letters a reading holds, each counted each time it is reached (what is shared counts as often as it is met; a slice's spare places count too). A statement '..UptoSaid' is the law's where the arguments, and the package variables that the reading takes, are together of bulk at most 1048576: NARROWER than '..Said'. Prove '..Said' where nothing that the law and all that it calls make is longer than what came in: it says more and counts as full. Else prove '..UptoSaid'. A law counts once. -/
mutual
def uptoBulk {H : Type} : DataW H → Nat
  | .lit (.string bytes) => bytes.length + 1
  | .lit _ => 1
  | .nil => 1
  | .ptr d => uptoBulk d + 1
  | .slice elems spare => uptoBulkAll elems + uptoBulkAll spare + 1
  | .agg parts => uptoBulkAll parts + 1
  | .iface _ d => uptoBulk d + 1
  | .map entries => uptoBulkEntries entries + 1
  | .held _ => 1
def uptoBulkAll {H : Type} : List (DataW H) → Nat
  | [] => 0
  | d :: r => uptoBulk d + uptoBulkAll r
def uptoBulkEntries {H : Type} : List (Lit × DataW H) → Nat
  | [] => 0
  | x :: r => uptoBulkEntry x + uptoBulkEntries r
def uptoBulkEntry {H : Type} : Lit × DataW H → Nat
  | (.string bytes, d) => bytes.length + uptoBulk d + 1
  | (_, d) => uptoBulk d + 1
 end
def uptoSmall : (H : Type) → List (DataW H) → Bool := fun _ ds => decide (uptoBulkAll ds ≤ 1048576)
def OpenSpec.upto (s : _root_.Go.ChangeSpec) : _root_.Go.OpenSpec := { _root_.Go.OpenSpec.ofChange s with cond := some uptoSmall }

/-- 'brepkernellaw01.NaturalReads', WHERE WHAT IT READS IS OF BULK AT MOST 1048576: true; the input reads as it did. -/
def naturalReadsUptoRow : OpenClaim := { program := "ytoionddicppahaa", sum := "328e31a0e31e9834cc3f0851110ecf271cf3c564abea0c16107350803c9eacd3", func := "brepkernel/brepkernellaw01.NaturalReads", spec := "naturalReads", apart := false, narrowed := true }
def NaturalReadsUptoSaid : Prop := naturalReadsUptoRow.holds Try.pinned (OpenSpec.upto naturalReadsSpec)

/-- 'brepkernellaw01.NaturalRing', WHERE WHAT IT READS IS OF BULK AT MOST 1048576: true; the input reads as it did. -/
def naturalRingUptoRow : OpenClaim := { program := "ytoionddicppahaa", sum := "328e31a0e31e9834cc3f0851110ecf271cf3c564abea0c16107350803c9eacd3", func := "brepkernel/brepkernellaw01.NaturalRing", spec := "naturalRing", apart := false, narrowed := true }
def NaturalRingUptoSaid : Prop := naturalRingUptoRow.holds Try.pinned (OpenSpec.upto naturalRingSpec)

/-- 'brepkernellaw01.NaturalShifts', WHERE WHAT IT READS IS OF BULK AT MOST 1048576: true; the input reads as it did. -/
def naturalShiftsUptoRow : OpenClaim := { program := "ytoionddicppahaa", sum := "328e31a0e31e9834cc3f0851110ecf271cf3c564abea0c16107350803c9eacd3", func := "brepkernel/brepkernellaw01.NaturalShifts", spec := "naturalShifts", apart := false, narrowed := true }
def NaturalShiftsUptoSaid : Prop := naturalShiftsUptoRow.holds Try.pinned (OpenSpec.upto naturalShiftsSpec)

/-- 'brepkernellaw01.NaturalTexts', WHERE WHAT IT READS IS OF BULK AT MOST 1048576: true; the input reads as it did. -/
def naturalTextsUptoRow : OpenClaim := { program := "ytoionddicppahaa", sum := "328e31a0e31e9834cc3f0851110ecf271cf3c564abea0c16107350803c9eacd3", func := "brepkernel/brepkernellaw01.NaturalTexts", spec := "naturalTexts", apart := false, narrowed := true }
def NaturalTextsUptoSaid : Prop := naturalTextsUptoRow.holds Try.pinned (OpenSpec.upto naturalTextsSpec)

/-- 'brepkernellaw01.NaturalDivides', WHERE WHAT IT READS IS OF BULK AT MOST 1048576: true; the input reads as it did. -/
def naturalDividesUptoRow : OpenClaim := { program := "ytoionddicppahaa", sum := "328e31a0e31e9834cc3f0851110ecf271cf3c564abea0c16107350803c9eacd3", func := "brepkernel/brepkernellaw01.NaturalDivides", spec := "naturalDivides", apart := false, narrowed := true }
def NaturalDividesUptoSaid : Prop := naturalDividesUptoRow.holds Try.pinned (OpenSpec.upto naturalDividesSpec)

/-- 'brepkernellaw01.NaturalAdds', WHERE WHAT IT READS IS OF BULK AT MOST 1048576: true; the input reads as it did. -/
def naturalAddsUptoRow : OpenClaim := { program := "ytoionddicppahaa", sum := "328e31a0e31e9834cc3f0851110ecf271cf3c564abea0c16107350803c9eacd3", func := "brepkernel/brepkernellaw01.NaturalAdds", spec := "naturalAdds", apart := false, narrowed := true }
def NaturalAddsUptoSaid : Prop := naturalAddsUptoRow.holds Try.pinned (OpenSpec.upto naturalAddsSpec)

/-- 'brepkernellaw01.NaturalQuotient', WHERE WHAT IT READS IS OF BULK AT MOST 1048576: true; the input reads as it did. -/
def naturalQuotientUptoRow : OpenClaim := { program := "ytoionddicppahaa", sum := "328e31a0e31e9834cc3f0851110ecf271cf3c564abea0c16107350803c9eacd3", func := "brepkernel/brepkernellaw01.NaturalQuotient", spec := "naturalQuotient", apart := false, narrowed := true }
def NaturalQuotientUptoSaid : Prop := naturalQuotientUptoRow.holds Try.pinned (OpenSpec.upto naturalQuotientSpec)

/-- 'brepkernellaw01.NaturalBack', WHERE WHAT IT READS IS OF BULK AT MOST 1048576: true; the input reads as it did. -/
def naturalBackUptoRow : OpenClaim := { program := "ytoionddicppahaa", sum := "328e31a0e31e9834cc3f0851110ecf271cf3c564abea0c16107350803c9eacd3", func := "brepkernel/brepkernellaw01.NaturalBack", spec := "naturalBack", apart := false, narrowed := true }
def NaturalBackUptoSaid : Prop := naturalBackUptoRow.holds Try.pinned (OpenSpec.upto naturalBackSpec)

end Rows
end Go.Proofs.Ytoionddicppahaa
