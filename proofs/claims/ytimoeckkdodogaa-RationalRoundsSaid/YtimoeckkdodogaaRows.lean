/-
  No cell of these rows narrows 'for every input' (looked for: loops, veiled, ifaces, maps, wideKeys, modest, calm, conditions, laid).
  DERIVED. THE GIVEN ROWS OF THIS SEAT. 10 by the template 'for every input the law returns true; each argument reads behind the call as it read before'; 0 by the template 'total and deterministic' (their statements: YtimoeckkdodogaaTotals.lean).
  GIVEN WITH THE SEED: the statements are not yours to turn. If you find one false, say at which input.
  Laid BY PROGRAM, IN A SANDBOX (cutbox-rows.mjs): the forced cells as the released guide's own fill.sh prints them over the translation c3915a3c5086f172… (all of the seat's roots in one cut). By AI agents, Wed Nov 11 2026. No macro, syntax, notation, axiom, sorry.
-/
import Derived.Test.YtimoeckkdodogaaChecked
import GoSem.Claim
import GoSem.ClaimJoined
import GoSem.ClaimMapViews
import Derived.JoinedTies
import Derived.KernelRfl
namespace Go.Proofs.Ytimoeckkdodogaa
/- THE CELL 'sum', in the pinned program and in every row, IS THE sha256 OF THE DUMP (.gsa) THAT YtimoeckkdodogaaProg.lean LOADS. Nothing in Lean hashes anything: it is a label: what it is worth is what the hold of that sum in a sandbox is worth. -/
noncomputable def Try.pinned : Pinned := { name := "ytimoeckkdodogaa", sum := "c3915a3c5086f172d5074eb6720f15a97fcf2180871664fb19fe6ebbb303ec64", checked := Try.checked }
namespace Rows
def none {H : Type} : Left H := { results := [], args := [] }

/-- 'brepkernellaw02.RationalTexts': WHATEVER THE INPUT: true; the input reads as it did. -/
def rationalTextsSpec : ChangeSpec := { name := "rationalTexts", fn := fun _ => fun
  | [d1, d2] => { results := [.lit (.bool true)], args := [d1, d2] }
  | _ => none }
def rationalTextsRow : OpenClaim := { program := "ytimoeckkdodogaa", sum := "c3915a3c5086f172d5074eb6720f15a97fcf2180871664fb19fe6ebbb303ec64", func := "brepkernel/brepkernellaw02.RationalTexts", spec := "rationalTexts", apart := false }
def RationalTextsSaid : Prop := rationalTextsRow.holds Try.pinned (OpenSpec.ofChange rationalTextsSpec)

/-- ITS FALSE NEIGHBOUR: 'it returns false'. Refute it at one input. -/
def rationalTextsWrong : ChangeSpec := { name := "rationalTexts", fn := fun _ => fun
  | [d1, d2] => { results := [.lit (.bool false)], args := [d1, d2] }
  | _ => none }
def RationalTextsWrongFalsely : Prop := rationalTextsRow.holds Try.pinned (OpenSpec.ofChange rationalTextsWrong)

/-- 'brepkernellaw02.RationalMakes': WHATEVER THE INPUT: true; the input reads as it did. -/
def rationalMakesSpec : ChangeSpec := { name := "rationalMakes", fn := fun _ => fun
  | [d1, d2] => { results := [.lit (.bool true)], args := [d1, d2] }
  | _ => none }
def rationalMakesRow : OpenClaim := { program := "ytimoeckkdodogaa", sum := "c3915a3c5086f172d5074eb6720f15a97fcf2180871664fb19fe6ebbb303ec64", func := "brepkernel/brepkernellaw02.RationalMakes", spec := "rationalMakes", apart := false }
def RationalMakesSaid : Prop := rationalMakesRow.holds Try.pinned (OpenSpec.ofChange rationalMakesSpec)

/-- ITS FALSE NEIGHBOUR: 'it returns false'. Refute it at one input. -/
def rationalMakesWrong : ChangeSpec := { name := "rationalMakes", fn := fun _ => fun
  | [d1, d2] => { results := [.lit (.bool false)], args := [d1, d2] }
  | _ => none }
def RationalMakesWrongFalsely : Prop := rationalMakesRow.holds Try.pinned (OpenSpec.ofChange rationalMakesWrong)

/-- 'brepkernellaw02.RationalNorms': WHATEVER THE INPUT: true; the input reads as it did. -/
def rationalNormsSpec : ChangeSpec := { name := "rationalNorms", fn := fun _ => fun
  | [d] => { results := [.lit (.bool true)], args := [d] }
  | _ => none }
def rationalNormsRow : OpenClaim := { program := "ytimoeckkdodogaa", sum := "c3915a3c5086f172d5074eb6720f15a97fcf2180871664fb19fe6ebbb303ec64", func := "brepkernel/brepkernellaw02.RationalNorms", spec := "rationalNorms", apart := false }
def RationalNormsSaid : Prop := rationalNormsRow.holds Try.pinned (OpenSpec.ofChange rationalNormsSpec)

/-- ITS FALSE NEIGHBOUR: 'it returns false'. Refute it at one input. -/
def rationalNormsWrong : ChangeSpec := { name := "rationalNorms", fn := fun _ => fun
  | [d] => { results := [.lit (.bool false)], args := [d] }
  | _ => none }
def RationalNormsWrongFalsely : Prop := rationalNormsRow.holds Try.pinned (OpenSpec.ofChange rationalNormsWrong)

/-- 'brepkernellaw02.RationalBack': WHATEVER THE INPUT: true; the input reads as it did. -/
def rationalBackSpec : ChangeSpec := { name := "rationalBack", fn := fun _ => fun
  | [d] => { results := [.lit (.bool true)], args := [d] }
  | _ => none }
def rationalBackRow : OpenClaim := { program := "ytimoeckkdodogaa", sum := "c3915a3c5086f172d5074eb6720f15a97fcf2180871664fb19fe6ebbb303ec64", func := "brepkernel/brepkernellaw02.RationalBack", spec := "rationalBack", apart := false }
def RationalBackSaid : Prop := rationalBackRow.holds Try.pinned (OpenSpec.ofChange rationalBackSpec)

/-- ITS FALSE NEIGHBOUR: 'it returns false'. Refute it at one input. -/
def rationalBackWrong : ChangeSpec := { name := "rationalBack", fn := fun _ => fun
  | [d] => { results := [.lit (.bool false)], args := [d] }
  | _ => none }
def RationalBackWrongFalsely : Prop := rationalBackRow.holds Try.pinned (OpenSpec.ofChange rationalBackWrong)

/-- 'brepkernellaw02.RationalRounds': WHATEVER THE INPUT: true; the input reads as it did. -/
def rationalRoundsSpec : ChangeSpec := { name := "rationalRounds", fn := fun _ => fun
  | [d1, d2] => { results := [.lit (.bool true)], args := [d1, d2] }
  | _ => none }
def rationalRoundsRow : OpenClaim := { program := "ytimoeckkdodogaa", sum := "c3915a3c5086f172d5074eb6720f15a97fcf2180871664fb19fe6ebbb303ec64", func := "brepkernel/brepkernellaw02.RationalRounds", spec := "rationalRounds", apart := false }
def RationalRoundsSaid : Prop := rationalRoundsRow.holds Try.pinned (OpenSpec.ofChange rationalRoundsSpec)

/-- ITS FALSE NEIGHBOUR: 'it returns false'. Refute it at one input. -/
def rationalRoundsWrong : ChangeSpec := { name := "rationalRounds", fn := fun _ => fun
  | [d1, d2] => { results := [.lit (.bool false)], args := [d1, d2] }
  | _ => none }
def RationalRoundsWrongFalsely : Prop := rationalRoundsRow.holds Try.pinned (OpenSpec.ofChange rationalRoundsWrong)

/-- 'brepkernellaw02.RationalSums': WHATEVER THE INPUT: true; the input reads as it did. -/
def rationalSumsSpec : ChangeSpec := { name := "rationalSums", fn := fun _ => fun
  | [d1, d2] => { results := [.lit (.bool true)], args := [d1, d2] }
  | _ => none }
def rationalSumsRow : OpenClaim := { program := "ytimoeckkdodogaa", sum := "c3915a3c5086f172d5074eb6720f15a97fcf2180871664fb19fe6ebbb303ec64", func := "brepkernel/brepkernellaw02.RationalSums", spec := "rationalSums", inPlace := ["math/bits.Add64"], apart := false }
def RationalSumsSaid : Prop := rationalSumsRow.holds Try.pinned (OpenSpec.ofChange rationalSumsSpec)

/-- ITS FALSE NEIGHBOUR: 'it returns false'. Refute it at one input. -/
def rationalSumsWrong : ChangeSpec := { name := "rationalSums", fn := fun _ => fun
  | [d1, d2] => { results := [.lit (.bool false)], args := [d1, d2] }
  | _ => none }
def RationalSumsWrongFalsely : Prop := rationalSumsRow.holds Try.pinned (OpenSpec.ofChange rationalSumsWrong)

/-- 'brepkernellaw02.RationalField': WHATEVER THE INPUT: true; the input reads as it did. -/
def rationalFieldSpec : ChangeSpec := { name := "rationalField", fn := fun _ => fun
  | [d1, d2, d3] => { results := [.lit (.bool true)], args := [d1, d2, d3] }
  | _ => none }
def rationalFieldRow : OpenClaim := { program := "ytimoeckkdodogaa", sum := "c3915a3c5086f172d5074eb6720f15a97fcf2180871664fb19fe6ebbb303ec64", func := "brepkernel/brepkernellaw02.RationalField", spec := "rationalField", inPlace := ["math/bits.Add64"], apart := false }
def RationalFieldSaid : Prop := rationalFieldRow.holds Try.pinned (OpenSpec.ofChange rationalFieldSpec)

/-- ITS FALSE NEIGHBOUR: 'it returns false'. Refute it at one input. -/
def rationalFieldWrong : ChangeSpec := { name := "rationalField", fn := fun _ => fun
  | [d1, d2, d3] => { results := [.lit (.bool false)], args := [d1, d2, d3] }
  | _ => none }
def RationalFieldWrongFalsely : Prop := rationalFieldRow.holds Try.pinned (OpenSpec.ofChange rationalFieldWrong)

/-- 'brepkernellaw02.RationalOrder': WHATEVER THE INPUT: true; the input reads as it did. -/
def rationalOrderSpec : ChangeSpec := { name := "rationalOrder", fn := fun _ => fun
  | [d1, d2, d3] => { results := [.lit (.bool true)], args := [d1, d2, d3] }
  | _ => none }
def rationalOrderRow : OpenClaim := { program := "ytimoeckkdodogaa", sum := "c3915a3c5086f172d5074eb6720f15a97fcf2180871664fb19fe6ebbb303ec64", func := "brepkernel/brepkernellaw02.RationalOrder", spec := "rationalOrder", inPlace := ["math/bits.Add64"], apart := false }
def RationalOrderSaid : Prop := rationalOrderRow.holds Try.pinned (OpenSpec.ofChange rationalOrderSpec)

/-- ITS FALSE NEIGHBOUR: 'it returns false'. Refute it at one input. -/
def rationalOrderWrong : ChangeSpec := { name := "rationalOrder", fn := fun _ => fun
  | [d1, d2, d3] => { results := [.lit (.bool false)], args := [d1, d2, d3] }
  | _ => none }
def RationalOrderWrongFalsely : Prop := rationalOrderRow.holds Try.pinned (OpenSpec.ofChange rationalOrderWrong)

/-- 'brepkernellaw02.RationalFloors': WHATEVER THE INPUT: true; the input reads as it did. -/
def rationalFloorsSpec : ChangeSpec := { name := "rationalFloors", fn := fun _ => fun
  | [d1, d2] => { results := [.lit (.bool true)], args := [d1, d2] }
  | _ => none }
def rationalFloorsRow : OpenClaim := { program := "ytimoeckkdodogaa", sum := "c3915a3c5086f172d5074eb6720f15a97fcf2180871664fb19fe6ebbb303ec64", func := "brepkernel/brepkernellaw02.RationalFloors", spec := "rationalFloors", inPlace := ["math/bits.Add64"], apart := false }
def RationalFloorsSaid : Prop := rationalFloorsRow.holds Try.pinned (OpenSpec.ofChange rationalFloorsSpec)

/-- ITS FALSE NEIGHBOUR: 'it returns false'. Refute it at one input. -/
def rationalFloorsWrong : ChangeSpec := { name := "rationalFloors", fn := fun _ => fun
  | [d1, d2] => { results := [.lit (.bool false)], args := [d1, d2] }
  | _ => none }
def RationalFloorsWrongFalsely : Prop := rationalFloorsRow.holds Try.pinned (OpenSpec.ofChange rationalFloorsWrong)

/-- 'brepkernellaw02.RationalCompares': WHATEVER THE INPUT: true; the input reads as it did. -/
def rationalComparesSpec : ChangeSpec := { name := "rationalCompares", fn := fun _ => fun
  | [d1, d2] => { results := [.lit (.bool true)], args := [d1, d2] }
  | _ => none }
def rationalComparesRow : OpenClaim := { program := "ytimoeckkdodogaa", sum := "c3915a3c5086f172d5074eb6720f15a97fcf2180871664fb19fe6ebbb303ec64", func := "brepkernel/brepkernellaw02.RationalCompares", spec := "rationalCompares", inPlace := ["math/bits.Add64"], apart := false }
def RationalComparesSaid : Prop := rationalComparesRow.holds Try.pinned (OpenSpec.ofChange rationalComparesSpec)

/-- ITS FALSE NEIGHBOUR: 'it returns false'. Refute it at one input. -/
def rationalComparesWrong : ChangeSpec := { name := "rationalCompares", fn := fun _ => fun
  | [d1, d2] => { results := [.lit (.bool false)], args := [d1, d2] }
  | _ => none }
def RationalComparesWrongFalsely : Prop := rationalComparesRow.holds Try.pinned (OpenSpec.ofChange rationalComparesWrong)

/- THE SECOND FORM. 'bulk': how many values and letters a reading holds, each counted each time it is reached (what is shared counts as often as it is met; a slice's spare places count too). A statement '..UptoSaid' is the law's where the arguments, and the package variables that the reading takes, are together of bulk at most 1048576: NARROWER than '..Said'. Prove '..Said' where nothing that the law and all that it calls make is longer than what came in: it says more and counts as full. Else prove '..UptoSaid'. A law counts once. -/
mutual
def uptoBulk {H : Type} : DataW H → Nat
  | .lit (.string bytes) => bytes.length + 1
  | .lit _ => 1
  | .nil => 1
  | .ptr d => uptoBulk d + 1
  | .slice elems spare => uptoBulkAll elems + uptoBulkAll spare + 1
  | .agg parts => uptoBulkAll parts + 1
  | .iface _ d => uptoBulk d + 1
  | .map entries => uptoBulkEntries entries + 1
  | .held _ => 1
def uptoBulkAll {H : Type} : List (DataW H) → Nat
  | [] => 0
  | d :: r => uptoBulk d + uptoBulkAll r
def uptoBulkEntries {H : Type} : List (Lit × DataW H) → Nat
  | [] => 0
  | x :: r => uptoBulkEntry x + uptoBulkEntries r
def uptoBulkEntry {H : Type} : Lit × DataW H → Nat
  | (.string bytes, d) => bytes.length + uptoBulk d + 1
  | (_, d) => uptoBulk d + 1
 end
def uptoSmall : (H : Type) → List (DataW H) → Bool := fun _ ds => decide (uptoBulkAll ds ≤ 1048576)
def OpenSpec.upto (s : _root_.Go.ChangeSpec) : _root_.Go.OpenSpec := { _root_.Go.OpenSpec.ofChange s with cond := some uptoSmall }

/-- 'brepkernellaw02.RationalTexts', WHERE WHAT IT READS IS OF BULK AT MOST 1048576: true; the input reads as it did. -/
def rationalTextsUptoRow : OpenClaim := { program := "ytimoeckkdodogaa", sum := "c3915a3c5086f172d5074eb6720f15a97fcf2180871664fb19fe6ebbb303ec64", func := "brepkernel/brepkernellaw02.RationalTexts", spec := "rationalTexts", apart := false, narrowed := true }
def RationalTextsUptoSaid : Prop := rationalTextsUptoRow.holds Try.pinned (OpenSpec.upto rationalTextsSpec)

/-- 'brepkernellaw02.RationalMakes', WHERE WHAT IT READS IS OF BULK AT MOST 1048576: true; the input reads as it did. -/
def rationalMakesUptoRow : OpenClaim := { program := "ytimoeckkdodogaa", sum := "c3915a3c5086f172d5074eb6720f15a97fcf2180871664fb19fe6ebbb303ec64", func := "brepkernel/brepkernellaw02.RationalMakes", spec := "rationalMakes", apart := false, narrowed := true }
def RationalMakesUptoSaid : Prop := rationalMakesUptoRow.holds Try.pinned (OpenSpec.upto rationalMakesSpec)

/-- 'brepkernellaw02.RationalNorms', WHERE WHAT IT READS IS OF BULK AT MOST 1048576: true; the input reads as it did. -/
def rationalNormsUptoRow : OpenClaim := { program := "ytimoeckkdodogaa", sum := "c3915a3c5086f172d5074eb6720f15a97fcf2180871664fb19fe6ebbb303ec64", func := "brepkernel/brepkernellaw02.RationalNorms", spec := "rationalNorms", apart := false, narrowed := true }
def RationalNormsUptoSaid : Prop := rationalNormsUptoRow.holds Try.pinned (OpenSpec.upto rationalNormsSpec)

/-- 'brepkernellaw02.RationalBack', WHERE WHAT IT READS IS OF BULK AT MOST 1048576: true; the input reads as it did. -/
def rationalBackUptoRow : OpenClaim := { program := "ytimoeckkdodogaa", sum := "c3915a3c5086f172d5074eb6720f15a97fcf2180871664fb19fe6ebbb303ec64", func := "brepkernel/brepkernellaw02.RationalBack", spec := "rationalBack", apart := false, narrowed := true }
def RationalBackUptoSaid : Prop := rationalBackUptoRow.holds Try.pinned (OpenSpec.upto rationalBackSpec)

/-- 'brepkernellaw02.RationalRounds', WHERE WHAT IT READS IS OF BULK AT MOST 1048576: true; the input reads as it did. -/
def rationalRoundsUptoRow : OpenClaim := { program := "ytimoeckkdodogaa", sum := "c3915a3c5086f172d5074eb6720f15a97fcf2180871664fb19fe6ebbb303ec64", func := "brepkernel/brepkernellaw02.RationalRounds", spec := "rationalRounds", apart := false, narrowed := true }
def RationalRoundsUptoSaid : Prop := rationalRoundsUptoRow.holds Try.pinned (OpenSpec.upto rationalRoundsSpec)

/-- 'brepkernellaw02.RationalSums', WHERE WHAT IT READS IS OF BULK AT MOST 1048576: true; the input reads as it did. -/
def rationalSumsUptoRow : OpenClaim := { program := "ytimoeckkdodogaa", sum := "c3915a3c5086f172d5074eb6720f15a97fcf2180871664fb19fe6ebbb303ec64", func := "brepkernel/brepkernellaw02.RationalSums", spec := "rationalSums", inPlace := ["math/bits.Add64"], apart := false, narrowed := true }
def RationalSumsUptoSaid : Prop := rationalSumsUptoRow.holds Try.pinned (OpenSpec.upto rationalSumsSpec)

/-- 'brepkernellaw02.RationalField', WHERE WHAT IT READS IS OF BULK AT MOST 1048576: true; the input reads as it did. -/
def rationalFieldUptoRow : OpenClaim := { program := "ytimoeckkdodogaa", sum := "c3915a3c5086f172d5074eb6720f15a97fcf2180871664fb19fe6ebbb303ec64", func := "brepkernel/brepkernellaw02.RationalField", spec := "rationalField", inPlace := ["math/bits.Add64"], apart := false, narrowed := true }
def RationalFieldUptoSaid : Prop := rationalFieldUptoRow.holds Try.pinned (OpenSpec.upto rationalFieldSpec)

/-- 'brepkernellaw02.RationalOrder', WHERE WHAT IT READS IS OF BULK AT MOST 1048576: true; the input reads as it did. -/
def rationalOrderUptoRow : OpenClaim := { program := "ytimoeckkdodogaa", sum := "c3915a3c5086f172d5074eb6720f15a97fcf2180871664fb19fe6ebbb303ec64", func := "brepkernel/brepkernellaw02.RationalOrder", spec := "rationalOrder", inPlace := ["math/bits.Add64"], apart := false, narrowed := true }
def RationalOrderUptoSaid : Prop := rationalOrderUptoRow.holds Try.pinned (OpenSpec.upto rationalOrderSpec)

/-- 'brepkernellaw02.RationalFloors', WHERE WHAT IT READS IS OF BULK AT MOST 1048576: true; the input reads as it did. -/
def rationalFloorsUptoRow : OpenClaim := { program := "ytimoeckkdodogaa", sum := "c3915a3c5086f172d5074eb6720f15a97fcf2180871664fb19fe6ebbb303ec64", func := "brepkernel/brepkernellaw02.RationalFloors", spec := "rationalFloors", inPlace := ["math/bits.Add64"], apart := false, narrowed := true }
def RationalFloorsUptoSaid : Prop := rationalFloorsUptoRow.holds Try.pinned (OpenSpec.upto rationalFloorsSpec)

/-- 'brepkernellaw02.RationalCompares', WHERE WHAT IT READS IS OF BULK AT MOST 1048576: true; the input reads as it did. -/
def rationalComparesUptoRow : OpenClaim := { program := "ytimoeckkdodogaa", sum := "c3915a3c5086f172d5074eb6720f15a97fcf2180871664fb19fe6ebbb303ec64", func := "brepkernel/brepkernellaw02.RationalCompares", spec := "rationalCompares", inPlace := ["math/bits.Add64"], apart := false, narrowed := true }
def RationalComparesUptoSaid : Prop := rationalComparesUptoRow.holds Try.pinned (OpenSpec.upto rationalComparesSpec)

end Rows
end Go.Proofs.Ytimoeckkdodogaa
