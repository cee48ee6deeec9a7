/-
  No cell of these rows narrows 'for every input' (looked for: loops, veiled, ifaces, maps, wideKeys, modest, calm, conditions, laid).
  DERIVED. THE GIVEN ROWS OF THIS SEAT. 5 by the template 'for every input the law returns true; each argument reads behind the call as it read before'; 0 by the template 'total and deterministic' (their statements: YtboaboflnckgoaaGreatTotals.lean).
  GIVEN WITH THE SEED: the statements are not yours to turn. If you find one false, say at which input.
  Laid BY PROGRAM, IN A SANDBOX (cutbox-rows.mjs): the forced cells as the released guide's own fill.sh prints them over the translation ac38ed4e632ce11f… (all of the seat's roots in one cut). By AI agents, Wed Nov 11 2026. No macro, syntax, notation, axiom, sorry.
-/
import Derived.Test.YtboaboflnckgoaaGreatChecked
import GoSem.Claim
import GoSem.ClaimJoined
import GoSem.ClaimMapViews
import Derived.JoinedTies
import Derived.KernelRfl
namespace Go.Proofs.YtboaboflnckgoaaGreat
/- THE CELL 'sum', in the pinned program and in every row, IS THE sha256 OF THE DUMP (.gsa) THAT YtboaboflnckgoaaGreatProg.lean LOADS. Nothing in Lean hashes anything: it is a label: what it is worth is what the hold of that sum in a sandbox is worth. -/
noncomputable def Tryz.pinned : Pinned := { name := "ytboaboflnckgoaagreat", sum := "ac38ed4e632ce11f3c9fbd04387e93ea1cfb08826b9e40e3024b74cdc0b9b321", checked := Tryz.checked }
namespace Rows
def none {H : Type} : Left H := { results := [], args := [] }

/-- 'brepkernellaw35.MassRoots': WHATEVER THE INPUT: true; the input reads as it did. -/
def massRootsSpec : ChangeSpec := { name := "massRoots", fn := fun _ => fun
  | [d1, d2, d3, d4, d5] => { results := [.lit (.bool true)], args := [d1, d2, d3, d4, d5] }
  | _ => none }
def massRootsRow : OpenClaim := { program := "ytboaboflnckgoaagreat", sum := "ac38ed4e632ce11f3c9fbd04387e93ea1cfb08826b9e40e3024b74cdc0b9b321", func := "brepkernel/brepkernellaw35.MassRoots", spec := "massRoots", inPlace := ["math/bits.Add64"], unfollowed := true, recurses := true, apart := false }
def MassRootsSaid : Prop := massRootsRow.holds Tryz.pinned (OpenSpec.ofChange massRootsSpec)

/-- ITS FALSE NEIGHBOUR: 'it returns false'. Refute it at one input. -/
def massRootsWrong : ChangeSpec := { name := "massRoots", fn := fun _ => fun
  | [d1, d2, d3, d4, d5] => { results := [.lit (.bool false)], args := [d1, d2, d3, d4, d5] }
  | _ => none }
def MassRootsWrongFalsely : Prop := massRootsRow.holds Tryz.pinned (OpenSpec.ofChange massRootsWrong)

/-- 'brepkernellaw35.MassRootsHold': WHATEVER THE INPUT: true; the input reads as it did. -/
def massRootsHoldSpec : ChangeSpec := { name := "massRootsHold", fn := fun _ => fun
  | [d1, d2, d3] => { results := [.lit (.bool true)], args := [d1, d2, d3] }
  | _ => none }
def massRootsHoldRow : OpenClaim := { program := "ytboaboflnckgoaagreat", sum := "ac38ed4e632ce11f3c9fbd04387e93ea1cfb08826b9e40e3024b74cdc0b9b321", func := "brepkernel/brepkernellaw35.MassRootsHold", spec := "massRootsHold", inPlace := ["math/bits.Add64"], unfollowed := true, recurses := true, apart := false }
def MassRootsHoldSaid : Prop := massRootsHoldRow.holds Tryz.pinned (OpenSpec.ofChange massRootsHoldSpec)

/-- ITS FALSE NEIGHBOUR: 'it returns false'. Refute it at one input. -/
def massRootsHoldWrong : ChangeSpec := { name := "massRootsHold", fn := fun _ => fun
  | [d1, d2, d3] => { results := [.lit (.bool false)], args := [d1, d2, d3] }
  | _ => none }
def MassRootsHoldWrongFalsely : Prop := massRootsHoldRow.holds Tryz.pinned (OpenSpec.ofChange massRootsHoldWrong)

/-- 'brepkernellaw35.MassMoves': WHATEVER THE INPUT: true; the input reads as it did. -/
def massMovesSpec : ChangeSpec := { name := "massMoves", fn := fun _ => fun
  | [d] => { results := [.lit (.bool true)], args := [d] }
  | _ => none }
def massMovesRow : OpenClaim := { program := "ytboaboflnckgoaagreat", sum := "ac38ed4e632ce11f3c9fbd04387e93ea1cfb08826b9e40e3024b74cdc0b9b321", func := "brepkernel/brepkernellaw35.MassMoves", spec := "massMoves", inPlace := ["math/bits.Add64"], unfollowed := true, recurses := true, apart := false }
def MassMovesSaid : Prop := massMovesRow.holds Tryz.pinned (OpenSpec.ofChange massMovesSpec)

/-- ITS FALSE NEIGHBOUR: 'it returns false'. Refute it at one input. -/
def massMovesWrong : ChangeSpec := { name := "massMoves", fn := fun _ => fun
  | [d] => { results := [.lit (.bool false)], args := [d] }
  | _ => none }
def MassMovesWrongFalsely : Prop := massMovesRow.holds Tryz.pinned (OpenSpec.ofChange massMovesWrong)

/-- 'brepkernellaw35.MassBoxes': WHATEVER THE INPUT: true; the input reads as it did. -/
def massBoxesSpec : ChangeSpec := { name := "massBoxes", fn := fun _ => fun
  | [d] => { results := [.lit (.bool true)], args := [d] }
  | _ => none }
def massBoxesRow : OpenClaim := { program := "ytboaboflnckgoaagreat", sum := "ac38ed4e632ce11f3c9fbd04387e93ea1cfb08826b9e40e3024b74cdc0b9b321", func := "brepkernel/brepkernellaw35.MassBoxes", spec := "massBoxes", inPlace := ["math/bits.Add64"], unfollowed := true, recurses := true, apart := false }
def MassBoxesSaid : Prop := massBoxesRow.holds Tryz.pinned (OpenSpec.ofChange massBoxesSpec)

/-- ITS FALSE NEIGHBOUR: 'it returns false'. Refute it at one input. -/
def massBoxesWrong : ChangeSpec := { name := "massBoxes", fn := fun _ => fun
  | [d] => { results := [.lit (.bool false)], args := [d] }
  | _ => none }
def MassBoxesWrongFalsely : Prop := massBoxesRow.holds Tryz.pinned (OpenSpec.ofChange massBoxesWrong)

/-- 'brepkernellaw35.MassBalance': WHATEVER THE INPUT: true; the input reads as it did. -/
def massBalanceSpec : ChangeSpec := { name := "massBalance", fn := fun _ => fun
  | [d] => { results := [.lit (.bool true)], args := [d] }
  | _ => none }
def massBalanceRow : OpenClaim := { program := "ytboaboflnckgoaagreat", sum := "ac38ed4e632ce11f3c9fbd04387e93ea1cfb08826b9e40e3024b74cdc0b9b321", func := "brepkernel/brepkernellaw35.MassBalance", spec := "massBalance", inPlace := ["math/bits.Add64"], unfollowed := true, recurses := true, apart := false }
def MassBalanceSaid : Prop := massBalanceRow.holds Tryz.pinned (OpenSpec.ofChange massBalanceSpec)

/-- ITS FALSE NEIGHBOUR: 'it returns false'. Refute it at one input. -/
def massBalanceWrong : ChangeSpec := { name := "massBalance", fn := fun _ => fun
  | [d] => { results := [.lit (.bool false)], args := [d] }
  | _ => none }
def MassBalanceWrongFalsely : Prop := massBalanceRow.holds Tryz.pinned (OpenSpec.ofChange massBalanceWrong)

/- THE SECOND FORM. 'bulk': how many values and letters a reading holds, each counted each time it is reached (what is shared counts as often as it is met; a slice's spare places count too). A statement '..UptoSaid' is the law's where the arguments, and the package variables that the reading takes, are together of bulk at most 1048576: NARROWER than '..Said'. Prove '..Said' where nothing that the law and all that it calls make is longer than what came in: it says more and counts as full. Else prove '..UptoSaid'. A law counts once. -/
mutual
def uptoBulk {H : Type} : DataW H → Nat
  | .lit (.string bytes) => bytes.length + 1
  | .lit _ => 1
  | .nil => 1
  | .ptr d => uptoBulk d + 1
  | .slice elems spare => uptoBulkAll elems + uptoBulkAll spare + 1
  | .agg parts => uptoBulkAll parts + 1
  | .iface _ d => uptoBulk d + 1
  | .map entries => uptoBulkEntries entries + 1
  | .held _ => 1
def uptoBulkAll {H : Type} : List (DataW H) → Nat
  | [] => 0
  | d :: r => uptoBulk d + uptoBulkAll r
def uptoBulkEntries {H : Type} : List (Lit × DataW H) → Nat
  | [] => 0
  | x :: r => uptoBulkEntry x + uptoBulkEntries r
def uptoBulkEntry {H : Type} : Lit × DataW H → Nat
  | (.string bytes, d) => bytes.length + uptoBulk d + 1
  | (_, d) => uptoBulk d + 1
 end
def uptoSmall : (H : Type) → List (DataW H) → Bool := fun _ ds => decide (uptoBulkAll ds ≤ 1048576)
def OpenSpec.upto (s : _root_.Go.ChangeSpec) : _root_.Go.OpenSpec := { _root_.Go.OpenSpec.ofChange s with cond := some uptoSmall }

/-- 'brepkernellaw35.MassRoots', WHERE WHAT IT READS IS OF BULK AT MOST 1048576: true; the input reads as it did. -/
def massRootsUptoRow : OpenClaim := { program := "ytboaboflnckgoaagreat", sum := "ac38ed4e632ce11f3c9fbd04387e93ea1cfb08826b9e40e3024b74cdc0b9b321", func := "brepkernel/brepkernellaw35.MassRoots", spec := "massRoots", inPlace := ["math/bits.Add64"], unfollowed := true, recurses := true, apart := false, narrowed := true }
def MassRootsUptoSaid : Prop := massRootsUptoRow.holds Tryz.pinned (OpenSpec.upto massRootsSpec)

/-- 'brepkernellaw35.MassRootsHold', WHERE WHAT IT READS IS OF BULK AT MOST 1048576: true; the input reads as it did. -/
def massRootsHoldUptoRow : OpenClaim := { program := "ytboaboflnckgoaagreat", sum := "ac38ed4e632ce11f3c9fbd04387e93ea1cfb08826b9e40e3024b74cdc0b9b321", func := "brepkernel/brepkernellaw35.MassRootsHold", spec := "massRootsHold", inPlace := ["math/bits.Add64"], unfollowed := true, recurses := true, apart := false, narrowed := true }
def MassRootsHoldUptoSaid : Prop := massRootsHoldUptoRow.holds Tryz.pinned (OpenSpec.upto massRootsHoldSpec)

/-- 'brepkernellaw35.MassMoves', WHERE WHAT IT READS IS OF BULK AT MOST 1048576: true; the input reads as it did. -/
def massMovesUptoRow : OpenClaim := { program := "ytboaboflnckgoaagreat", sum := "ac38ed4e632ce11f3c9fbd04387e93ea1cfb08826b9e40e3024b74cdc0b9b321", func := "brepkernel/brepkernellaw35.MassMoves", spec := "massMoves", inPlace := ["math/bits.Add64"], unfollowed := true, recurses := true, apart := false, narrowed := true }
def MassMovesUptoSaid : Prop := massMovesUptoRow.holds Tryz.pinned (OpenSpec.upto massMovesSpec)

/-- 'brepkernellaw35.MassBoxes', WHERE WHAT IT READS IS OF BULK AT MOST 1048576: true; the input reads as it did. -/
def massBoxesUptoRow : OpenClaim := { program := "ytboaboflnckgoaagreat", sum := "ac38ed4e632ce11f3c9fbd04387e93ea1cfb08826b9e40e3024b74cdc0b9b321", func := "brepkernel/brepkernellaw35.MassBoxes", spec := "massBoxes", inPlace := ["math/bits.Add64"], unfollowed := true, recurses := true, apart := false, narrowed := true }
def MassBoxesUptoSaid : Prop := massBoxesUptoRow.holds Tryz.pinned (OpenSpec.upto massBoxesSpec)

/-- 'brepkernellaw35.MassBalance', WHERE WHAT IT READS IS OF BULK AT MOST 1048576: true; the input reads as it did. -/
def massBalanceUptoRow : OpenClaim := { program := "ytboaboflnckgoaagreat", sum := "ac38ed4e632ce11f3c9fbd04387e93ea1cfb08826b9e40e3024b74cdc0b9b321", func := "brepkernel/brepkernellaw35.MassBalance", spec := "massBalance", inPlace := ["math/bits.Add64"], unfollowed := true, recurses := true, apart := false, narrowed := true }
def MassBalanceUptoSaid : Prop := massBalanceUptoRow.holds Tryz.pinned (OpenSpec.upto massBalanceSpec)

end Rows
end Go.Proofs.YtboaboflnckgoaaGreat
