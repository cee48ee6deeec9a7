/-
  No cell of these rows narrows 'for every input' (looked for: loops, veiled, ifaces, maps, wideKeys, modest, calm, conditions, laid).
  DERIVED. THE GIVEN ROWS OF THIS SEAT. 6 by the template 'for every input the law returns true; each argument reads behind the call as it read before'; 0 by the template 'total and deterministic' (their statements: YtpkaegemlpaenaaGreatTotals.lean).
  GIVEN WITH THE SEED: the statements are not yours to turn. If you find one false, say at which input.
  Laid BY PROGRAM, IN A SANDBOX (cutbox-rows.mjs): the forced cells as the released guide's own fill.sh prints them over the translation d046104ce1506663… (all of the seat's roots in one cut). By AI agents, Wed Nov 11 2026. No macro, syntax, notation, axiom, sorry.
-/
import Derived.Test.YtpkaegemlpaenaaGreatChecked
import GoSem.Claim
import GoSem.ClaimJoined
import GoSem.ClaimMapViews
import Derived.JoinedTies
import Derived.KernelRfl
namespace Go.Proofs.YtpkaegemlpaenaaGreat
/- THE CELL 'sum', in the pinned program and in every row, IS THE sha256 OF THE DUMP (.gsa) THAT YtpkaegemlpaenaaGreatProg.lean LOADS. Nothing in Lean hashes anything: it is a label: what it is worth is what the hold of that sum in a sandbox is worth. -/
noncomputable def Tryz.pinned : Pinned := { name := "ytpkaegemlpaenaagreat", sum := "d046104ce1506663f3a1459254fc1d13dfdd7a3d90b3ad973fa03a1479e8f3b8", checked := Tryz.checked }
namespace Rows
def none {H : Type} : Left H := { results := [], args := [] }

/-- 'brepkernellaw30.LocateBoxes': WHATEVER THE INPUT: true; the input reads as it did. -/
def locateBoxesSpec : ChangeSpec := { name := "locateBoxes", fn := fun _ => fun
  | [d] => { results := [.lit (.bool true)], args := [d] }
  | _ => none }
def locateBoxesRow : OpenClaim := { program := "ytpkaegemlpaenaagreat", sum := "d046104ce1506663f3a1459254fc1d13dfdd7a3d90b3ad973fa03a1479e8f3b8", func := "brepkernel/brepkernellaw30.LocateBoxes", spec := "locateBoxes", inPlace := ["math/bits.Add64"], unfollowed := true, recurses := true, plainKeys := false, apart := false }
def LocateBoxesSaid : Prop := locateBoxesRow.holds Tryz.pinned (OpenSpec.ofChange locateBoxesSpec)

/-- ITS FALSE NEIGHBOUR: 'it returns false'. Refute it at one input. -/
def locateBoxesWrong : ChangeSpec := { name := "locateBoxes", fn := fun _ => fun
  | [d] => { results := [.lit (.bool false)], args := [d] }
  | _ => none }
def LocateBoxesWrongFalsely : Prop := locateBoxesRow.holds Tryz.pinned (OpenSpec.ofChange locateBoxesWrong)

/-- 'brepkernellaw30.LocateHalves': WHATEVER THE INPUT: true; the input reads as it did. -/
def locateHalvesSpec : ChangeSpec := { name := "locateHalves", fn := fun _ => fun
  | [d] => { results := [.lit (.bool true)], args := [d] }
  | _ => none }
def locateHalvesRow : OpenClaim := { program := "ytpkaegemlpaenaagreat", sum := "d046104ce1506663f3a1459254fc1d13dfdd7a3d90b3ad973fa03a1479e8f3b8", func := "brepkernel/brepkernellaw30.LocateHalves", spec := "locateHalves", inPlace := ["math/bits.Add64"], unfollowed := true, recurses := true, plainKeys := false, apart := false }
def LocateHalvesSaid : Prop := locateHalvesRow.holds Tryz.pinned (OpenSpec.ofChange locateHalvesSpec)

/-- ITS FALSE NEIGHBOUR: 'it returns false'. Refute it at one input. -/
def locateHalvesWrong : ChangeSpec := { name := "locateHalves", fn := fun _ => fun
  | [d] => { results := [.lit (.bool false)], args := [d] }
  | _ => none }
def LocateHalvesWrongFalsely : Prop := locateHalvesRow.holds Tryz.pinned (OpenSpec.ofChange locateHalvesWrong)

/-- 'brepkernellaw30.LocateMoves': WHATEVER THE INPUT: true; the input reads as it did. -/
def locateMovesSpec : ChangeSpec := { name := "locateMoves", fn := fun _ => fun
  | [d] => { results := [.lit (.bool true)], args := [d] }
  | _ => none }
def locateMovesRow : OpenClaim := { program := "ytpkaegemlpaenaagreat", sum := "d046104ce1506663f3a1459254fc1d13dfdd7a3d90b3ad973fa03a1479e8f3b8", func := "brepkernel/brepkernellaw30.LocateMoves", spec := "locateMoves", inPlace := ["math/bits.Add64"], unfollowed := true, recurses := true, plainKeys := false, apart := false }
def LocateMovesSaid : Prop := locateMovesRow.holds Tryz.pinned (OpenSpec.ofChange locateMovesSpec)

/-- ITS FALSE NEIGHBOUR: 'it returns false'. Refute it at one input. -/
def locateMovesWrong : ChangeSpec := { name := "locateMoves", fn := fun _ => fun
  | [d] => { results := [.lit (.bool false)], args := [d] }
  | _ => none }
def LocateMovesWrongFalsely : Prop := locateMovesRow.holds Tryz.pinned (OpenSpec.ofChange locateMovesWrong)

/-- 'brepkernellaw30.LocatePoints': WHATEVER THE INPUT: true; the input reads as it did. -/
def locatePointsSpec : ChangeSpec := { name := "locatePoints", fn := fun _ => fun
  | [d] => { results := [.lit (.bool true)], args := [d] }
  | _ => none }
def locatePointsRow : OpenClaim := { program := "ytpkaegemlpaenaagreat", sum := "d046104ce1506663f3a1459254fc1d13dfdd7a3d90b3ad973fa03a1479e8f3b8", func := "brepkernel/brepkernellaw30.LocatePoints", spec := "locatePoints", inPlace := ["math/bits.Add64"], unfollowed := true, recurses := true, plainKeys := false, apart := false }
def LocatePointsSaid : Prop := locatePointsRow.holds Tryz.pinned (OpenSpec.ofChange locatePointsSpec)

/-- ITS FALSE NEIGHBOUR: 'it returns false'. Refute it at one input. -/
def locatePointsWrong : ChangeSpec := { name := "locatePoints", fn := fun _ => fun
  | [d] => { results := [.lit (.bool false)], args := [d] }
  | _ => none }
def LocatePointsWrongFalsely : Prop := locatePointsRow.holds Tryz.pinned (OpenSpec.ofChange locatePointsWrong)

/-- 'brepkernellaw30.LocateCrossings': WHATEVER THE INPUT: true; the input reads as it did. -/
def locateCrossingsSpec : ChangeSpec := { name := "locateCrossings", fn := fun _ => fun
  | [d] => { results := [.lit (.bool true)], args := [d] }
  | _ => none }
def locateCrossingsRow : OpenClaim := { program := "ytpkaegemlpaenaagreat", sum := "d046104ce1506663f3a1459254fc1d13dfdd7a3d90b3ad973fa03a1479e8f3b8", func := "brepkernel/brepkernellaw30.LocateCrossings", spec := "locateCrossings", inPlace := ["math/bits.Add64"], unfollowed := true, recurses := true, plainKeys := false, apart := false }
def LocateCrossingsSaid : Prop := locateCrossingsRow.holds Tryz.pinned (OpenSpec.ofChange locateCrossingsSpec)

/-- ITS FALSE NEIGHBOUR: 'it returns false'. Refute it at one input. -/
def locateCrossingsWrong : ChangeSpec := { name := "locateCrossings", fn := fun _ => fun
  | [d] => { results := [.lit (.bool false)], args := [d] }
  | _ => none }
def LocateCrossingsWrongFalsely : Prop := locateCrossingsRow.holds Tryz.pinned (OpenSpec.ofChange locateCrossingsWrong)

/-- 'brepkernellaw30.LocateAround': WHATEVER THE INPUT: true; the input reads as it did. -/
def locateAroundSpec : ChangeSpec := { name := "locateAround", fn := fun _ => fun
  | [d] => { results := [.lit (.bool true)], args := [d] }
  | _ => none }
def locateAroundRow : OpenClaim := { program := "ytpkaegemlpaenaagreat", sum := "d046104ce1506663f3a1459254fc1d13dfdd7a3d90b3ad973fa03a1479e8f3b8", func := "brepkernel/brepkernellaw30.LocateAround", spec := "locateAround", inPlace := ["math/bits.Add64"], unfollowed := true, recurses := true, plainKeys := false, apart := false }
def LocateAroundSaid : Prop := locateAroundRow.holds Tryz.pinned (OpenSpec.ofChange locateAroundSpec)

/-- ITS FALSE NEIGHBOUR: 'it returns false'. Refute it at one input. -/
def locateAroundWrong : ChangeSpec := { name := "locateAround", fn := fun _ => fun
  | [d] => { results := [.lit (.bool false)], args := [d] }
  | _ => none }
def LocateAroundWrongFalsely : Prop := locateAroundRow.holds Tryz.pinned (OpenSpec.ofChange locateAroundWrong)

/- THE SECOND FORM. 'bulk': how many values and letters a reading holds, each counted each time it is reached (what is shared counts as often as it is met; a slice's spare places count too). A statement '..UptoSaid' is the law's where the arguments, and the package variables that the reading takes, are together of bulk at most 1048576: NARROWER than '..Said'. Prove '..Said' where nothing that the law and all that it calls make is longer than what came in: it says more and counts as full. Else prove '..UptoSaid'. A law counts once. -/
mutual
def uptoBulk {H : Type} : DataW H → Nat
  | .lit (.string bytes) => bytes.length + 1
  | .lit _ => 1
  | .nil => 1
  | .ptr d => uptoBulk d + 1
  | .slice elems spare => uptoBulkAll elems + uptoBulkAll spare + 1
  | .agg parts => uptoBulkAll parts + 1
  | .iface _ d => uptoBulk d + 1
  | .map entries => uptoBulkEntries entries + 1
  | .held _ => 1
def uptoBulkAll {H : Type} : List (DataW H) → Nat
  | [] => 0
  | d :: r => uptoBulk d + uptoBulkAll r
def uptoBulkEntries {H : Type} : List (Lit × DataW H) → Nat
  | [] => 0
  | x :: r => uptoBulkEntry x + uptoBulkEntries r
def uptoBulkEntry {H : Type} : Lit × DataW H → Nat
  | (.string bytes, d) => bytes.length + uptoBulk d + 1
  | (_, d) => uptoBulk d + 1
 end
def uptoSmall : (H : Type) → List (DataW H) → Bool := fun _ ds => decide (uptoBulkAll ds ≤ 1048576)
def OpenSpec.upto (s : _root_.Go.ChangeSpec) : _root_.Go.OpenSpec := { _root_.Go.OpenSpec.ofChange s with cond := some uptoSmall }

/-- 'brepkernellaw30.LocateBoxes', WHERE WHAT IT READS IS OF BULK AT MOST 1048576: true; the input reads as it did. -/
def locateBoxesUptoRow : OpenClaim := { program := "ytpkaegemlpaenaagreat", sum := "d046104ce1506663f3a1459254fc1d13dfdd7a3d90b3ad973fa03a1479e8f3b8", func := "brepkernel/brepkernellaw30.LocateBoxes", spec := "locateBoxes", inPlace := ["math/bits.Add64"], unfollowed := true, recurses := true, plainKeys := false, apart := false, narrowed := true }
def LocateBoxesUptoSaid : Prop := locateBoxesUptoRow.holds Tryz.pinned (OpenSpec.upto locateBoxesSpec)

/-- 'brepkernellaw30.LocateHalves', WHERE WHAT IT READS IS OF BULK AT MOST 1048576: true; the input reads as it did. -/
def locateHalvesUptoRow : OpenClaim := { program := "ytpkaegemlpaenaagreat", sum := "d046104ce1506663f3a1459254fc1d13dfdd7a3d90b3ad973fa03a1479e8f3b8", func := "brepkernel/brepkernellaw30.LocateHalves", spec := "locateHalves", inPlace := ["math/bits.Add64"], unfollowed := true, recurses := true, plainKeys := false, apart := false, narrowed := true }
def LocateHalvesUptoSaid : Prop := locateHalvesUptoRow.holds Tryz.pinned (OpenSpec.upto locateHalvesSpec)

/-- 'brepkernellaw30.LocateMoves', WHERE WHAT IT READS IS OF BULK AT MOST 1048576: true; the input reads as it did. -/
def locateMovesUptoRow : OpenClaim := { program := "ytpkaegemlpaenaagreat", sum := "d046104ce1506663f3a1459254fc1d13dfdd7a3d90b3ad973fa03a1479e8f3b8", func := "brepkernel/brepkernellaw30.LocateMoves", spec := "locateMoves", inPlace := ["math/bits.Add64"], unfollowed := true, recurses := true, plainKeys := false, apart := false, narrowed := true }
def LocateMovesUptoSaid : Prop := locateMovesUptoRow.holds Tryz.pinned (OpenSpec.upto locateMovesSpec)

/-- 'brepkernellaw30.LocatePoints', WHERE WHAT IT READS IS OF BULK AT MOST 1048576: true; the input reads as it did. -/
def locatePointsUptoRow : OpenClaim := { program := "ytpkaegemlpaenaagreat", sum := "d046104ce1506663f3a1459254fc1d13dfdd7a3d90b3ad973fa03a1479e8f3b8", func := "brepkernel/brepkernellaw30.LocatePoints", spec := "locatePoints", inPlace := ["math/bits.Add64"], unfollowed := true, recurses := true, plainKeys := false, apart := false, narrowed := true }
def LocatePointsUptoSaid : Prop := locatePointsUptoRow.holds Tryz.pinned (OpenSpec.upto locatePointsSpec)

/-- 'brepkernellaw30.LocateCrossings', WHERE WHAT IT READS IS OF BULK AT MOST 1048576: true; the input reads as it did. -/
def locateCrossingsUptoRow : OpenClaim := { program := "ytpkaegemlpaenaagreat", sum := "d046104ce1506663f3a1459254fc1d13dfdd7a3d90b3ad973fa03a1479e8f3b8", func := "brepkernel/brepkernellaw30.LocateCrossings", spec := "locateCrossings", inPlace := ["math/bits.Add64"], unfollowed := true, recurses := true, plainKeys := false, apart := false, narrowed := true }
def LocateCrossingsUptoSaid : Prop := locateCrossingsUptoRow.holds Tryz.pinned (OpenSpec.upto locateCrossingsSpec)

/-- 'brepkernellaw30.LocateAround', WHERE WHAT IT READS IS OF BULK AT MOST 1048576: true; the input reads as it did. -/
def locateAroundUptoRow : OpenClaim := { program := "ytpkaegemlpaenaagreat", sum := "d046104ce1506663f3a1459254fc1d13dfdd7a3d90b3ad973fa03a1479e8f3b8", func := "brepkernel/brepkernellaw30.LocateAround", spec := "locateAround", inPlace := ["math/bits.Add64"], unfollowed := true, recurses := true, plainKeys := false, apart := false, narrowed := true }
def LocateAroundUptoSaid : Prop := locateAroundUptoRow.holds Tryz.pinned (OpenSpec.upto locateAroundSpec)

end Rows
end Go.Proofs.YtpkaegemlpaenaaGreat
