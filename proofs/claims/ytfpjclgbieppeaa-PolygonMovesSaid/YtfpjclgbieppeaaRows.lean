/-
  No cell of these rows narrows 'for every input' (looked for: loops, veiled, ifaces, maps, wideKeys, modest, calm, conditions, laid).
  DERIVED. THE GIVEN ROWS OF THIS SEAT. 4 by the template 'for every input the law returns true; each argument reads behind the call as it read before'; 0 by the template 'total and deterministic' (their statements: YtfpjclgbieppeaaTotals.lean).
  GIVEN WITH THE SEED: the statements are not yours to turn. If you find one false, say at which input.
  Laid BY PROGRAM, IN A SANDBOX (cutbox-rows.mjs): the forced cells as the released guide's own fill.sh prints them over the translation d5649540f1f81423… (all of the seat's roots in one cut). By AI agents, Wed Nov 11 2026. No macro, syntax, notation, axiom, sorry.
-/
import Derived.Test.YtfpjclgbieppeaaChecked
import GoSem.Claim
import GoSem.ClaimJoined
import GoSem.ClaimMapViews
import Derived.JoinedTies
import Derived.KernelRfl
namespace Go.Proofs.Ytfpjclgbieppeaa
/- THE CELL 'sum', in the pinned program and in every row, IS THE sha256 OF THE DUMP (.gsa) THAT YtfpjclgbieppeaaProg.lean LOADS. Nothing in Lean hashes anything: it is a label: what it is worth is what the hold of that sum in a sandbox is worth. -/
noncomputable def Try.pinned : Pinned := { name := "ytfpjclgbieppeaa", sum := "d5649540f1f814238101de3eaa847bf9fbc0993e8995952da5571fb3bc539ab0", checked := Try.checked }
namespace Rows
def none {H : Type} : Left H := { results := [], args := [] }

/-- 'brepkernellaw25.PolygonTouches': WHATEVER THE INPUT: true; the input reads as it did. -/
def polygonTouchesSpec : ChangeSpec := { name := "polygonTouches", fn := fun _ => fun
  | [d] => { results := [.lit (.bool true)], args := [d] }
  | _ => none }
def polygonTouchesRow : OpenClaim := { program := "ytfpjclgbieppeaa", sum := "d5649540f1f814238101de3eaa847bf9fbc0993e8995952da5571fb3bc539ab0", func := "brepkernel/brepkernellaw25.PolygonTouches", spec := "polygonTouches", inPlace := ["math/bits.Add64"], apart := false }
def PolygonTouchesSaid : Prop := polygonTouchesRow.holds Try.pinned (OpenSpec.ofChange polygonTouchesSpec)

/-- ITS FALSE NEIGHBOUR: 'it returns false'. Refute it at one input. -/
def polygonTouchesWrong : ChangeSpec := { name := "polygonTouches", fn := fun _ => fun
  | [d] => { results := [.lit (.bool false)], args := [d] }
  | _ => none }
def PolygonTouchesWrongFalsely : Prop := polygonTouchesRow.holds Try.pinned (OpenSpec.ofChange polygonTouchesWrong)

/-- 'brepkernellaw25.PolygonMoves': WHATEVER THE INPUT: true; the input reads as it did. -/
def polygonMovesSpec : ChangeSpec := { name := "polygonMoves", fn := fun _ => fun
  | [d] => { results := [.lit (.bool true)], args := [d] }
  | _ => none }
def polygonMovesRow : OpenClaim := { program := "ytfpjclgbieppeaa", sum := "d5649540f1f814238101de3eaa847bf9fbc0993e8995952da5571fb3bc539ab0", func := "brepkernel/brepkernellaw25.PolygonMoves", spec := "polygonMoves", inPlace := ["math/bits.Add64"], apart := false }
def PolygonMovesSaid : Prop := polygonMovesRow.holds Try.pinned (OpenSpec.ofChange polygonMovesSpec)

/-- ITS FALSE NEIGHBOUR: 'it returns false'. Refute it at one input. -/
def polygonMovesWrong : ChangeSpec := { name := "polygonMoves", fn := fun _ => fun
  | [d] => { results := [.lit (.bool false)], args := [d] }
  | _ => none }
def PolygonMovesWrongFalsely : Prop := polygonMovesRow.holds Try.pinned (OpenSpec.ofChange polygonMovesWrong)

/-- 'brepkernellaw25.PolygonFlattens': WHATEVER THE INPUT: true; the input reads as it did. -/
def polygonFlattensSpec : ChangeSpec := { name := "polygonFlattens", fn := fun _ => fun
  | [d] => { results := [.lit (.bool true)], args := [d] }
  | _ => none }
def polygonFlattensRow : OpenClaim := { program := "ytfpjclgbieppeaa", sum := "d5649540f1f814238101de3eaa847bf9fbc0993e8995952da5571fb3bc539ab0", func := "brepkernel/brepkernellaw25.PolygonFlattens", spec := "polygonFlattens", inPlace := ["math/bits.Add64"], apart := false }
def PolygonFlattensSaid : Prop := polygonFlattensRow.holds Try.pinned (OpenSpec.ofChange polygonFlattensSpec)

/-- ITS FALSE NEIGHBOUR: 'it returns false'. Refute it at one input. -/
def polygonFlattensWrong : ChangeSpec := { name := "polygonFlattens", fn := fun _ => fun
  | [d] => { results := [.lit (.bool false)], args := [d] }
  | _ => none }
def PolygonFlattensWrongFalsely : Prop := polygonFlattensRow.holds Try.pinned (OpenSpec.ofChange polygonFlattensWrong)

/-- 'brepkernellaw25.PolygonTurns': WHATEVER THE INPUT: true; the input reads as it did. -/
def polygonTurnsSpec : ChangeSpec := { name := "polygonTurns", fn := fun _ => fun
  | [d] => { results := [.lit (.bool true)], args := [d] }
  | _ => none }
def polygonTurnsRow : OpenClaim := { program := "ytfpjclgbieppeaa", sum := "d5649540f1f814238101de3eaa847bf9fbc0993e8995952da5571fb3bc539ab0", func := "brepkernel/brepkernellaw25.PolygonTurns", spec := "polygonTurns", inPlace := ["math/bits.Add64"], apart := false }
def PolygonTurnsSaid : Prop := polygonTurnsRow.holds Try.pinned (OpenSpec.ofChange polygonTurnsSpec)

/-- ITS FALSE NEIGHBOUR: 'it returns false'. Refute it at one input. -/
def polygonTurnsWrong : ChangeSpec := { name := "polygonTurns", fn := fun _ => fun
  | [d] => { results := [.lit (.bool false)], args := [d] }
  | _ => none }
def PolygonTurnsWrongFalsely : Prop := polygonTurnsRow.holds Try.pinned (OpenSpec.ofChange polygonTurnsWrong)

/- THE SECOND FORM. 'bulk': how many values and letters a reading holds, each counted each time it is reached (what is shared counts as often as it is met; a slice's spare places count too). A statement '..UptoSaid' is the law's where the arguments, and the package variables that the reading takes, are together of bulk at most 1048576: NARROWER than '..Said'. Prove '..Said' where nothing that the law and all that it calls make is longer than what came in: it says more and counts as full. Else prove '..UptoSaid'. A law counts once. -/
mutual
def uptoBulk {H : Type} : DataW H → Nat
  | .lit (.string bytes) => bytes.length + 1
  | .lit _ => 1
  | .nil => 1
  | .ptr d => uptoBulk d + 1
  | .slice elems spare => uptoBulkAll elems + uptoBulkAll spare + 1
  | .agg parts => uptoBulkAll parts + 1
  | .iface _ d => uptoBulk d + 1
  | .map entries => uptoBulkEntries entries + 1
  | .held _ => 1
def uptoBulkAll {H : Type} : List (DataW H) → Nat
  | [] => 0
  | d :: r => uptoBulk d + uptoBulkAll r
def uptoBulkEntries {H : Type} : List (Lit × DataW H) → Nat
  | [] => 0
  | x :: r => uptoBulkEntry x + uptoBulkEntries r
def uptoBulkEntry {H : Type} : Lit × DataW H → Nat
  | (.string bytes, d) => bytes.length + uptoBulk d + 1
  | (_, d) => uptoBulk d + 1
 end
def uptoSmall : (H : Type) → List (DataW H) → Bool := fun _ ds => decide (uptoBulkAll ds ≤ 1048576)
def OpenSpec.upto (s : _root_.Go.ChangeSpec) : _root_.Go.OpenSpec := { _root_.Go.OpenSpec.ofChange s with cond := some uptoSmall }

/-- 'brepkernellaw25.PolygonTouches', WHERE WHAT IT READS IS OF BULK AT MOST 1048576: true; the input reads as it did. -/
def polygonTouchesUptoRow : OpenClaim := { program := "ytfpjclgbieppeaa", sum := "d5649540f1f814238101de3eaa847bf9fbc0993e8995952da5571fb3bc539ab0", func := "brepkernel/brepkernellaw25.PolygonTouches", spec := "polygonTouches", inPlace := ["math/bits.Add64"], apart := false, narrowed := true }
def PolygonTouchesUptoSaid : Prop := polygonTouchesUptoRow.holds Try.pinned (OpenSpec.upto polygonTouchesSpec)

/-- 'brepkernellaw25.PolygonMoves', WHERE WHAT IT READS IS OF BULK AT MOST 1048576: true; the input reads as it did. -/
def polygonMovesUptoRow : OpenClaim := { program := "ytfpjclgbieppeaa", sum := "d5649540f1f814238101de3eaa847bf9fbc0993e8995952da5571fb3bc539ab0", func := "brepkernel/brepkernellaw25.PolygonMoves", spec := "polygonMoves", inPlace := ["math/bits.Add64"], apart := false, narrowed := true }
def PolygonMovesUptoSaid : Prop := polygonMovesUptoRow.holds Try.pinned (OpenSpec.upto polygonMovesSpec)

/-- 'brepkernellaw25.PolygonFlattens', WHERE WHAT IT READS IS OF BULK AT MOST 1048576: true; the input reads as it did. -/
def polygonFlattensUptoRow : OpenClaim := { program := "ytfpjclgbieppeaa", sum := "d5649540f1f814238101de3eaa847bf9fbc0993e8995952da5571fb3bc539ab0", func := "brepkernel/brepkernellaw25.PolygonFlattens", spec := "polygonFlattens", inPlace := ["math/bits.Add64"], apart := false, narrowed := true }
def PolygonFlattensUptoSaid : Prop := polygonFlattensUptoRow.holds Try.pinned (OpenSpec.upto polygonFlattensSpec)

/-- 'brepkernellaw25.PolygonTurns', WHERE WHAT IT READS IS OF BULK AT MOST 1048576: true; the input reads as it did. -/
def polygonTurnsUptoRow : OpenClaim := { program := "ytfpjclgbieppeaa", sum := "d5649540f1f814238101de3eaa847bf9fbc0993e8995952da5571fb3bc539ab0", func := "brepkernel/brepkernellaw25.PolygonTurns", spec := "polygonTurns", inPlace := ["math/bits.Add64"], apart := false, narrowed := true }
def PolygonTurnsUptoSaid : Prop := polygonTurnsUptoRow.holds Try.pinned (OpenSpec.upto polygonTurnsSpec)

end Rows
end Go.Proofs.Ytfpjclgbieppeaa
