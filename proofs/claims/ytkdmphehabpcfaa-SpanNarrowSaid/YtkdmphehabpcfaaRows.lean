/-
  No cell of these rows narrows 'for every input' (looked for: loops, veiled, ifaces, maps, wideKeys, modest, calm, conditions, laid).
  DERIVED. THE GIVEN ROWS OF THIS SEAT. 4 by the template 'for every input the law returns true; each argument reads behind the call as it read before'; 0 by the template 'total and deterministic' (their statements: YtkdmphehabpcfaaTotals.lean).
  GIVEN WITH THE SEED: the statements are not yours to turn. If you find one false, say at which input.
  Laid BY PROGRAM, IN A SANDBOX (cutbox-rows.mjs): the forced cells as the released guide's own fill.sh prints them over the translation a1d439f92a6cc12c… (all of the seat's roots in one cut). By AI agents, Wed Nov 11 2026. No macro, syntax, notation, axiom, sorry.
-/
import Derived.Test.YtkdmphehabpcfaaChecked
import GoSem.Claim
import GoSem.ClaimJoined
import GoSem.ClaimMapViews
import Derived.JoinedTies
import Derived.KernelRfl
namespace Go.Proofs.Ytkdmphehabpcfaa
/- THE CELL 'sum', in the pinned program and in every row, IS THE sha256 OF THE DUMP (.gsa) THAT YtkdmphehabpcfaaProg.lean LOADS. Nothing in Lean hashes anything: it is a label: what it is worth is what the hold of that sum in a sandbox is worth. -/
noncomputable def Try.pinned : Pinned := { name := "ytkdmphehabpcfaa", sum := "a1d439f92a6cc12c6410e5c7214e82fca41e02dc135b8b85e0921e0d7d9235a3", checked := Try.checked }
namespace Rows
def none {H : Type} : Left H := { results := [], args := [] }

/-- 'brepkernellaw03.SpanRoots': WHATEVER THE INPUT: true; the input reads as it did. -/
def spanRootsSpec : ChangeSpec := { name := "spanRoots", fn := fun _ => fun
  | [d1, d2] => { results := [.lit (.bool true)], args := [d1, d2] }
  | _ => none }
def spanRootsRow : OpenClaim := { program := "ytkdmphehabpcfaa", sum := "a1d439f92a6cc12c6410e5c7214e82fca41e02dc135b8b85e0921e0d7d9235a3", func := "brepkernel/brepkernellaw03.SpanRoots", spec := "spanRoots", apart := false }
def SpanRootsSaid : Prop := spanRootsRow.holds Try.pinned (OpenSpec.ofChange spanRootsSpec)

/-- ITS FALSE NEIGHBOUR: 'it returns false'. Refute it at one input. -/
def spanRootsWrong : ChangeSpec := { name := "spanRoots", fn := fun _ => fun
  | [d1, d2] => { results := [.lit (.bool false)], args := [d1, d2] }
  | _ => none }
def SpanRootsWrongFalsely : Prop := spanRootsRow.holds Try.pinned (OpenSpec.ofChange spanRootsWrong)

/-- 'brepkernellaw03.SpanDets': WHATEVER THE INPUT: true; the input reads as it did. -/
def spanDetsSpec : ChangeSpec := { name := "spanDets", fn := fun _ => fun
  | [d] => { results := [.lit (.bool true)], args := [d] }
  | _ => none }
def spanDetsRow : OpenClaim := { program := "ytkdmphehabpcfaa", sum := "a1d439f92a6cc12c6410e5c7214e82fca41e02dc135b8b85e0921e0d7d9235a3", func := "brepkernel/brepkernellaw03.SpanDets", spec := "spanDets", inPlace := ["math/bits.Add64"], unfollowed := true, recurses := true, apart := false }
def SpanDetsSaid : Prop := spanDetsRow.holds Try.pinned (OpenSpec.ofChange spanDetsSpec)

/-- ITS FALSE NEIGHBOUR: 'it returns false'. Refute it at one input. -/
def spanDetsWrong : ChangeSpec := { name := "spanDets", fn := fun _ => fun
  | [d] => { results := [.lit (.bool false)], args := [d] }
  | _ => none }
def SpanDetsWrongFalsely : Prop := spanDetsRow.holds Try.pinned (OpenSpec.ofChange spanDetsWrong)

/-- 'brepkernellaw03.SpanRegular': WHATEVER THE INPUT: true; the input reads as it did. -/
def spanRegularSpec : ChangeSpec := { name := "spanRegular", fn := fun _ => fun
  | [d1, d2] => { results := [.lit (.bool true)], args := [d1, d2] }
  | _ => none }
def spanRegularRow : OpenClaim := { program := "ytkdmphehabpcfaa", sum := "a1d439f92a6cc12c6410e5c7214e82fca41e02dc135b8b85e0921e0d7d9235a3", func := "brepkernel/brepkernellaw03.SpanRegular", spec := "spanRegular", inPlace := ["math/bits.Add64"], unfollowed := true, recurses := true, apart := false }
def SpanRegularSaid : Prop := spanRegularRow.holds Try.pinned (OpenSpec.ofChange spanRegularSpec)

/-- ITS FALSE NEIGHBOUR: 'it returns false'. Refute it at one input. -/
def spanRegularWrong : ChangeSpec := { name := "spanRegular", fn := fun _ => fun
  | [d1, d2] => { results := [.lit (.bool false)], args := [d1, d2] }
  | _ => none }
def SpanRegularWrongFalsely : Prop := spanRegularRow.holds Try.pinned (OpenSpec.ofChange spanRegularWrong)

/-- 'brepkernellaw03.SpanNarrow': WHATEVER THE INPUT: true; the input reads as it did. -/
def spanNarrowSpec : ChangeSpec := { name := "spanNarrow", fn := fun _ => fun
  | [d1, d2, d3] => { results := [.lit (.bool true)], args := [d1, d2, d3] }
  | _ => none }
def spanNarrowRow : OpenClaim := { program := "ytkdmphehabpcfaa", sum := "a1d439f92a6cc12c6410e5c7214e82fca41e02dc135b8b85e0921e0d7d9235a3", func := "brepkernel/brepkernellaw03.SpanNarrow", spec := "spanNarrow", inPlace := ["math/bits.Add64"], apart := false }
def SpanNarrowSaid : Prop := spanNarrowRow.holds Try.pinned (OpenSpec.ofChange spanNarrowSpec)

/-- ITS FALSE NEIGHBOUR: 'it returns false'. Refute it at one input. -/
def spanNarrowWrong : ChangeSpec := { name := "spanNarrow", fn := fun _ => fun
  | [d1, d2, d3] => { results := [.lit (.bool false)], args := [d1, d2, d3] }
  | _ => none }
def SpanNarrowWrongFalsely : Prop := spanNarrowRow.holds Try.pinned (OpenSpec.ofChange spanNarrowWrong)

/- THE SECOND FORM. 'bulk': how many values and letters a reading holds, each counted each time it is reached (what is shared counts as often as it is met; a slice's spare places count too). A statement '..UptoSaid' is the law's where the arguments, and the package variables that the reading takes, are together of bulk at most 1048576: NARROWER than '..Said'. Prove '..Said' where nothing that the law and all that it calls make is longer than what came in: it says more and counts as full. Else prove '..UptoSaid'. A law counts once. -/
mutual
def uptoBulk {H : Type} : DataW H → Nat
  | .lit (.string bytes) => bytes.length + 1
  | .lit _ => 1
  | .nil => 1
  | .ptr d => uptoBulk d + 1
  | .slice elems spare => uptoBulkAll elems + uptoBulkAll spare + 1
  | .agg parts => uptoBulkAll parts + 1
  | .iface _ d => uptoBulk d + 1
  | .map entries => uptoBulkEntries entries + 1
  | .held _ => 1
def uptoBulkAll {H : Type} : List (DataW H) → Nat
  | [] => 0
  | d :: r => uptoBulk d + uptoBulkAll r
def uptoBulkEntries {H : Type} : List (Lit × DataW H) → Nat
  | [] => 0
  | x :: r => uptoBulkEntry x + uptoBulkEntries r
def uptoBulkEntry {H : Type} : Lit × DataW H → Nat
  | (.string bytes, d) => bytes.length + uptoBulk d + 1
  | (_, d) => uptoBulk d + 1
 end
def uptoSmall : (H : Type) → List (DataW H) → Bool := fun _ ds => decide (uptoBulkAll ds ≤ 1048576)
def OpenSpec.upto (s : _root_.Go.ChangeSpec) : _root_.Go.OpenSpec := { _root_.Go.OpenSpec.ofChange s with cond := some uptoSmall }

/-- 'brepkernellaw03.SpanRoots', WHERE WHAT IT READS IS OF BULK AT MOST 1048576: true; the input reads as it did. -/
def spanRootsUptoRow : OpenClaim := { program := "ytkdmphehabpcfaa", sum := "a1d439f92a6cc12c6410e5c7214e82fca41e02dc135b8b85e0921e0d7d9235a3", func := "brepkernel/brepkernellaw03.SpanRoots", spec := "spanRoots", apart := false, narrowed := true }
def SpanRootsUptoSaid : Prop := spanRootsUptoRow.holds Try.pinned (OpenSpec.upto spanRootsSpec)

/-- 'brepkernellaw03.SpanDets', WHERE WHAT IT READS IS OF BULK AT MOST 1048576: true; the input reads as it did. -/
def spanDetsUptoRow : OpenClaim := { program := "ytkdmphehabpcfaa", sum := "a1d439f92a6cc12c6410e5c7214e82fca41e02dc135b8b85e0921e0d7d9235a3", func := "brepkernel/brepkernellaw03.SpanDets", spec := "spanDets", inPlace := ["math/bits.Add64"], unfollowed := true, recurses := true, apart := false, narrowed := true }
def SpanDetsUptoSaid : Prop := spanDetsUptoRow.holds Try.pinned (OpenSpec.upto spanDetsSpec)

/-- 'brepkernellaw03.SpanRegular', WHERE WHAT IT READS IS OF BULK AT MOST 1048576: true; the input reads as it did. -/
def spanRegularUptoRow : OpenClaim := { program := "ytkdmphehabpcfaa", sum := "a1d439f92a6cc12c6410e5c7214e82fca41e02dc135b8b85e0921e0d7d9235a3", func := "brepkernel/brepkernellaw03.SpanRegular", spec := "spanRegular", inPlace := ["math/bits.Add64"], unfollowed := true, recurses := true, apart := false, narrowed := true }
def SpanRegularUptoSaid : Prop := spanRegularUptoRow.holds Try.pinned (OpenSpec.upto spanRegularSpec)

/-- 'brepkernellaw03.SpanNarrow', WHERE WHAT IT READS IS OF BULK AT MOST 1048576: true; the input reads as it did. -/
def spanNarrowUptoRow : OpenClaim := { program := "ytkdmphehabpcfaa", sum := "a1d439f92a6cc12c6410e5c7214e82fca41e02dc135b8b85e0921e0d7d9235a3", func := "brepkernel/brepkernellaw03.SpanNarrow", spec := "spanNarrow", inPlace := ["math/bits.Add64"], apart := false, narrowed := true }
def SpanNarrowUptoSaid : Prop := spanNarrowUptoRow.holds Try.pinned (OpenSpec.upto spanNarrowSpec)

end Rows
end Go.Proofs.Ytkdmphehabpcfaa
