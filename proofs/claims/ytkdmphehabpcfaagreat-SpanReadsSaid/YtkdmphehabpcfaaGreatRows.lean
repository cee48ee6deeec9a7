/-
  No cell of these rows narrows 'for every input' (looked for: loops, veiled, ifaces, maps, wideKeys, modest, calm, conditions, laid).
  DERIVED. THE GIVEN ROWS OF THIS SEAT. 3 by the template 'for every input the law returns true; each argument reads behind the call as it read before'; 0 by the template 'total and deterministic' (their statements: YtkdmphehabpcfaaGreatTotals.lean).
  GIVEN WITH THE SEED: the statements are not yours to turn. If you find one false, say at which input.
  Laid BY PROGRAM, IN A SANDBOX (cutbox-rows.mjs): the forced cells as the released guide's own fill.sh prints them over the translation 91ca6827cb52412a… (all of the seat's roots in one cut). By AI agents, Wed Nov 11 2026. No macro, syntax, notation, axiom, sorry.
-/
import Derived.Test.YtkdmphehabpcfaaGreatChecked
import GoSem.Claim
import GoSem.ClaimJoined
import GoSem.ClaimMapViews
import Derived.JoinedTies
import Derived.KernelRfl
namespace Go.Proofs.YtkdmphehabpcfaaGreat
/- THE CELL 'sum', in the pinned program and in every row, IS THE sha256 OF THE DUMP (.gsa) THAT YtkdmphehabpcfaaGreatProg.lean LOADS. Nothing in Lean hashes anything: it is a label: what it is worth is what the hold of that sum in a sandbox is worth. -/
noncomputable def Tryz.pinned : Pinned := { name := "ytkdmphehabpcfaagreat", sum := "91ca6827cb52412a8386afd14a79dc665beaa07967d7aac54e57177a0810ecd2", checked := Tryz.checked }
namespace Rows
def none {H : Type} : Left H := { results := [], args := [] }

/-- 'brepkernellaw03.SpanReads': WHATEVER THE INPUT: true; the input reads as it did. -/
def spanReadsSpec : ChangeSpec := { name := "spanReads", fn := fun _ => fun
  | [d1, d2, d3] => { results := [.lit (.bool true)], args := [d1, d2, d3] }
  | _ => none }
def spanReadsRow : OpenClaim := { program := "ytkdmphehabpcfaagreat", sum := "91ca6827cb52412a8386afd14a79dc665beaa07967d7aac54e57177a0810ecd2", func := "brepkernel/brepkernellaw03.SpanReads", spec := "spanReads", inPlace := ["math/bits.Add64"], apart := false }
def SpanReadsSaid : Prop := spanReadsRow.holds Tryz.pinned (OpenSpec.ofChange spanReadsSpec)

/-- ITS FALSE NEIGHBOUR: 'it returns false'. Refute it at one input. -/
def spanReadsWrong : ChangeSpec := { name := "spanReads", fn := fun _ => fun
  | [d1, d2, d3] => { results := [.lit (.bool false)], args := [d1, d2, d3] }
  | _ => none }
def SpanReadsWrongFalsely : Prop := spanReadsRow.holds Tryz.pinned (OpenSpec.ofChange spanReadsWrong)

/-- 'brepkernellaw03.SpanSums': WHATEVER THE INPUT: true; the input reads as it did. -/
def spanSumsSpec : ChangeSpec := { name := "spanSums", fn := fun _ => fun
  | [d] => { results := [.lit (.bool true)], args := [d] }
  | _ => none }
def spanSumsRow : OpenClaim := { program := "ytkdmphehabpcfaagreat", sum := "91ca6827cb52412a8386afd14a79dc665beaa07967d7aac54e57177a0810ecd2", func := "brepkernel/brepkernellaw03.SpanSums", spec := "spanSums", inPlace := ["math/bits.Add64"], apart := false }
def SpanSumsSaid : Prop := spanSumsRow.holds Tryz.pinned (OpenSpec.ofChange spanSumsSpec)

/-- ITS FALSE NEIGHBOUR: 'it returns false'. Refute it at one input. -/
def spanSumsWrong : ChangeSpec := { name := "spanSums", fn := fun _ => fun
  | [d] => { results := [.lit (.bool false)], args := [d] }
  | _ => none }
def SpanSumsWrongFalsely : Prop := spanSumsRow.holds Tryz.pinned (OpenSpec.ofChange spanSumsWrong)

/-- 'brepkernellaw03.SpanContains': WHATEVER THE INPUT: true; the input reads as it did. -/
def spanContainsSpec : ChangeSpec := { name := "spanContains", fn := fun _ => fun
  | [d1, d2, d3] => { results := [.lit (.bool true)], args := [d1, d2, d3] }
  | _ => none }
def spanContainsRow : OpenClaim := { program := "ytkdmphehabpcfaagreat", sum := "91ca6827cb52412a8386afd14a79dc665beaa07967d7aac54e57177a0810ecd2", func := "brepkernel/brepkernellaw03.SpanContains", spec := "spanContains", inPlace := ["math/bits.Add64"], apart := false }
def SpanContainsSaid : Prop := spanContainsRow.holds Tryz.pinned (OpenSpec.ofChange spanContainsSpec)

/-- ITS FALSE NEIGHBOUR: 'it returns false'. Refute it at one input. -/
def spanContainsWrong : ChangeSpec := { name := "spanContains", fn := fun _ => fun
  | [d1, d2, d3] => { results := [.lit (.bool false)], args := [d1, d2, d3] }
  | _ => none }
def SpanContainsWrongFalsely : Prop := spanContainsRow.holds Tryz.pinned (OpenSpec.ofChange spanContainsWrong)

/- THE SECOND FORM. 'bulk': how many values and letters a reading holds, each counted each time it is reached (what is shared counts as often as it is met; a slice's spare places count too). A statement '..UptoSaid' is the law's where the arguments, and the package variables that the reading takes, are together of bulk at most 1048576: NARROWER than '..Said'. Prove '..Said' where nothing that the law and all that it calls make is longer than what came in: it says more and counts as full. Else prove '..UptoSaid'. A law counts once. -/
mutual
def uptoBulk {H : Type} : DataW H → Nat
  | .lit (.string bytes) => bytes.length + 1
  | .lit _ => 1
  | .nil => 1
  | .ptr d => uptoBulk d + 1
  | .slice elems spare => uptoBulkAll elems + uptoBulkAll spare + 1
  | .agg parts => uptoBulkAll parts + 1
  | .iface _ d => uptoBulk d + 1
  | .map entries => uptoBulkEntries entries + 1
  | .held _ => 1
def uptoBulkAll {H : Type} : List (DataW H) → Nat
  | [] => 0
  | d :: r => uptoBulk d + uptoBulkAll r
def uptoBulkEntries {H : Type} : List (Lit × DataW H) → Nat
  | [] => 0
  | x :: r => uptoBulkEntry x + uptoBulkEntries r
def uptoBulkEntry {H : Type} : Lit × DataW H → Nat
  | (.string bytes, d) => bytes.length + uptoBulk d + 1
  | (_, d) => uptoBulk d + 1
 end
def uptoSmall : (H : Type) → List (DataW H) → Bool := fun _ ds => decide (uptoBulkAll ds ≤ 1048576)
def OpenSpec.upto (s : _root_.Go.ChangeSpec) : _root_.Go.OpenSpec := { _root_.Go.OpenSpec.ofChange s with cond := some uptoSmall }

/-- 'brepkernellaw03.SpanReads', WHERE WHAT IT READS IS OF BULK AT MOST 1048576: true; the input reads as it did. -/
def spanReadsUptoRow : OpenClaim := { program := "ytkdmphehabpcfaagreat", sum := "91ca6827cb52412a8386afd14a79dc665beaa07967d7aac54e57177a0810ecd2", func := "brepkernel/brepkernellaw03.SpanReads", spec := "spanReads", inPlace := ["math/bits.Add64"], apart := false, narrowed := true }
def SpanReadsUptoSaid : Prop := spanReadsUptoRow.holds Tryz.pinned (OpenSpec.upto spanReadsSpec)

/-- 'brepkernellaw03.SpanSums', WHERE WHAT IT READS IS OF BULK AT MOST 1048576: true; the input reads as it did. -/
def spanSumsUptoRow : OpenClaim := { program := "ytkdmphehabpcfaagreat", sum := "91ca6827cb52412a8386afd14a79dc665beaa07967d7aac54e57177a0810ecd2", func := "brepkernel/brepkernellaw03.SpanSums", spec := "spanSums", inPlace := ["math/bits.Add64"], apart := false, narrowed := true }
def SpanSumsUptoSaid : Prop := spanSumsUptoRow.holds Tryz.pinned (OpenSpec.upto spanSumsSpec)

/-- 'brepkernellaw03.SpanContains', WHERE WHAT IT READS IS OF BULK AT MOST 1048576: true; the input reads as it did. -/
def spanContainsUptoRow : OpenClaim := { program := "ytkdmphehabpcfaagreat", sum := "91ca6827cb52412a8386afd14a79dc665beaa07967d7aac54e57177a0810ecd2", func := "brepkernel/brepkernellaw03.SpanContains", spec := "spanContains", inPlace := ["math/bits.Add64"], apart := false, narrowed := true }
def SpanContainsUptoSaid : Prop := spanContainsUptoRow.holds Tryz.pinned (OpenSpec.upto spanContainsSpec)

end Rows
end Go.Proofs.YtkdmphehabpcfaaGreat
