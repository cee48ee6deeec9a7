/-
  No cell of these rows narrows 'for every input' (looked for: loops, veiled, ifaces, maps, wideKeys, modest, calm, conditions, laid).
  DERIVED. THE GIVEN ROWS OF THIS SEAT. 3 by the template 'for every input the law returns true; each argument reads behind the call as it read before'; 0 by the template 'total and deterministic' (their statements: YtfpjclgbieppeaaGreatTotals.lean).
  GIVEN WITH THE SEED: the statements are not yours to turn. If you find one false, say at which input.
  Laid BY PROGRAM, IN A SANDBOX (cutbox-rows.mjs): the forced cells as the released guide's own fill.sh prints them over the translation 23802515b13a92c6… (all of the seat's roots in one cut). By AI agents, Wed Nov 11 2026. No macro, syntax, notation, axiom, sorry.
-/
import Derived.Test.YtfpjclgbieppeaaGreatChecked
import GoSem.Claim
import GoSem.ClaimJoined
import GoSem.ClaimMapViews
import Derived.JoinedTies
import Derived.KernelRfl
namespace Go.Proofs.YtfpjclgbieppeaaGreat
/- THE CELL 'sum', in the pinned program and in every row, IS THE sha256 OF THE DUMP (.gsa) THAT YtfpjclgbieppeaaGreatProg.lean LOADS. Nothing in Lean hashes anything: it is a label: what it is worth is what the hold of that sum in a sandbox is worth. -/
noncomputable def Tryz.pinned : Pinned := { name := "ytfpjclgbieppeaagreat", sum := "23802515b13a92c6b0b28406819891228a02dd61c3e927fd851142ebc294a519", checked := Tryz.checked }
namespace Rows
def none {H : Type} : Left H := { results := [], args := [] }

/-- 'brepkernellaw25.PolygonInside': WHATEVER THE INPUT: true; the input reads as it did. -/
def polygonInsideSpec : ChangeSpec := { name := "polygonInside", fn := fun _ => fun
  | [d] => { results := [.lit (.bool true)], args := [d] }
  | _ => none }
def polygonInsideRow : OpenClaim := { program := "ytfpjclgbieppeaagreat", sum := "23802515b13a92c6b0b28406819891228a02dd61c3e927fd851142ebc294a519", func := "brepkernel/brepkernellaw25.PolygonInside", spec := "polygonInside", inPlace := ["math/bits.Add64"], apart := false }
def PolygonInsideSaid : Prop := polygonInsideRow.holds Tryz.pinned (OpenSpec.ofChange polygonInsideSpec)

/-- ITS FALSE NEIGHBOUR: 'it returns false'. Refute it at one input. -/
def polygonInsideWrong : ChangeSpec := { name := "polygonInside", fn := fun _ => fun
  | [d] => { results := [.lit (.bool false)], args := [d] }
  | _ => none }
def PolygonInsideWrongFalsely : Prop := polygonInsideRow.holds Tryz.pinned (OpenSpec.ofChange polygonInsideWrong)

/-- 'brepkernellaw25.PolygonAreas': WHATEVER THE INPUT: true; the input reads as it did. -/
def polygonAreasSpec : ChangeSpec := { name := "polygonAreas", fn := fun _ => fun
  | [d] => { results := [.lit (.bool true)], args := [d] }
  | _ => none }
def polygonAreasRow : OpenClaim := { program := "ytfpjclgbieppeaagreat", sum := "23802515b13a92c6b0b28406819891228a02dd61c3e927fd851142ebc294a519", func := "brepkernel/brepkernellaw25.PolygonAreas", spec := "polygonAreas", inPlace := ["math/bits.Add64"], apart := false }
def PolygonAreasSaid : Prop := polygonAreasRow.holds Tryz.pinned (OpenSpec.ofChange polygonAreasSpec)

/-- ITS FALSE NEIGHBOUR: 'it returns false'. Refute it at one input. -/
def polygonAreasWrong : ChangeSpec := { name := "polygonAreas", fn := fun _ => fun
  | [d] => { results := [.lit (.bool false)], args := [d] }
  | _ => none }
def PolygonAreasWrongFalsely : Prop := polygonAreasRow.holds Tryz.pinned (OpenSpec.ofChange polygonAreasWrong)

/-- 'brepkernellaw25.PolygonNests': WHATEVER THE INPUT: true; the input reads as it did. -/
def polygonNestsSpec : ChangeSpec := { name := "polygonNests", fn := fun _ => fun
  | [d1, d2] => { results := [.lit (.bool true)], args := [d1, d2] }
  | _ => none }
def polygonNestsRow : OpenClaim := { program := "ytfpjclgbieppeaagreat", sum := "23802515b13a92c6b0b28406819891228a02dd61c3e927fd851142ebc294a519", func := "brepkernel/brepkernellaw25.PolygonNests", spec := "polygonNests", inPlace := ["math/bits.Add64"], apart := false }
def PolygonNestsSaid : Prop := polygonNestsRow.holds Tryz.pinned (OpenSpec.ofChange polygonNestsSpec)

/-- ITS FALSE NEIGHBOUR: 'it returns false'. Refute it at one input. -/
def polygonNestsWrong : ChangeSpec := { name := "polygonNests", fn := fun _ => fun
  | [d1, d2] => { results := [.lit (.bool false)], args := [d1, d2] }
  | _ => none }
def PolygonNestsWrongFalsely : Prop := polygonNestsRow.holds Tryz.pinned (OpenSpec.ofChange polygonNestsWrong)

/- THE SECOND FORM. 'bulk': how many values and letters a reading holds, each counted each time it is reached (what is shared counts as often as it is met; a slice's spare places count too). A statement '..UptoSaid' is the law's where the arguments, and the package variables that the reading takes, are together of bulk at most 1048576: NARROWER than '..Said'. Prove '..Said' where nothing that the law and all that it calls make is longer than what came in: it says more and counts as full. Else prove '..UptoSaid'. A law counts once. -/
mutual
def uptoBulk {H : Type} : DataW H → Nat
  | .lit (.string bytes) => bytes.length + 1
  | .lit _ => 1
  | .nil => 1
  | .ptr d => uptoBulk d + 1
  | .slice elems spare => uptoBulkAll elems + uptoBulkAll spare + 1
  | .agg parts => uptoBulkAll parts + 1
  | .iface _ d => uptoBulk d + 1
  | .map entries => uptoBulkEntries entries + 1
  | .held _ => 1
def uptoBulkAll {H : Type} : List (DataW H) → Nat
  | [] => 0
  | d :: r => uptoBulk d + uptoBulkAll r
def uptoBulkEntries {H : Type} : List (Lit × DataW H) → Nat
  | [] => 0
  | x :: r => uptoBulkEntry x + uptoBulkEntries r
def uptoBulkEntry {H : Type} : Lit × DataW H → Nat
  | (.string bytes, d) => bytes.length + uptoBulk d + 1
  | (_, d) => uptoBulk d + 1
 end
def uptoSmall : (H : Type) → List (DataW H) → Bool := fun _ ds => decide (uptoBulkAll ds ≤ 1048576)
def OpenSpec.upto (s : _root_.Go.ChangeSpec) : _root_.Go.OpenSpec := { _root_.Go.OpenSpec.ofChange s with cond := some uptoSmall }

/-- 'brepkernellaw25.PolygonInside', WHERE WHAT IT READS IS OF BULK AT MOST 1048576: true; the input reads as it did. -/
def polygonInsideUptoRow : OpenClaim := { program := "ytfpjclgbieppeaagreat", sum := "23802515b13a92c6b0b28406819891228a02dd61c3e927fd851142ebc294a519", func := "brepkernel/brepkernellaw25.PolygonInside", spec := "polygonInside", inPlace := ["math/bits.Add64"], apart := false, narrowed := true }
def PolygonInsideUptoSaid : Prop := polygonInsideUptoRow.holds Tryz.pinned (OpenSpec.upto polygonInsideSpec)

/-- 'brepkernellaw25.PolygonAreas', WHERE WHAT IT READS IS OF BULK AT MOST 1048576: true; the input reads as it did. -/
def polygonAreasUptoRow : OpenClaim := { program := "ytfpjclgbieppeaagreat", sum := "23802515b13a92c6b0b28406819891228a02dd61c3e927fd851142ebc294a519", func := "brepkernel/brepkernellaw25.PolygonAreas", spec := "polygonAreas", inPlace := ["math/bits.Add64"], apart := false, narrowed := true }
def PolygonAreasUptoSaid : Prop := polygonAreasUptoRow.holds Tryz.pinned (OpenSpec.upto polygonAreasSpec)

/-- 'brepkernellaw25.PolygonNests', WHERE WHAT IT READS IS OF BULK AT MOST 1048576: true; the input reads as it did. -/
def polygonNestsUptoRow : OpenClaim := { program := "ytfpjclgbieppeaagreat", sum := "23802515b13a92c6b0b28406819891228a02dd61c3e927fd851142ebc294a519", func := "brepkernel/brepkernellaw25.PolygonNests", spec := "polygonNests", inPlace := ["math/bits.Add64"], apart := false, narrowed := true }
def PolygonNestsUptoSaid : Prop := polygonNestsUptoRow.holds Tryz.pinned (OpenSpec.upto polygonNestsSpec)

end Rows
end Go.Proofs.YtfpjclgbieppeaaGreat
