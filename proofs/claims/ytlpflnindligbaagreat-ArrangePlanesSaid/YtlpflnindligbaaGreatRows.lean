/-
  No cell of these rows narrows 'for every input' (looked for: loops, veiled, ifaces, maps, wideKeys, modest, calm, conditions, laid).
  DERIVED. THE GIVEN ROWS OF THIS SEAT. 6 by the template 'for every input the law returns true; each argument reads behind the call as it read before'; 0 by the template 'total and deterministic' (their statements: YtlpflnindligbaaGreatTotals.lean).
  GIVEN WITH THE SEED: the statements are not yours to turn. If you find one false, say at which input.
  Laid BY PROGRAM, IN A SANDBOX (cutbox-rows.mjs): the forced cells as the released guide's own fill.sh prints them over the translation 45885247d1307c76… (all of the seat's roots in one cut). By AI agents, Wed Nov 11 2026. No macro, syntax, notation, axiom, sorry.
-/
import Derived.Test.YtlpflnindligbaaGreatChecked
import GoSem.Claim
import GoSem.ClaimJoined
import GoSem.ClaimMapViews
import Derived.JoinedTies
import Derived.KernelRfl
namespace Go.Proofs.YtlpflnindligbaaGreat
/- THE CELL 'sum', in the pinned program and in every row, IS THE sha256 OF THE DUMP (.gsa) THAT YtlpflnindligbaaGreatProg.lean LOADS. Nothing in Lean hashes anything: it is a label: what it is worth is what the hold of that sum in a sandbox is worth. -/
noncomputable def Tryz.pinned : Pinned := { name := "ytlpflnindligbaagreat", sum := "45885247d1307c76f9f7c63b45cffca64b894e010104016638527ca935313848", checked := Tryz.checked }
namespace Rows
def none {H : Type} : Left H := { results := [], args := [] }

/-- 'brepkernellaw31.ArrangePlanes': WHATEVER THE INPUT: true; the input reads as it did. -/
def arrangePlanesSpec : ChangeSpec := { name := "arrangePlanes", fn := fun _ => fun
  | [d] => { results := [.lit (.bool true)], args := [d] }
  | _ => none }
def arrangePlanesRow : OpenClaim := { program := "ytlpflnindligbaagreat", sum := "45885247d1307c76f9f7c63b45cffca64b894e010104016638527ca935313848", func := "brepkernel/brepkernellaw31.ArrangePlanes", spec := "arrangePlanes", inPlace := ["math/bits.Add64"], unfollowed := true, recurses := true, plainKeys := false, apart := false }
def ArrangePlanesSaid : Prop := arrangePlanesRow.holds Tryz.pinned (OpenSpec.ofChange arrangePlanesSpec)

/-- ITS FALSE NEIGHBOUR: 'it returns false'. Refute it at one input. -/
def arrangePlanesWrong : ChangeSpec := { name := "arrangePlanes", fn := fun _ => fun
  | [d] => { results := [.lit (.bool false)], args := [d] }
  | _ => none }
def ArrangePlanesWrongFalsely : Prop := arrangePlanesRow.holds Tryz.pinned (OpenSpec.ofChange arrangePlanesWrong)

/-- 'brepkernellaw31.ArrangeFragments': WHATEVER THE INPUT: true; the input reads as it did. -/
def arrangeFragmentsSpec : ChangeSpec := { name := "arrangeFragments", fn := fun _ => fun
  | [d] => { results := [.lit (.bool true)], args := [d] }
  | _ => none }
def arrangeFragmentsRow : OpenClaim := { program := "ytlpflnindligbaagreat", sum := "45885247d1307c76f9f7c63b45cffca64b894e010104016638527ca935313848", func := "brepkernel/brepkernellaw31.ArrangeFragments", spec := "arrangeFragments", inPlace := ["math/bits.Add64"], unfollowed := true, recurses := true, plainKeys := false, apart := false }
def ArrangeFragmentsSaid : Prop := arrangeFragmentsRow.holds Tryz.pinned (OpenSpec.ofChange arrangeFragmentsSpec)

/-- ITS FALSE NEIGHBOUR: 'it returns false'. Refute it at one input. -/
def arrangeFragmentsWrong : ChangeSpec := { name := "arrangeFragments", fn := fun _ => fun
  | [d] => { results := [.lit (.bool false)], args := [d] }
  | _ => none }
def ArrangeFragmentsWrongFalsely : Prop := arrangeFragmentsRow.holds Tryz.pinned (OpenSpec.ofChange arrangeFragmentsWrong)

/-- 'brepkernellaw31.ArrangeProper': WHATEVER THE INPUT: true; the input reads as it did. -/
def arrangeProperSpec : ChangeSpec := { name := "arrangeProper", fn := fun _ => fun
  | [d] => { results := [.lit (.bool true)], args := [d] }
  | _ => none }
def arrangeProperRow : OpenClaim := { program := "ytlpflnindligbaagreat", sum := "45885247d1307c76f9f7c63b45cffca64b894e010104016638527ca935313848", func := "brepkernel/brepkernellaw31.ArrangeProper", spec := "arrangeProper", inPlace := ["math/bits.Add64"], unfollowed := true, recurses := true, plainKeys := false, apart := false }
def ArrangeProperSaid : Prop := arrangeProperRow.holds Tryz.pinned (OpenSpec.ofChange arrangeProperSpec)

/-- ITS FALSE NEIGHBOUR: 'it returns false'. Refute it at one input. -/
def arrangeProperWrong : ChangeSpec := { name := "arrangeProper", fn := fun _ => fun
  | [d] => { results := [.lit (.bool false)], args := [d] }
  | _ => none }
def ArrangeProperWrongFalsely : Prop := arrangeProperRow.holds Tryz.pinned (OpenSpec.ofChange arrangeProperWrong)

/-- 'brepkernellaw31.ArrangeTiles': WHATEVER THE INPUT: true; the input reads as it did. -/
def arrangeTilesSpec : ChangeSpec := { name := "arrangeTiles", fn := fun _ => fun
  | [d] => { results := [.lit (.bool true)], args := [d] }
  | _ => none }
def arrangeTilesRow : OpenClaim := { program := "ytlpflnindligbaagreat", sum := "45885247d1307c76f9f7c63b45cffca64b894e010104016638527ca935313848", func := "brepkernel/brepkernellaw31.ArrangeTiles", spec := "arrangeTiles", inPlace := ["math/bits.Add64"], unfollowed := true, recurses := true, plainKeys := false, apart := false }
def ArrangeTilesSaid : Prop := arrangeTilesRow.holds Tryz.pinned (OpenSpec.ofChange arrangeTilesSpec)

/-- ITS FALSE NEIGHBOUR: 'it returns false'. Refute it at one input. -/
def arrangeTilesWrong : ChangeSpec := { name := "arrangeTiles", fn := fun _ => fun
  | [d] => { results := [.lit (.bool false)], args := [d] }
  | _ => none }
def ArrangeTilesWrongFalsely : Prop := arrangeTilesRow.holds Tryz.pinned (OpenSpec.ofChange arrangeTilesWrong)

/-- 'brepkernellaw31.ArrangeSides': WHATEVER THE INPUT: true; the input reads as it did. -/
def arrangeSidesSpec : ChangeSpec := { name := "arrangeSides", fn := fun _ => fun
  | [d] => { results := [.lit (.bool true)], args := [d] }
  | _ => none }
def arrangeSidesRow : OpenClaim := { program := "ytlpflnindligbaagreat", sum := "45885247d1307c76f9f7c63b45cffca64b894e010104016638527ca935313848", func := "brepkernel/brepkernellaw31.ArrangeSides", spec := "arrangeSides", inPlace := ["math/bits.Add64"], unfollowed := true, recurses := true, plainKeys := false, apart := false }
def ArrangeSidesSaid : Prop := arrangeSidesRow.holds Tryz.pinned (OpenSpec.ofChange arrangeSidesSpec)

/-- ITS FALSE NEIGHBOUR: 'it returns false'. Refute it at one input. -/
def arrangeSidesWrong : ChangeSpec := { name := "arrangeSides", fn := fun _ => fun
  | [d] => { results := [.lit (.bool false)], args := [d] }
  | _ => none }
def ArrangeSidesWrongFalsely : Prop := arrangeSidesRow.holds Tryz.pinned (OpenSpec.ofChange arrangeSidesWrong)

/-- 'brepkernellaw31.ArrangeUniform': WHATEVER THE INPUT: true; the input reads as it did. -/
def arrangeUniformSpec : ChangeSpec := { name := "arrangeUniform", fn := fun _ => fun
  | [d] => { results := [.lit (.bool true)], args := [d] }
  | _ => none }
def arrangeUniformRow : OpenClaim := { program := "ytlpflnindligbaagreat", sum := "45885247d1307c76f9f7c63b45cffca64b894e010104016638527ca935313848", func := "brepkernel/brepkernellaw31.ArrangeUniform", spec := "arrangeUniform", inPlace := ["math/bits.Add64"], unfollowed := true, recurses := true, plainKeys := false, apart := false }
def ArrangeUniformSaid : Prop := arrangeUniformRow.holds Tryz.pinned (OpenSpec.ofChange arrangeUniformSpec)

/-- ITS FALSE NEIGHBOUR: 'it returns false'. Refute it at one input. -/
def arrangeUniformWrong : ChangeSpec := { name := "arrangeUniform", fn := fun _ => fun
  | [d] => { results := [.lit (.bool false)], args := [d] }
  | _ => none }
def ArrangeUniformWrongFalsely : Prop := arrangeUniformRow.holds Tryz.pinned (OpenSpec.ofChange arrangeUniformWrong)

/- THE SECOND FORM. 'bulk': how many values and letters a reading holds, each counted each time it is reached (what is shared counts as often as it is met; a slice's spare places count too). A statement '..UptoSaid' is the law's where the arguments, and the package variables that the reading takes, are together of bulk at most 1048576: NARROWER than '..Said'. Prove '..Said' where nothing that the law and all that it calls make is longer than what came in: it says more and counts as full. Else prove '..UptoSaid'. A law counts once. -/
mutual
def uptoBulk {H : Type} : DataW H → Nat
  | .lit (.string bytes) => bytes.length + 1
  | .lit _ => 1
  | .nil => 1
  | .ptr d => uptoBulk d + 1
  | .slice elems spare => uptoBulkAll elems + uptoBulkAll spare + 1
  | .agg parts => uptoBulkAll parts + 1
  | .iface _ d => uptoBulk d + 1
  | .map entries => uptoBulkEntries entries + 1
  | .held _ => 1
def uptoBulkAll {H : Type} : List (DataW H) → Nat
  | [] => 0
  | d :: r => uptoBulk d + uptoBulkAll r
def uptoBulkEntries {H : Type} : List (Lit × DataW H) → Nat
  | [] => 0
  | x :: r => uptoBulkEntry x + uptoBulkEntries r
def uptoBulkEntry {H : Type} : Lit × DataW H → Nat
  | (.string bytes, d) => bytes.length + uptoBulk d + 1
  | (_, d) => uptoBulk d + 1
 end
def uptoSmall : (H : Type) → List (DataW H) → Bool := fun _ ds => decide (uptoBulkAll ds ≤ 1048576)
def OpenSpec.upto (s : _root_.Go.ChangeSpec) : _root_.Go.OpenSpec := { _root_.Go.OpenSpec.ofChange s with cond := some uptoSmall }

/-- 'brepkernellaw31.ArrangePlanes', WHERE WHAT IT READS IS OF BULK AT MOST 1048576: true; the input reads as it did. -/
def arrangePlanesUptoRow : OpenClaim := { program := "ytlpflnindligbaagreat", sum := "45885247d1307c76f9f7c63b45cffca64b894e010104016638527ca935313848", func := "brepkernel/brepkernellaw31.ArrangePlanes", spec := "arrangePlanes", inPlace := ["math/bits.Add64"], unfollowed := true, recurses := true, plainKeys := false, apart := false, narrowed := true }
def ArrangePlanesUptoSaid : Prop := arrangePlanesUptoRow.holds Tryz.pinned (OpenSpec.upto arrangePlanesSpec)

/-- 'brepkernellaw31.ArrangeFragments', WHERE WHAT IT READS IS OF BULK AT MOST 1048576: true; the input reads as it did. -/
def arrangeFragmentsUptoRow : OpenClaim := { program := "ytlpflnindligbaagreat", sum := "45885247d1307c76f9f7c63b45cffca64b894e010104016638527ca935313848", func := "brepkernel/brepkernellaw31.ArrangeFragments", spec := "arrangeFragments", inPlace := ["math/bits.Add64"], unfollowed := true, recurses := true, plainKeys := false, apart := false, narrowed := true }
def ArrangeFragmentsUptoSaid : Prop := arrangeFragmentsUptoRow.holds Tryz.pinned (OpenSpec.upto arrangeFragmentsSpec)

/-- 'brepkernellaw31.ArrangeProper', WHERE WHAT IT READS IS OF BULK AT MOST 1048576: true; the input reads as it did. -/
def arrangeProperUptoRow : OpenClaim := { program := "ytlpflnindligbaagreat", sum := "45885247d1307c76f9f7c63b45cffca64b894e010104016638527ca935313848", func := "brepkernel/brepkernellaw31.ArrangeProper", spec := "arrangeProper", inPlace := ["math/bits.Add64"], unfollowed := true, recurses := true, plainKeys := false, apart := false, narrowed := true }
def ArrangeProperUptoSaid : Prop := arrangeProperUptoRow.holds Tryz.pinned (OpenSpec.upto arrangeProperSpec)

/-- 'brepkernellaw31.ArrangeTiles', WHERE WHAT IT READS IS OF BULK AT MOST 1048576: true; the input reads as it did. -/
def arrangeTilesUptoRow : OpenClaim := { program := "ytlpflnindligbaagreat", sum := "45885247d1307c76f9f7c63b45cffca64b894e010104016638527ca935313848", func := "brepkernel/brepkernellaw31.ArrangeTiles", spec := "arrangeTiles", inPlace := ["math/bits.Add64"], unfollowed := true, recurses := true, plainKeys := false, apart := false, narrowed := true }
def ArrangeTilesUptoSaid : Prop := arrangeTilesUptoRow.holds Tryz.pinned (OpenSpec.upto arrangeTilesSpec)

/-- 'brepkernellaw31.ArrangeSides', WHERE WHAT IT READS IS OF BULK AT MOST 1048576: true; the input reads as it did. -/
def arrangeSidesUptoRow : OpenClaim := { program := "ytlpflnindligbaagreat", sum := "45885247d1307c76f9f7c63b45cffca64b894e010104016638527ca935313848", func := "brepkernel/brepkernellaw31.ArrangeSides", spec := "arrangeSides", inPlace := ["math/bits.Add64"], unfollowed := true, recurses := true, plainKeys := false, apart := false, narrowed := true }
def ArrangeSidesUptoSaid : Prop := arrangeSidesUptoRow.holds Tryz.pinned (OpenSpec.upto arrangeSidesSpec)

/-- 'brepkernellaw31.ArrangeUniform', WHERE WHAT IT READS IS OF BULK AT MOST 1048576: true; the input reads as it did. -/
def arrangeUniformUptoRow : OpenClaim := { program := "ytlpflnindligbaagreat", sum := "45885247d1307c76f9f7c63b45cffca64b894e010104016638527ca935313848", func := "brepkernel/brepkernellaw31.ArrangeUniform", spec := "arrangeUniform", inPlace := ["math/bits.Add64"], unfollowed := true, recurses := true, plainKeys := false, apart := false, narrowed := true }
def ArrangeUniformUptoSaid : Prop := arrangeUniformUptoRow.holds Tryz.pinned (OpenSpec.upto arrangeUniformSpec)

end Rows
end Go.Proofs.YtlpflnindligbaaGreat
