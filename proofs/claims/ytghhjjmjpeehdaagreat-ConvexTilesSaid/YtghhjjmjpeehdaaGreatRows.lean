/-
  No cell of these rows narrows 'for every input' (looked for: loops, veiled, ifaces, maps, wideKeys, modest, calm, conditions, laid).
  DERIVED. THE GIVEN ROWS OF THIS SEAT. 6 by the template 'for every input the law returns true; each argument reads behind the call as it read before'; 0 by the template 'total and deterministic' (their statements: YtghhjjmjpeehdaaGreatTotals.lean).
  GIVEN WITH THE SEED: the statements are not yours to turn. If you find one false, say at which input.
  Laid BY PROGRAM, IN A SANDBOX (cutbox-rows.mjs): the forced cells as the released guide's own fill.sh prints them over the translation 9669d84b5fa650f7… (all of the seat's roots in one cut). By AI agents, Wed Nov 11 2026. No macro, syntax, notation, axiom, sorry.
-/
import Derived.Test.YtghhjjmjpeehdaaGreatChecked
import GoSem.Claim
import GoSem.ClaimJoined
import GoSem.ClaimMapViews
import Derived.JoinedTies
import Derived.KernelRfl
namespace Go.Proofs.YtghhjjmjpeehdaaGreat
/- THE CELL 'sum', in the pinned program and in every row, IS THE sha256 OF THE DUMP (.gsa) THAT YtghhjjmjpeehdaaGreatProg.lean LOADS. Nothing in Lean hashes anything: it is a label: what it is worth is what the hold of that sum in a sandbox is worth. -/
noncomputable def Tryz.pinned : Pinned := { name := "ytghhjjmjpeehdaagreat", sum := "9669d84b5fa650f7ed2c6a2684cab067be64136ac06a1b33b14666d640f94abb", checked := Tryz.checked }
namespace Rows
def none {H : Type} : Left H := { results := [], args := [] }

/-- 'brepkernellaw26.ConvexCuts': WHATEVER THE INPUT: true; the input reads as it did. -/
def convexCutsSpec : ChangeSpec := { name := "convexCuts", fn := fun _ => fun
  | [d] => { results := [.lit (.bool true)], args := [d] }
  | _ => none }
def convexCutsRow : OpenClaim := { program := "ytghhjjmjpeehdaagreat", sum := "9669d84b5fa650f7ed2c6a2684cab067be64136ac06a1b33b14666d640f94abb", func := "brepkernel/brepkernellaw26.ConvexCuts", spec := "convexCuts", inPlace := ["math/bits.Add64"], unfollowed := true, recurses := true, apart := false }
def ConvexCutsSaid : Prop := convexCutsRow.holds Tryz.pinned (OpenSpec.ofChange convexCutsSpec)

/-- ITS FALSE NEIGHBOUR: 'it returns false'. Refute it at one input. -/
def convexCutsWrong : ChangeSpec := { name := "convexCuts", fn := fun _ => fun
  | [d] => { results := [.lit (.bool false)], args := [d] }
  | _ => none }
def ConvexCutsWrongFalsely : Prop := convexCutsRow.holds Tryz.pinned (OpenSpec.ofChange convexCutsWrong)

/-- 'brepkernellaw26.ConvexParts': WHATEVER THE INPUT: true; the input reads as it did. -/
def convexPartsSpec : ChangeSpec := { name := "convexParts", fn := fun _ => fun
  | [d] => { results := [.lit (.bool true)], args := [d] }
  | _ => none }
def convexPartsRow : OpenClaim := { program := "ytghhjjmjpeehdaagreat", sum := "9669d84b5fa650f7ed2c6a2684cab067be64136ac06a1b33b14666d640f94abb", func := "brepkernel/brepkernellaw26.ConvexParts", spec := "convexParts", inPlace := ["math/bits.Add64"], unfollowed := true, recurses := true, apart := false }
def ConvexPartsSaid : Prop := convexPartsRow.holds Tryz.pinned (OpenSpec.ofChange convexPartsSpec)

/-- ITS FALSE NEIGHBOUR: 'it returns false'. Refute it at one input. -/
def convexPartsWrong : ChangeSpec := { name := "convexParts", fn := fun _ => fun
  | [d] => { results := [.lit (.bool false)], args := [d] }
  | _ => none }
def ConvexPartsWrongFalsely : Prop := convexPartsRow.holds Tryz.pinned (OpenSpec.ofChange convexPartsWrong)

/-- 'brepkernellaw26.ConvexTiles': WHATEVER THE INPUT: true; the input reads as it did. -/
def convexTilesSpec : ChangeSpec := { name := "convexTiles", fn := fun _ => fun
  | [d] => { results := [.lit (.bool true)], args := [d] }
  | _ => none }
def convexTilesRow : OpenClaim := { program := "ytghhjjmjpeehdaagreat", sum := "9669d84b5fa650f7ed2c6a2684cab067be64136ac06a1b33b14666d640f94abb", func := "brepkernel/brepkernellaw26.ConvexTiles", spec := "convexTiles", inPlace := ["math/bits.Add64"], unfollowed := true, recurses := true, apart := false }
def ConvexTilesSaid : Prop := convexTilesRow.holds Tryz.pinned (OpenSpec.ofChange convexTilesSpec)

/-- ITS FALSE NEIGHBOUR: 'it returns false'. Refute it at one input. -/
def convexTilesWrong : ChangeSpec := { name := "convexTiles", fn := fun _ => fun
  | [d] => { results := [.lit (.bool false)], args := [d] }
  | _ => none }
def ConvexTilesWrongFalsely : Prop := convexTilesRow.holds Tryz.pinned (OpenSpec.ofChange convexTilesWrong)

/-- 'brepkernellaw26.ConvexClips': WHATEVER THE INPUT: true; the input reads as it did. -/
def convexClipsSpec : ChangeSpec := { name := "convexClips", fn := fun _ => fun
  | [d] => { results := [.lit (.bool true)], args := [d] }
  | _ => none }
def convexClipsRow : OpenClaim := { program := "ytghhjjmjpeehdaagreat", sum := "9669d84b5fa650f7ed2c6a2684cab067be64136ac06a1b33b14666d640f94abb", func := "brepkernel/brepkernellaw26.ConvexClips", spec := "convexClips", inPlace := ["math/bits.Add64"], unfollowed := true, recurses := true, apart := false }
def ConvexClipsSaid : Prop := convexClipsRow.holds Tryz.pinned (OpenSpec.ofChange convexClipsSpec)

/-- ITS FALSE NEIGHBOUR: 'it returns false'. Refute it at one input. -/
def convexClipsWrong : ChangeSpec := { name := "convexClips", fn := fun _ => fun
  | [d] => { results := [.lit (.bool false)], args := [d] }
  | _ => none }
def ConvexClipsWrongFalsely : Prop := convexClipsRow.holds Tryz.pinned (OpenSpec.ofChange convexClipsWrong)

/-- 'brepkernellaw26.ConvexValid': WHATEVER THE INPUT: true; the input reads as it did. -/
def convexValidSpec : ChangeSpec := { name := "convexValid", fn := fun _ => fun
  | [d] => { results := [.lit (.bool true)], args := [d] }
  | _ => none }
def convexValidRow : OpenClaim := { program := "ytghhjjmjpeehdaagreat", sum := "9669d84b5fa650f7ed2c6a2684cab067be64136ac06a1b33b14666d640f94abb", func := "brepkernel/brepkernellaw26.ConvexValid", spec := "convexValid", inPlace := ["math/bits.Add64"], unfollowed := true, recurses := true, apart := false }
def ConvexValidSaid : Prop := convexValidRow.holds Tryz.pinned (OpenSpec.ofChange convexValidSpec)

/-- ITS FALSE NEIGHBOUR: 'it returns false'. Refute it at one input. -/
def convexValidWrong : ChangeSpec := { name := "convexValid", fn := fun _ => fun
  | [d] => { results := [.lit (.bool false)], args := [d] }
  | _ => none }
def ConvexValidWrongFalsely : Prop := convexValidRow.holds Tryz.pinned (OpenSpec.ofChange convexValidWrong)

/-- 'brepkernellaw26.ConvexHelpers': WHATEVER THE INPUT: true; the input reads as it did. -/
def convexHelpersSpec : ChangeSpec := { name := "convexHelpers", fn := fun _ => fun
  | [d] => { results := [.lit (.bool true)], args := [d] }
  | _ => none }
def convexHelpersRow : OpenClaim := { program := "ytghhjjmjpeehdaagreat", sum := "9669d84b5fa650f7ed2c6a2684cab067be64136ac06a1b33b14666d640f94abb", func := "brepkernel/brepkernellaw26.ConvexHelpers", spec := "convexHelpers", inPlace := ["math/bits.Add64"], unfollowed := true, recurses := true, apart := false }
def ConvexHelpersSaid : Prop := convexHelpersRow.holds Tryz.pinned (OpenSpec.ofChange convexHelpersSpec)

/-- ITS FALSE NEIGHBOUR: 'it returns false'. Refute it at one input. -/
def convexHelpersWrong : ChangeSpec := { name := "convexHelpers", fn := fun _ => fun
  | [d] => { results := [.lit (.bool false)], args := [d] }
  | _ => none }
def ConvexHelpersWrongFalsely : Prop := convexHelpersRow.holds Tryz.pinned (OpenSpec.ofChange convexHelpersWrong)

/- THE SECOND FORM. 'bulk': how many values and letters a reading holds, each counted each time it is reached (what is shared counts as often as it is met; a slice's spare places count too). A statement '..UptoSaid' is the law's where the arguments, and the package variables that the reading takes, are together of bulk at most 1048576: NARROWER than '..Said'. Prove '..Said' where nothing that the law and all that it calls make is longer than what came in: it says more and counts as full. Else prove '..UptoSaid'. A law counts once. -/
mutual
def uptoBulk {H : Type} : DataW H → Nat
  | .lit (.string bytes) => bytes.length + 1
  | .lit _ => 1
  | .nil => 1
  | .ptr d => uptoBulk d + 1
  | .slice elems spare => uptoBulkAll elems + uptoBulkAll spare + 1
  | .agg parts => uptoBulkAll parts + 1
  | .iface _ d => uptoBulk d + 1
  | .map entries => uptoBulkEntries entries + 1
  | .held _ => 1
def uptoBulkAll {H : Type} : List (DataW H) → Nat
  | [] => 0
  | d :: r => uptoBulk d + uptoBulkAll r
def uptoBulkEntries {H : Type} : List (Lit × DataW H) → Nat
  | [] => 0
  | x :: r => uptoBulkEntry x + uptoBulkEntries r
def uptoBulkEntry {H : Type} : Lit × DataW H → Nat
  | (.string bytes, d) => bytes.length + uptoBulk d + 1
  | (_, d) => uptoBulk d + 1
 end
def uptoSmall : (H : Type) → List (DataW H) → Bool := fun _ ds => decide (uptoBulkAll ds ≤ 1048576)
def OpenSpec.upto (s : _root_.Go.ChangeSpec) : _root_.Go.OpenSpec := { _root_.Go.OpenSpec.ofChange s with cond := some uptoSmall }

/-- 'brepkernellaw26.ConvexCuts', WHERE WHAT IT READS IS OF BULK AT MOST 1048576: true; the input reads as it did. -/
def convexCutsUptoRow : OpenClaim := { program := "ytghhjjmjpeehdaagreat", sum := "9669d84b5fa650f7ed2c6a2684cab067be64136ac06a1b33b14666d640f94abb", func := "brepkernel/brepkernellaw26.ConvexCuts", spec := "convexCuts", inPlace := ["math/bits.Add64"], unfollowed := true, recurses := true, apart := false, narrowed := true }
def ConvexCutsUptoSaid : Prop := convexCutsUptoRow.holds Tryz.pinned (OpenSpec.upto convexCutsSpec)

/-- 'brepkernellaw26.ConvexParts', WHERE WHAT IT READS IS OF BULK AT MOST 1048576: true; the input reads as it did. -/
def convexPartsUptoRow : OpenClaim := { program := "ytghhjjmjpeehdaagreat", sum := "9669d84b5fa650f7ed2c6a2684cab067be64136ac06a1b33b14666d640f94abb", func := "brepkernel/brepkernellaw26.ConvexParts", spec := "convexParts", inPlace := ["math/bits.Add64"], unfollowed := true, recurses := true, apart := false, narrowed := true }
def ConvexPartsUptoSaid : Prop := convexPartsUptoRow.holds Tryz.pinned (OpenSpec.upto convexPartsSpec)

/-- 'brepkernellaw26.ConvexTiles', WHERE WHAT IT READS IS OF BULK AT MOST 1048576: true; the input reads as it did. -/
def convexTilesUptoRow : OpenClaim := { program := "ytghhjjmjpeehdaagreat", sum := "9669d84b5fa650f7ed2c6a2684cab067be64136ac06a1b33b14666d640f94abb", func := "brepkernel/brepkernellaw26.ConvexTiles", spec := "convexTiles", inPlace := ["math/bits.Add64"], unfollowed := true, recurses := true, apart := false, narrowed := true }
def ConvexTilesUptoSaid : Prop := convexTilesUptoRow.holds Tryz.pinned (OpenSpec.upto convexTilesSpec)

/-- 'brepkernellaw26.ConvexClips', WHERE WHAT IT READS IS OF BULK AT MOST 1048576: true; the input reads as it did. -/
def convexClipsUptoRow : OpenClaim := { program := "ytghhjjmjpeehdaagreat", sum := "9669d84b5fa650f7ed2c6a2684cab067be64136ac06a1b33b14666d640f94abb", func := "brepkernel/brepkernellaw26.ConvexClips", spec := "convexClips", inPlace := ["math/bits.Add64"], unfollowed := true, recurses := true, apart := false, narrowed := true }
def ConvexClipsUptoSaid : Prop := convexClipsUptoRow.holds Tryz.pinned (OpenSpec.upto convexClipsSpec)

/-- 'brepkernellaw26.ConvexValid', WHERE WHAT IT READS IS OF BULK AT MOST 1048576: true; the input reads as it did. -/
def convexValidUptoRow : OpenClaim := { program := "ytghhjjmjpeehdaagreat", sum := "9669d84b5fa650f7ed2c6a2684cab067be64136ac06a1b33b14666d640f94abb", func := "brepkernel/brepkernellaw26.ConvexValid", spec := "convexValid", inPlace := ["math/bits.Add64"], unfollowed := true, recurses := true, apart := false, narrowed := true }
def ConvexValidUptoSaid : Prop := convexValidUptoRow.holds Tryz.pinned (OpenSpec.upto convexValidSpec)

/-- 'brepkernellaw26.ConvexHelpers', WHERE WHAT IT READS IS OF BULK AT MOST 1048576: true; the input reads as it did. -/
def convexHelpersUptoRow : OpenClaim := { program := "ytghhjjmjpeehdaagreat", sum := "9669d84b5fa650f7ed2c6a2684cab067be64136ac06a1b33b14666d640f94abb", func := "brepkernel/brepkernellaw26.ConvexHelpers", spec := "convexHelpers", inPlace := ["math/bits.Add64"], unfollowed := true, recurses := true, apart := false, narrowed := true }
def ConvexHelpersUptoSaid : Prop := convexHelpersUptoRow.holds Tryz.pinned (OpenSpec.upto convexHelpersSpec)

end Rows
end Go.Proofs.YtghhjjmjpeehdaaGreat
