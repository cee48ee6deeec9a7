/- The statement MassBoxes holds: for every input the given function returns true, without a panic, and changes nothing that was there. -/
import Derived.Test.YtboaboflnckgoaaGreatKB6
import Derived.Test.YtboaboflnckgoaaGreatRows
import Derived.WalkKit
import Derived.ProofKit
import Derived.OpenShut
import Derived.ShutString
import Derived.ChangeOld
import Derived.Below
namespace Go.Proofs.YtboaboflnckgoaaGreat.massBoxes
open Go.ChangeShapes Go.WideShapes Go.ChangeAt Go.RowKit
open Go.ChangeMaps (open_string shut_string)
set_option linter.unusedVariables false
theorem own:ownKnob Tryz.prog.godebug=none:=by kernel_rfl
theorem zVF:laidOutB Tryz.prog=true:=by kernel_rfl
def zW3(k:IntKind)(w:World)(a:Option Addr)(len cap:Nat)(zs:List Int):Prop:=
 (a=none∧len=0∧cap=0∧zs=[])∨
 ∃x,a=some x∧len≤cap∧cap≤maxLen∧zs.length=cap∧(∀i,i<zs.length→w.cell? (x.add i)=some (.int k (zs.getD i 0)))∧∀n∈zs,(Lit.int k n).wf=true
theorem zW9(a0:Option Addr)(len0 cap0:Nat)(z0:List Int)(w:World)(w0:zW3 .i64 w a0 len0 cap0 z0):
 Calls Tryz.prog 6 #[.slice a0 len0 cap0] w fun e w'=>e=.returned (.bool true)∧Below w.heap.size w w':=by
 obtain⟨z,u⟩:=Bk.is_of_row w0;exact Bk.law_true (zFP (Bk.MLe.refl _) u)
set_option maxRecDepth 100000 in
theorem zY2(os:Os)(started:os.Started)(H:Type)(enc:TypeId×Value→H):
 ReturnsInHanded {} Tryz.checked os 6 .any (Rows.massBoxesSpec.pre6 enc Tryz.prog Tryz.f6 Rows.massBoxesRow.domain false) (Rows.massBoxesSpec.post enc Tryz.prog Tryz.f6 false true false false):=by
 refine returnsInHanded_of_change (C:=Tryz.checked) own started (by kernel_rfl) Tryz.func6
   (ChangeSpec.witness6 (enc:=enc) (C:=Tryz.checked) false ⟨#[],#[.slice none 0 0],[]⟩ 8 (by kernel_rfl) (by kernel_rfl) (by kernel_rfl) (by kernel_rfl)) ?_
 intro W O u ds gs S z hW aa _;have G:∀(j:Nat) t v,Tryz.f6.params[j]?=some t→u[j]?=some v→Value.okWide Tryz.prog W .any O t v:=z;have Y:=hW;obtain⟨p,q,J,hV,rfl,ae,ad⟩:=hW;have hA:DataW.TrodAll enc Tryz.prog W 0 (fun _=>true) true Tryz.f6.params.toList u.toList ds p:=J;rw[Tryz.params6] at hA G;obtain⟨Z,ac,d0,ah,p0,q0,X,rfl,rfl,h0,r0⟩:=trodAll_cons hA;obtain⟨rfl,rfl,rfl⟩:=trodAll_nil r0;obtain rfl:u=#[Z]:=by cases u;simp_all
 obtain⟨rfl,rfl⟩:=trodVars_none hV;obtain⟨a0,D,I,rfl⟩:=okWide_slice Tryz.underlying32 (G 0 32 Z rfl rfl);have k0:=h0;have T:∀x∈p0,x.block<W.heap.size:=by obtain⟨m,U⟩:=k0;exact DataW.trod_lt m _ _ _ U
 obtain⟨z0,w0⟩:∃zs,zW3 .i64 W a0 D I zs:=by
  obtain⟨ab,hf⟩:=h0
  rcases open_ints Tryz.underlying32 Tryz.underlying3 (by kernel_rfl) hf with⟨hcs,_⟩|⟨x,l,c,zs,hcs,_,hl,U,hz,_,hcell,hwz⟩
  · simp[Value.cells] at hcs
    obtain⟨rfl,rfl,rfl⟩:=hcs;exact⟨[],.inl ⟨rfl,rfl,rfl,rfl⟩⟩
  · simp[Value.cells] at hcs
    obtain⟨rfl,rfl,rfl⟩:=hcs;exact⟨zs,.inr ⟨_,rfl,hl,U,by simpa using hz,hcell,hwz⟩⟩
 clear J z
 refine(zW9 a0 D I z0 W w0).mono fun e W' ⟨he,M⟩=>?_;subst he;exact⟨_,rfl,_,_,_,[],_,[],Y,trodAll_mk1 (shut_bool Tryz.underlying4 _),(trodAll_cons_mk (Below.trod zVF (by kernel_rfl) (of_decide_eq_true (by kernel_rfl)) k0 M T) trodAll_mk0),rfl,M.frame _,fun h=>by cases h⟩
theorem over:Rows.massBoxesRow.holds Tryz.pinned (OpenSpec.ofChange Rows.massBoxesSpec):=
 OpenClaim.holds_of_wide 6 Tryz.f6 rfl rfl rfl rfl rfl rfl rfl ⟨rfl,rfl,rfl,rfl,rfl⟩ rfl rfl rfl rfl rfl (by kernel_rfl) Tryz.func6 (by kernel_rfl)
   (of_decide_eq_true (by kernel_rfl)) (by unfold Func.isWrapper;first|(rw[if_pos (by decide +kernel)];kernel_rfl)|(rw[if_neg (by decide +kernel)];exact⟨rfl,rfl⟩))
   (fun os started H enc _=>zY2 os started H enc)
theorem proved:Rows.MassBoxesSaid:=over
end Go.Proofs.YtboaboflnckgoaaGreat.massBoxes
