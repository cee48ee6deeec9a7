/- The statement LocateBoxes holds: for every input the given function returns true, without a panic, and changes nothing that was there. -/
import Derived.Test.YtpkaegemlpaenaaGreatK7
import Derived.Test.YtpkaegemlpaenaaGreatRows
import Derived.WalkKit
import Derived.ProofKit
import Derived.OpenShut
import Derived.ShutString
import Derived.ChangeOld
import Derived.Below
namespace Go.Proofs.YtpkaegemlpaenaaGreat.locateBoxes
open Go.ChangeShapes Go.WideShapes Go.ChangeAt Go.RowKit
open Go.ChangeMaps (open_string shut_string)
set_option linter.unusedVariables false
theorem own:ownKnob Tryz.prog.godebug=none:=by kernel_rfl
theorem zWE:laidOutB Tryz.prog=true:=by kernel_rfl
def zX9(k:IntKind)(w:World)(a:Option Addr)(len cap:Nat)(zs:List Int):Prop:=
 (a=none∧len=0∧cap=0∧zs=[])∨
 ∃x,a=some x∧len≤cap∧cap≤maxLen∧zs.length=cap∧(∀i,i<zs.length→w.cell? (x.add i)=some (.int k (zs.getD i 0)))∧∀n∈zs,(Lit.int k n).wf=true
theorem zYH(a0:Option Addr)(len0 cap0:Nat)(z0:List Int)(w:World)(w0:zX9 .i64 w a0 len0 cap0 z0):
 Calls Tryz.prog 3 #[.slice a0 len0 cap0] w fun e w'=>e=.returned (.bool true)∧Below w.heap.size w w':=by
 obtain⟨C,z⟩:=Bk.is_of_row w0;exact Bk.law_true (w5 (Bk.MLe.refl _) z)
set_option maxRecDepth 100000 in
theorem zZ9(os:Os)(started:os.Started)(H:Type)(enc:TypeId×Value→H):
 ReturnsInHanded {} Tryz.checked os 3 .any (Rows.locateBoxesSpec.pre6 enc Tryz.prog Tryz.f3 Rows.locateBoxesRow.domain false) (Rows.locateBoxesSpec.post enc Tryz.prog Tryz.f3 false true false false):=by
 refine returnsInHanded_of_change (C:=Tryz.checked) own started (by kernel_rfl) Tryz.func3
   (ChangeSpec.witness6 (enc:=enc) (C:=Tryz.checked) false ⟨#[],#[.slice none 0 0],[]⟩ 8 (by kernel_rfl) (by kernel_rfl) (by kernel_rfl) (by kernel_rfl)) ?_
 intro W U z ds gs Z D hW ad _;have I:∀(j:Nat) t v,Tryz.f3.params[j]?=some t→z[j]?=some v→Value.okWide Tryz.prog W .any U t v:=D;have ac:=hW;obtain⟨p,q,M,hV,rfl,aj,ai⟩:=hW;have hA:DataW.TrodAll enc Tryz.prog W 0 (fun _=>true) true Tryz.f3.params.toList z.toList ds p:=M;rw[Tryz.params3] at hA I;obtain⟨v0,ah,d0,ak,p0,q0,ab,rfl,rfl,h0,r0⟩:=trodAll_cons hA;obtain⟨rfl,rfl,rfl⟩:=trodAll_nil r0;obtain rfl:z=#[v0]:=by cases z;simp_all
 obtain⟨rfl,rfl⟩:=trodVars_none hV;obtain⟨a0,G,J,rfl⟩:=okWide_slice Tryz.underlying22 (I 0 22 v0 rfl rfl);have k0:=h0;have aa:∀x∈p0,x.block<W.heap.size:=by obtain⟨m,hm⟩:=k0;exact DataW.trod_lt m _ _ _ hm
 obtain⟨z0,w0⟩:∃zs,zX9 .i64 W a0 G J zs:=by
  obtain⟨ae,hf⟩:=h0
  rcases open_ints Tryz.underlying22 Tryz.underlying3 (by kernel_rfl) hf with⟨hcs,_⟩|⟨x,l,c,zs,hcs,_,hl,hm,hz,_,hcell,hwz⟩
  · simp[Value.cells] at hcs
    obtain⟨rfl,rfl,rfl⟩:=hcs;exact⟨[],.inl ⟨rfl,rfl,rfl,rfl⟩⟩
  · simp[Value.cells] at hcs
    obtain⟨rfl,rfl,rfl⟩:=hcs;exact⟨zs,.inr ⟨_,rfl,hl,hm,by simpa using hz,hcell,hwz⟩⟩
 clear M D
 refine(zYH a0 G J z0 W w0).mono fun e W' ⟨he,O⟩=>?_;subst he;exact⟨_,rfl,_,_,_,[],_,[],ac,trodAll_mk1 (shut_bool Tryz.underlying4 _),(trodAll_cons_mk (Below.trod zWE (by kernel_rfl) (of_decide_eq_true (by kernel_rfl)) k0 O aa) trodAll_mk0),rfl,O.frame _,fun h=>by cases h⟩
theorem over:Rows.locateBoxesRow.holds Tryz.pinned (OpenSpec.ofChange Rows.locateBoxesSpec):=
 OpenClaim.holds_of_wide 3 Tryz.f3 rfl rfl rfl rfl rfl rfl rfl ⟨rfl,rfl,rfl,rfl,rfl⟩ rfl rfl rfl rfl rfl (by kernel_rfl) Tryz.func3 (by kernel_rfl)
   (of_decide_eq_true (by kernel_rfl)) (by unfold Func.isWrapper;first|(rw[if_pos (by decide +kernel)];kernel_rfl)|(rw[if_neg (by decide +kernel)];exact⟨rfl,rfl⟩))
   (fun os started H enc _=>zZ9 os started H enc)
theorem proved:Rows.LocateBoxesSaid:=over
end Go.Proofs.YtpkaegemlpaenaaGreat.locateBoxes
