/- The statement ArrangePlanes holds: for every input the given function returns true, without a panic, and changes nothing that was there. -/
import Derived.Test.YtlpflnindligbaaGreatKA8
import Derived.Test.YtlpflnindligbaaGreatRows
import Derived.WalkKit
import Derived.ProofKit
import Derived.OpenShut
import Derived.ShutString
import Derived.ChangeOld
import Derived.Below
set_option linter.unusedVariables false
set_option linter.unusedSimpArgs false
open List renaming length→A1,getD→A0
open Go renaming World→AP,Value→A2,TypeId→Ab,IntKind→B2
namespace Go.Proofs.YtlpflnindligbaaGreat.arrangePlanes
open Go.ChangeShapes Go.WideShapes Go.ChangeAt Go.RowKit
open Go.ChangeMaps (open_string shut_string)
theorem own:ownKnob Tryz.prog.godebug=none:=by kernel_rfl
theorem vc:laidOutB Tryz.prog=true:=by kernel_rfl
def UM(k:B2)(w:AP)(a:Option Addr)(len cap:Nat)(zs:List Int):Prop:=
 (a=none/\len=0/\cap=0/\zs=[])\/
 ∃x,a=some x/\len<=cap/\cap<=maxLen/\A1 zs=cap/\(∀i,i<A1 zs->w.cell? (x.add i)=some (.int k (A0 zs i 0)))/\∀n∈zs,(Lit.int k n).wf=true
theorem yJM(a0:Option Addr)(len0 cap0:Nat)(z0:List Int)(w:AP)(w0:UM .i64 w a0 len0 cap0 z0):
 Calls Tryz.prog 3 #[.slice a0 len0 cap0] w λe w'=>e=.returned (.bool true)/\Below w.heap.size w w':=by
 obtain⟨D,C⟩:=Bk.is_of_row w0;exact Bk.law_true (s8 (Bk.MLe.refl _) C)
set_option maxRecDepth 100000 in
theorem vj(os:Os)(started:os.Started)(H:Type)(enc:Ab×A2->H):
 ReturnsInHanded {} Tryz.checked os 3 .any (Rows.arrangePlanesSpec.pre6 enc Tryz.prog Tryz.f3 Rows.arrangePlanesRow.domain false) (Rows.arrangePlanesSpec.post enc Tryz.prog Tryz.f3 false true false false):=by
 refine returnsInHanded_of_change (C:=Tryz.checked) own started (by kernel_rfl) Tryz.func3
   (ChangeSpec.witness6 (enc:=enc) (C:=Tryz.checked) false ⟨#[],#[.slice none 0 0],[]⟩ 8 (by kernel_rfl) (by kernel_rfl) (by kernel_rfl) (by kernel_rfl)) ?_
 intro W ac D ds gs ad J hW aj _;have U:∀(j:Nat) t v,Tryz.f3.params[j]?=some t->D[j]?=some v->A2.okWide Tryz.prog W .any ac t v:=J;have ai:=hW;obtain⟨p,q,aa,hV,rfl,ao,an⟩:=hW;have hA:DataW.TrodAll enc Tryz.prog W 0 (λ_=>true) true Tryz.f3.params.toList D.toList ds p:=aa;rw[Tryz.params3] at hA U;obtain⟨v0,am,d0,ap,p0,q0,ah,rfl,rfl,h0,r0⟩:=trodAll_cons hA;obtain⟨rfl,rfl,rfl⟩:=trodAll_nil r0;obtain rfl:D=#[v0]:=by cases D;simp_all
 obtain⟨rfl,rfl⟩:=trodVars_none hV;obtain⟨a0,M,Z,rfl⟩:=okWide_slice Tryz.underlying22 (U 0 22 v0 rfl rfl);have k0:=h0;have ae:∀x∈p0,x.block<W.heap.size:=by obtain⟨m,hm⟩:=k0;exact DataW.trod_lt m _ _ _ hm
 obtain⟨z0,w0⟩:∃zs,UM .i64 W a0 M Z zs:=by
  obtain⟨ak,hf⟩:=h0
  rcases open_ints Tryz.underlying22 Tryz.underlying3 (by kernel_rfl) hf with⟨hcs,_⟩|⟨x,l,c,zs,hcs,_,hl,hm,hz,_,hcell,hwz⟩
  · simp[A2.cells] at hcs
    obtain⟨rfl,rfl,rfl⟩:=hcs;exact⟨[],.inl ⟨rfl,rfl,rfl,rfl⟩⟩
  · simp[A2.cells] at hcs
    obtain⟨rfl,rfl,rfl⟩:=hcs;exact⟨zs,.inr ⟨_,rfl,hl,hm,by simpa using hz,hcell,hwz⟩⟩
 clear aa J
 refine(yJM a0 M Z z0 W w0).mono λe W' ⟨he,ab⟩=>?_;subst he;exact⟨_,rfl,_,_,_,[],_,[],ai,trodAll_mk1 (shut_bool Tryz.underlying4 _),(trodAll_cons_mk (Below.trod vc (by kernel_rfl) (of_decide_eq_true (by kernel_rfl)) k0 ab ae) trodAll_mk0),rfl,ab.frame _,λh=>by cases h⟩
theorem b9:Rows.arrangePlanesRow.holds Tryz.pinned (OpenSpec.ofChange Rows.arrangePlanesSpec):=
 OpenClaim.holds_of_wide 3 Tryz.f3 rfl rfl rfl rfl rfl rfl rfl ⟨rfl,rfl,rfl,rfl,rfl⟩ rfl rfl rfl rfl rfl (by kernel_rfl) Tryz.func3 (by kernel_rfl)
   (of_decide_eq_true (by kernel_rfl)) (by unfold Func.isWrapper;first|(rw[if_pos (by decide +kernel)];kernel_rfl)|(rw[if_neg (by decide +kernel)];exact⟨rfl,rfl⟩))
   (λos started H enc _=>vj os started H enc)
theorem proved:Rows.ArrangePlanesSaid:=b9
end Go.Proofs.YtlpflnindligbaaGreat.arrangePlanes
