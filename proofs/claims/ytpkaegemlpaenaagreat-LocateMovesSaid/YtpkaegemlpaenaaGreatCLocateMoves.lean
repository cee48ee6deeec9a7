/- The statement LocateMoves holds: for every input the given function returns true, without a panic, and changes nothing that was there. -/
import Derived.Test.YtpkaegemlpaenaaGreatKH8
import Derived.Test.YtpkaegemlpaenaaGreatRows
import Derived.WalkKit
import Derived.ProofKit
import Derived.OpenShut
import Derived.ShutString
import Derived.ChangeOld
import Derived.Below
set_option linter.unusedVariables false
set_option linter.unusedSimpArgs false
namespace Go.Proofs.YtpkaegemlpaenaaGreat.locateMoves
open Go.ChangeShapes Go.WideShapes Go.ChangeAt Go.RowKit
open Go.ChangeMaps (open_string shut_string)
theorem own:ownKnob Tryz.prog.godebug=none:=by kernel_rfl
theorem yF0:laidOutB Tryz.prog=true:=by kernel_rfl
def yH6(k:IntKind)(w:World)(a:Option Addr)(len cap:Nat)(zs:List Int):Prop:=
 (a=none/\len=0/\cap=0/\zs=[])\/
 ∃x,a=some x/\len<=cap/\cap<=maxLen/\zs.length=cap/\(∀i,i<zs.length->w.cell? (x.add i)=some (.int k (zs.getD i 0)))/\∀n∈zs,(Lit.int k n).wf=true
theorem yIE(a0:Option Addr)(len0 cap0:Nat)(z0:List Int)(w:World)(w0:yH6 .i64 w a0 len0 cap0 z0):
 Calls Tryz.prog 5 #[.slice a0 len0 cap0] w λe w'=>e=.returned (.bool true)/\Below w.heap.size w w':=by
 obtain⟨D,C⟩:=Bk.is_of_row w0;exact Bk.law_true (zCB (Bk.MLe.refl _) C)
set_option maxRecDepth 100000 in
theorem yK2(os:Os)(started:os.Started)(H:Type)(enc:TypeId×Value->H):
 ReturnsInHanded {} Tryz.checked os 5 .any (Rows.locateMovesSpec.pre6 enc Tryz.prog Tryz.f5 Rows.locateMovesRow.domain false) (Rows.locateMovesSpec.post enc Tryz.prog Tryz.f5 false true false false):=by
 refine returnsInHanded_of_change (C:=Tryz.checked) own started (by kernel_rfl) Tryz.func5
   (ChangeSpec.witness6 (enc:=enc) (C:=Tryz.checked) false ⟨#[],#[.slice none 0 0],[]⟩ 8 (by kernel_rfl) (by kernel_rfl) (by kernel_rfl) (by kernel_rfl)) ?_
 intro W ab D ds gs ac J hW ai _;have O:∀(j:Nat) t v,Tryz.f5.params[j]?=some t->D[j]?=some v->Value.okWide Tryz.prog W .any ab t v:=J;have ah:=hW;obtain⟨p,q,Z,hV,rfl,an,am⟩:=hW;have hA:DataW.TrodAll enc Tryz.prog W 0 (λ_=>true) true Tryz.f5.params.toList D.toList ds p:=Z;rw[Tryz.params5] at hA O;obtain⟨v0,ak,d0,ao,p0,q0,ae,rfl,rfl,h0,r0⟩:=trodAll_cons hA;obtain⟨rfl,rfl,rfl⟩:=trodAll_nil r0;obtain rfl:D=#[v0]:=by cases D;simp_all
 obtain⟨rfl,rfl⟩:=trodVars_none hV;obtain⟨a0,M,U,rfl⟩:=okWide_slice Tryz.underlying22 (O 0 22 v0 rfl rfl);have k0:=h0;have ad:∀x∈p0,x.block<W.heap.size:=by obtain⟨m,hm⟩:=k0;exact DataW.trod_lt m _ _ _ hm
 obtain⟨z0,w0⟩:∃zs,yH6 .i64 W a0 M U zs:=by
  obtain⟨aj,hf⟩:=h0
  rcases open_ints Tryz.underlying22 Tryz.underlying3 (by kernel_rfl) hf with⟨hcs,_⟩|⟨x,l,c,zs,hcs,_,hl,hm,hz,_,hcell,hwz⟩
  · simp[Value.cells] at hcs
    obtain⟨rfl,rfl,rfl⟩:=hcs;exact⟨[],.inl ⟨rfl,rfl,rfl,rfl⟩⟩
  · simp[Value.cells] at hcs
    obtain⟨rfl,rfl,rfl⟩:=hcs;exact⟨zs,.inr ⟨_,rfl,hl,hm,by simpa using hz,hcell,hwz⟩⟩
 clear Z J
 refine(yIE a0 M U z0 W w0).mono λe W' ⟨he,aa⟩=>?_;subst he;exact⟨_,rfl,_,_,_,[],_,[],ah,trodAll_mk1 (shut_bool Tryz.underlying4 _),(trodAll_cons_mk (Below.trod yF0 (by kernel_rfl) (of_decide_eq_true (by kernel_rfl)) k0 aa ad) trodAll_mk0),rfl,aa.frame _,λh=>by cases h⟩
theorem over:Rows.locateMovesRow.holds Tryz.pinned (OpenSpec.ofChange Rows.locateMovesSpec):=
 OpenClaim.holds_of_wide 5 Tryz.f5 rfl rfl rfl rfl rfl rfl rfl ⟨rfl,rfl,rfl,rfl,rfl⟩ rfl rfl rfl rfl rfl (by kernel_rfl) Tryz.func5 (by kernel_rfl)
   (of_decide_eq_true (by kernel_rfl)) (by unfold Func.isWrapper;first|(rw[if_pos (by decide +kernel)];kernel_rfl)|(rw[if_neg (by decide +kernel)];exact⟨rfl,rfl⟩))
   (λos started H enc _=>yK2 os started H enc)
theorem proved:Rows.LocateMovesSaid:=over
end Go.Proofs.YtpkaegemlpaenaaGreat.locateMoves
