/- Texts that the proof needs, part 3. -/
import Derived.Test.YtpkaegemlpaenaaGreatK2
set_option linter.unusedVariables false
set_option linter.unusedSimpArgs false
namespace Go.Proofs.YtpkaegemlpaenaaGreat
open Bk Go Tryz
set_option maxRecDepth 10000
set_option maxHeartbeats 1000000
attribute [local irreducible] GL GC GQ W OpV
section
variable{w0:World}{h0:Mem}(hs:MLe h0 (mem w0))
include hs
theorem jO{v:Value}{xs:List Nat}(hv:Us .u32 h0 v xs):
 Calls Tryz.prog 196 #[v] w0 (Ret w0 h0 (λh r=>r=fO 1 v 0 (zB (val xs)).length/\Us .u32 h r (zB (val xs)))):=by
 have J:=hv.lt63;refine cb1 21 v func196 hs ?_;refine sG ?_;refine gcL (ι:=Nat) (λ(k:(Nat))=>(k<=xs.length/\∀i,k<=i->xs.getD i 0=0,[(0,v),(3,vI ↑k)],[],h0,k)) xs.length ?_ ?_
 · exact⟨Nat.le_refl _,λi hi=>by rw[zoa,List.getElem?_eq_none hi];rfl⟩
 rintro k ⟨hk,hz⟩
 refine xC ?_;refine go5 ?_;refine gU 8 15 (vB (((0:Int)<↑k)/\(xs.getD (k-1) 0=0))) ?_ ?_
 ·
  refine zW ((0:Int)<↑k) (λH=>?_) (λH=>?_)
  ·
   refine gT H I (go7 ?_);refine gv (zU (k-1) underlying27 sizeOf124 I I hv oM oM) I (go3 ?_);refine gv (fG (k:=.u32) (q:=0) I I) I (go2 ?_);refine gqU ?_;exact congrArg some (xH H)
  refine gF H I (go8 ?_);refine gqU ?_;exact congrArg some (xJ H)
 refine gc2 (λC=>?_) λC=>?_
 ·
  refine go9 ?_;refine gqL (k-1) ?_ ?_ (he:=⟨I,?_,trivial⟩)
  ·
   exact⟨by omega,λi hi=>by
    by_cases e:i=k-1
    · rw[e];exact C.2
    · exact hz i oM⟩
  · have:=C.1;omega
  · exact congrArg some (congrArg vI (by have:=C.1;omega))
 refine go9 ?_;refine gv (u4 _ underlying27 sizeOf124 I I hv.shape I oM) I ?_;have D:=hv.sub (lo:=0) (hi:=_) oM oM;refine go4 ?_;refine zC I I ?_;have e:(xs.drop 0).take (k-0)=zB (val xs):=zHL hv.lt hk hz (by
  by_cases h0:k=0
  · exact .inl h0
  · exact .inr λh1=>C ⟨by omega,h1⟩)
 rw[e] at D;have M:(zB (val xs)).length=k:=by
  rw[<-e,List.length_take,List.length_drop];omega
 refine⟨?_,D⟩;rw[M]
theorem nat_of{n:Nat}(hn:n<18446744073709551616):
 Calls Tryz.prog 192 #[vU .u64 n] w0 (Ret w0 h0 (λh r=>Us .u32 h r (zB n))):=by
 refine cb1 10 (vU .u64 n) func192 hs ?_;refine qE ?_;refine zK (zFP (kd:=.u32) underlying27 uH I I I I) I I I ?_;intro U Z D;obtain rfl:=D;refine yR (by intro x hx;simp only[List.mem_cons,List.not_mem_nil,or_false] at hx;simp only[ub];omega) ?_;intro h1 J M;refine cL (ev1 I) call196 (λw hs=>jO hs M) λO h2 H C=>?_;replace C:=C.2;refine go4 ?_;refine zC I I ?_;have e:val [n%4294967296,n/2^32%4294967296]=n:=by simp only[val];omega
 rw[e] at C;exact C
theorem zDY{v v':Value}{xs ys:List Nat}(hv:Us .u32 h0 v xs)(hv':Us .u32 h0 v' ys):
 Calls Tryz.prog 204 #[v,v'] w0 (Ret w0 h0 (λ_ r=>r=vI (rI (val xs) (val ys)))):=by
 refine cb2 45 v v' func204 hs ?_;refine go8 ?_;refine cL (ev1 I) call196 (λw hs=>jO hs hv) λv7 h1 ab C=>?_;replace C:=C.2;refine go1 ?_;replace hv':=hv'.mono ab;refine cL (ev1 I) call196 (λw hs=>jO hs hv') λv9 h2 aa D=>?_;replace D:=D.2;replace C:=C.mono aa;generalize hA:zB (val xs)=AA at *;generalize hB:zB (val ys)=BB at *;have vA:val AA=val xs:=by rw[<-hA,zD]
 have M:val BB=val ys:=by rw[<-hB,zD]
 have fA:Fit AA:=C.lt;have fB:Fit BB:=D.lt;have lA:=C.lt63;have lB:=D.lt63;refine sG ?_;refine cnd (λZ=>?_) λZ=>?_
 ·
  refine zDN (λU=>?_) λU=>?_
  ·
   refine go8 ?_;refine zC I I ?_;rw[zBI (rN (by rw[hA,hB];omega))]
  refine go9 ?_;refine zC I I ?_;rw[zBJ (rN (by rw[hA,hB];omega))]
 have hl:AA.length=BB.length:=by omega
 refine qE ?_;refine gcL (ι:=Nat) (λ(j:(Nat))=>(j<=AA.length/\AA.drop j=BB.drop j,[(0,v7),(1,v9),(5,vI (↑j-1))],[],h2,j)) AA.length ?_ ?_
 · exact⟨Nat.le_refl _,by rw[List.drop_of_length_le (Nat.le_refl _),List.drop_of_length_le oM]⟩
 rintro j ⟨hj,hd⟩
 refine xC ?_;refine gc7 (λO=>?_) λO=>?_
 ·
  refine go5 ?_;refine zJ 9 _ [] [(0,.q),(1,.q),(2,.q),(3,.q),(4,.q),(5,.q),(6,.q),(7,.q),(8,.q)] yA nX zor nX (λr hr=>hr) (go2 ?_);refine w_q I (λh' L' hh hR=>zU (j-1) underlying27 sizeOf124 I I (C.mono hh) oM oM) I (w_q I (λh' L' hh hR=>xY isAgg124 I (C.mono hh) oM) I (go2 ?_));refine w_q I (λh' L' hh hR=>zU (j-1) underlying27 sizeOf124 I I (D.mono hh) oM oM) I (w_q I (λh' L' hh hR=>xY isAgg124 I (D.mono hh) oM) I (gc3 (λJ=>?_) λJ=>?_))
  ·
   refine go2 ?_;refine zJ 9 _ [] [(0,.q),(1,.q),(2,.q),(3,.q),(4,.q),(5,.q),(6,.q),(7,.q),(8,.q)] yA nX zor nX (λr hr=>hr) (go2 ?_);refine w_q I (λh' L' hh hR=>zU (j-1) underlying27 sizeOf124 I I (C.mono hh) oM oM) I (w_q I (λh' L' hh hR=>xY isAgg124 I (C.mono hh) oM) I (go2 ?_));refine w_q I (λh' L' hh hR=>zU (j-1) underlying27 sizeOf124 I I (D.mono hh) oM oM) I (w_q I (λh' L' hh hR=>xY isAgg124 I (D.mono hh) oM) I (gc3 (λH=>?_) λH=>?_))
   ·
    refine qE ?_;refine zC I I ?_;rw[<-vA,<-M,zBI (zDR fA hl oM hj hd H)]
   refine pQ ?_;refine zC I I ?_;rw[<-vA,<-M,zBJ (zDR fB hl.symm oM oM hd.symm oM)]
  refine go8 ?_;refine gqL (j-1) ?_ ?_ (he:=⟨I,I,?_,trivial⟩)
  ·
   refine⟨by omega,?_⟩;rw[tD AA (j-1) oM,tD BB (j-1) oM];have e:j-1+1=j:=by omega
   rw[e,hd,Classical.not_not.1 J]
  · omega
  · exact congrArg some (congrArg vI oM)
 refine qI ?_;refine zC I I ?_;have h0:j=0:=by omega
 subst h0;simp only[List.drop_zero] at hd;rw[<-vA,<-M,hd,zRX]
theorem zEQ{v:Value}{xs:List Nat}(hv:Us .u32 h0 v xs)(hl:xs.length<=1099511627776):
 Calls Tryz.prog 207 #[v] w0 (tP w0 h0 (λ_ r L=>L=[.us 124 .u32 r xs])):=by
 refine cb1 8 v func207 hs ?_;refine go9 ?_;refine gv (zOR underlying27 I (let ⟨a,c,hv⟩:=hv.one;⟨a,_,c,hv⟩)) I (gc2 (λC=>?_) λC=>?_)
 ·
  refine go3 ?_;refine zCJ (E:=124) (k:=.u32) (go4 ?_);refine gL I I ?_;obtain⟨m,J,rfl⟩:=C;have hx:xs=[]:=hv.nil_of;subst hx
  rfl
 refine go4 ?_;refine zK (zFQ (kd:=.u32) underlying27 uH I I) I I I ?_;intro O Z H;obtain rfl:=H;refine go1 ?_;refine xR (A:=[]) (gN (kd:=.u32) (bytes:=4) underlying27 uH I I I I I hv (by simp only[lN];omega) (by simp only[lN];omega)) I I I ?_;intro M U D;obtain rfl:=D;refine go4 ?_;refine gL I I ?_
 rfl
theorem dM{v v':Value}{xs ys:List Nat}(hv:Us .u32 h0 v xs)(hv':Us .u32 h0 v' ys)(hl:xs.length<=1099511627776)(hl':ys.length<=1099511627776):
 Calls Tryz.prog 191 #[v,v'] w0 (Ret w0 h0 (λh r=>Us .u32 h r (zB (val xs+val ys)))):=by
 refine cb2 58 v v' func191 hs ?_;refine go5 ?_;refine jI (ι:=Value×List Nat×Value×List Nat) (λ(M,D,U,H)=>Us .u32 h0 M D/\Us .u32 h0 U H/\H.length<=D.length/\val D+val H=val xs+val ys/\D.length<=1099511627776) (λ(M,D,U,H)=>[(0,M),(1,U)]) (λ(M,D,U,H)=>[]) (λ(M,D,U,H)=>h0) ?_ ?_
 ·
  refine go5 ?_;refine gv (vD underlying27 I hv') I (gc3 (λae=>?_) λae=>?_)
  ·
   refine go6 ?_;refine zS (v',ys,v,xs) ?_ e2z I I;exact⟨hv',hv,by omega,by omega,hl'⟩
  refine go1 ?_;refine zS (v,xs,v',ys) ?_ e2z I I;exact⟨hv,hv',by omega,I,hl⟩
 rintro⟨M,D,U,H⟩ ⟨ha,hb,ao,zT8,ap⟩
 refine xC ?_;refine go5 ?_;refine qU (kd:=.u32) (by':=4) (D.length+1) underlying27 uH I I I I I oM oM oM oM I ?_;intro O;refine go5 ?_;refine asg (v:=vU .u64 0) I I (qI ?_);refine kX (ι:=List Nat×Nat) (λ(C,c)=>C.length<=D.length/\Fit C/\c<=1/\val C+4294967296^C.length*c=val (D.take C.length)+val (H.take C.length)) (λ(C,c)=>[(0,M),(1,U),(5,O),(6,vU .u64 c),(20,M),(21,vI ↑D.length),(22,vI ↑C.length)]) (λ(C,c)=>[.us 124 .u32 O (tO C (D.length+1))]) (λ(C,c)=>h0) (λ(C,c)=>D.length-C.length) ([],0) ?_ e7 I I ?_
 · exact⟨by simp,λx hx=>by simp at hx,by omega,by simp[val]⟩
 rintro⟨C,c⟩ ⟨an,ab,au,aa⟩
 refine xC ?_;refine gc6 (λad=>?_) λad=>?_
 ·
  refine go7 ?_;refine gv (zU _ underlying27 sizeOf124 I I ha I oM) I (go1 ?_);have am:=ha.get32 C.length;have ak:=hb.get32 C.length;refine pQ ?_;refine jI (ι:=Unit) (λ(_u:(Unit))=>True) (λ(_u:(Unit))=>[(0,M),(1,U),(5,O),(6,vU .u64 (c+D.getD C.length 0+H.getD C.length 0)),(7,vI ↑C.length),(20,M),(21,vI ↑D.length),(22,vI ↑C.length)]) (λ(_u:(Unit))=>[.us 124 .u32 O (tO C (D.length+1))]) (λ(_u:(Unit))=>h0) ?_ ?_
  ·
   refine gc8 (λac=>?_) λac=>?_
   ·
    refine go4 ?_;refine gv (zU _ underlying27 sizeOf124 I I hb I oM) I (go5 ?_);refine zS (()) ?_ e8 I I
    trivial
   refine go1 ?_;refine zS (()) ?_ ⟨I,I,I,?_,I,I,I,I,trivial⟩ I I
   · trivial
   · exact congrArg some (congrArg (vU .u64) (by rw[sJ (xs:=H) oM];omega))
  rintro _u ai
  refine xC ?_;refine go6 ?_;refine gv (yZ (A:=[]) _ underlying27 sizeOf124 I I I (by rw[uC oM];omega)) I (wQ sizeOf124 I I (by rw[uC oM];omega) (pQ ?_));refine jP (C++[(c+D.getD C.length 0+H.getD C.length 0)%4294967296],(c+D.getD C.length 0+H.getD C.length 0)/2^32) ?_ ?_ ⟨I,I,I,I,I,I,?_,trivial⟩ ?_ I
  ·
   have ah:C.length<D.length:=by omega
   refine⟨by simp;omega,uL ab (aJ oM),by omega,?_⟩;rw[lAz,List.length_singleton,uQ D _ ah,uA H,sV,Nat.pow_succ];have e:=Nat.div_add_mod (c+D.getD C.length 0+H.getD C.length 0) 4294967296;have e2:(2:Nat)^32=4294967296:=I;rw[e2];generalize (c+D.getD C.length 0+H.getD C.length 0)/4294967296=q at *;generalize (c+D.getD C.length 0+H.getD C.length 0)%4294967296=r at *;grind
  ·
   dsimp only;simp;omega
  · exact congrArg some (congrArg vI zoy)
  try dsimp only[List.nil_append,List.cons_append]
  rw[pE oM]
 refine qE ?_;refine gv (yZ (A:=[]) (D.length) underlying27 sizeOf124 I I zo0 (by rw[uC oM];omega)) I (wQ sizeOf124 I I (by rw[uC oM];omega) (go5 ?_));have hk:C.length=D.length:=by omega
 have Z:(tO C (D.length+1)).set D.length (c%4294967296)=C++[c%4294967296]:=by
  rw[<-hk,pE oM,bW zoy]
 refine yR (by rw[Z];exact uL ab (aJ oM)) ?_;intro h1 ar ho;refine cL (ev1 I) call196 (λw hs=>jO hs ho) λaj h2 aq J=>?_;replace J:=J.2;refine go4 ?_;refine zC I I ?_;have e:val (C++[c%4294967296])=val xs+val ys:=by
  rw[sV,zoh oM,aa,wD oM,wD oM];exact zT8
 rw[Z,e] at J;exact J
theorem zDW{v v':Value}{xs ys:List Nat}(hv:Us .u32 h0 v xs)(hv':Us .u32 h0 v' ys)(hl:xs.length<=1099511627776):
 Calls Tryz.prog 195 #[v,v'] w0 (Ret w0 h0 (λh r=>∃u,r=.tuple #[u,vI (if val xs<val ys then 7 else 0)]/\Us .u32 h u (zB (val xs-val ys)))):=by
 refine cb2 54 v v' func195 hs ?_;refine qI ?_;refine cL (ev2 I I) call204 (λw hs=>zDY hs hv hv') λao h1 ac ab=>?_;subst ab;refine gc3 (λJ=>?_) λJ=>?_
 ·
  have O:=rH.1 J;refine go8 ?_;refine wL I I I ?_;rw[if_pos O,Nat.sub_eq_zero_of_le (Nat.le_of_lt O),xL];exact⟨_,I,Us.nil _ _⟩
 have ak:val ys<=val xs:=Nat.le_of_not_lt λhc=>J (rH.2 hc);refine go5 ?_;replace hv':=hv'.mono ac;refine cL (ev1 I) call196 (λw hs=>jO hs hv') λZ h2 aj H=>?_;replace H:=H.2;replace hv:=hv.mono (ac.trans aj);refine go7 ?_;refine qU (kd:=.u32) (by':=4) _ underlying27 uH I I I I I I I oM oM I ?_;intro M;refine go5 ?_;refine asg (v:=vU .u64 0) I I (qI ?_);refine kX (ι:=List Nat×Nat) (λ(C,c)=>C.length<=xs.length/\Fit C/\c<=1/\val C+val ((zB (val ys)).take C.length)=val (xs.take C.length)+4294967296^C.length*c) (λ(C,c)=>[(1,Z),(6,M),(7,vU .u64 c),(21,v),(22,vI ↑xs.length),(23,vI ↑C.length)]) (λ(C,c)=>[.us 124 .u32 M (tO C xs.length)]) (λ(C,c)=>h2) (λ(C,c)=>xs.length-C.length) ([],0) ?_ e6z I I ?_
 · exact⟨by simp,λx hx=>by simp at hx,by omega,by simp[val]⟩
 rintro⟨C,c⟩ ⟨ar,U,aw,aa⟩
 refine xC ?_;refine gc6 (λae=>?_) λae=>?_
 ·
  refine go7 ?_;refine gv (zU _ underlying27 sizeOf124 I I hv I oM) I (go1 ?_);have aq:=hv.get32 C.length;have ap:=H.get32 C.length;refine uK ?_;refine jI (ι:=Unit) (λ(_u:(Unit))=>True) (λ(_u:(Unit))=>[(1,Z),(6,M),(8,vI ↑C.length),(9,vU .u32 (xs.getD C.length 0)),(10,vU .u64 (c+(zB (val ys)).getD C.length 0)),(21,v),(22,vI ↑xs.length),(23,vI ↑C.length)]) (λ(_u:(Unit))=>[.us 124 .u32 M (tO C xs.length)]) (λ(_u:(Unit))=>h2) ?_ ?_
  ·
   refine gc8 (λad=>?_) λad=>?_
   ·
    refine go4 ?_;refine gv (zU _ underlying27 sizeOf124 I I H I oM) I (go5 ?_);refine zS (()) ?_ e8 I I
    trivial
   refine go1 ?_;refine zS (()) ?_ ⟨I,I,I,I,?_,I,I,I,trivial⟩ I I
   · trivial
   · exact congrArg some (congrArg (vU .u64) (by rw[sJ (xs:=zB (val ys)) oM];omega))
  rintro _u am
  refine xC ?_;refine go5 ?_;refine gv (mH (k:=.u64) (W:=18446744073709551616) I I I I oM) I (go9 ?_);refine gv (yZ (A:=[]) _ underlying27 sizeOf124 I I I (by rw[uC oM];omega)) I (wQ sizeOf124 I I (by rw[uC oM];omega) (go4 ?_));refine gv (fE (k:=.u64) (s:=63) (yk:=.u64) I I I (by simp only[ub];omega)) I (go8 ?_);generalize hX:xs.getD C.length 0=X at *;generalize hY:(zB (val ys)).getD C.length 0=Y at *;refine jP (C++[(X+18446744073709551616-(c+Y))%18446744073709551616%4294967296],(X+18446744073709551616-(c+Y))%18446744073709551616/2^63) ?_ ?_ ⟨I,I,I,I,I,?_,trivial⟩ ?_ I
  ·
   have O:C.length<xs.length:=by omega
   refine⟨by simp;omega,uL U (aJ oM),by omega,?_⟩;rw[lAz,List.length_singleton,uQ xs _ O,uA (zB (val ys)),sV,Nat.pow_succ,hX,hY];have e:(X+18446744073709551616-(c+Y))%18446744073709551616%4294967296+c+Y=X+4294967296*((X+18446744073709551616-(c+Y))%18446744073709551616/2^63):=by omega
   generalize (X+18446744073709551616-(c+Y))%18446744073709551616/2^63=q at *;generalize (X+18446744073709551616-(c+Y))%18446744073709551616%4294967296=r at *;grind
  ·
   dsimp only;simp;omega
  · exact congrArg some (congrArg vI zoy)
  try dsimp only[List.nil_append,List.cons_append]
  rw[pE oM]
 refine go8 ?_;have hk:C.length=xs.length:=by omega
 rw[bW hk];refine yR (by exact U) ?_;intro h3 ai ho;refine cL (ev1 I) call196 (λw hs=>jO hs ho) λan h4 ah D=>?_;replace D:=D.2;refine go5 ?_;refine wL I I I ?_;replace hv:=hv.mono (ai.trans ah);rw[if_neg oM];refine⟨_,I,?_⟩;have e:val C=val xs-val ys:=by
  have av:(zB (val ys)).length<=xs.length:=Nat.le_trans (yL ak) (uU hv.lt);rw[wD oM,zD,wD oM] at aa;have h1:=kQ U;have h2:c=0:=Classical.byContradiction λau=>by
   have:c=1:=by omega
   subst this;omega
  subst h2;omega
 rw[e] at D;exact D
theorem sO{v v':Value}{xs ys:List Nat}(hv:Us .u32 h0 v xs)(hv':Us .u32 h0 v' ys)(hl:xs.length<=1099511627776)(hl':ys.length<=1099511627776):
 Calls Tryz.prog 165 #[v,v'] w0 (Ret w0 h0 (λh r=>Us .u32 h r (zB (val xs*val ys)))):=by
 have aw:Fit xs:=hv.lt;have av:Fit ys:=hv'.lt;refine cb2 69 v v' func165 hs ?_;refine uK ?_;refine gv (vD underlying27 I hv') I (go1 ?_);refine qU (kd:=.u32) (by':=4) (xs.length+ys.length) underlying27 uH I I I I I oM oM oM oM I ?_;intro J;refine qE ?_;refine gcL (ι:=Nat×List Nat) (λ(k,M)=>(k<=xs.length/\M.length=xs.length+ys.length/\Fit M/\val M=val (xs.take k)*val ys/\∀i,k+ys.length<=i->M.getD i 0=0,[(1,v'),(5,J),(17,v),(18,vI ↑xs.length),(19,vI ↑k)],[.us 124 .u32 J M],h0,xs.length-k)) (0,List.replicate (xs.length+ys.length) 0) ?_ ?_
 · exact⟨Nat.zero_le _,by simp,jX _,by rw[bC];simp[val],λi _=>iQ _ _⟩
 rintro⟨k,M⟩ ⟨hk,ae,aa,O,hz⟩
 refine xC ?_;refine gc6 (λai=>?_) λai=>?_
 ·
  refine go7 ?_;refine gv (zU _ underlying27 sizeOf124 I I hv I oM) I (go1 ?_);have aq:=hv.get32 k;refine go8 ?_;refine gv (fG (k:=.u32) (q:=0) I I) I (gc2 (λH=>?_) λH=>?_)
  ·
   have ab:xs.getD k 0=0:=H;refine go8 ?_;refine gqL (k+1,M) ?_ ?_
   · exact⟨by omega,ae,aa,by rw[O,uQ xs k oM,ab];simp,λi hi=>hz i oM⟩
   omega
  have ab:xs.getD k 0≠0:=H;refine go4 ?_;refine asg (v:=vU .u64 0) I I (go6 ?_);refine gv (vD underlying27 I hv') I (go4 ?_);refine gcL (ι:=Nat×List Nat×Nat) (λ(j,C,c)=>(j<=ys.length/\C.length=xs.length+ys.length/\Fit C/\c<4294967296/\val C+4294967296^(k+j)*c=val M+4294967296^k*(xs.getD k 0*val (ys.take j))/\∀i,k+ys.length<=i->C.getD i 0=0,[(1,v'),(5,J),(6,vI ↑k),(7,vU .u32 (xs.getD k 0)),(8,vU .u64 c),(17,v),(18,vI ↑xs.length),(19,vI ↑k),(26,v'),(27,vI ↑ys.length),(28,vI ↑j)],[.us 124 .u32 J C],h0,ys.length-j)) (0,M,0) ?_ ?_
  · exact⟨Nat.zero_le _,ae,aa,by omega,by simp[val],hz⟩
  rintro⟨j,C,c⟩ ⟨hj,ad,Z,ak,ac,U⟩
  refine xC ?_;refine gc6 (λah=>?_) λah=>?_
  ·
   refine go7 ?_;refine gv (zU _ underlying27 sizeOf124 I I hv' I oM) I (gv (xY isAgg124 I hv' oM) I ?_);have ap:=hv'.get32 j;have ao:=qR Z (k+j);have an:xs.getD k 0*ys.getD j 0<=4294967295*4294967295:=Nat.mul_le_mul oM oM;refine k7 ?_;refine gv (yZ (A:=[]) (k+j) underlying27 sizeOf124 I I oM oM) I (gv (fP (A:=[]) isAgg124 I oM) I (sG ?_));refine gv (yZ (A:=[]) (k+j) underlying27 sizeOf124 I I oM oM) I (wQ sizeOf124 I I oM (pQ ?_));refine gqL (j+1,C.set (k+j) ((c+(xs.getD k 0*ys.getD j 0+C.getD (k+j) 0))%4294967296),(c+(xs.getD k 0*ys.getD j 0+C.getD (k+j) 0))/2^32) ?_ ?_
   ·
    refine⟨by omega,by simp[ad],nM Z _ oM,by omega,?_,λi hi=>?_⟩
    · have h1:=lZ (xs:=C) (i:=k+j) oM ((c+(xs.getD k 0*ys.getD j 0+C.getD (k+j) 0))%4294967296)
      have e:=Nat.div_add_mod (c+(xs.getD k 0*ys.getD j 0+C.getD (k+j) 0)) 4294967296;have e2:(2:Nat)^32=4294967296:=I;rw[uQ ys j oM,e2];have ep:(4294967296:Nat)^(k+(j+1))=4294967296^k*4294967296^j*4294967296:=by rw[<-Nat.add_assoc,Nat.pow_succ,Nat.pow_add]
      rw[ep];rw[Nat.pow_add] at h1 ac;generalize (c+(xs.getD k 0*ys.getD j 0+C.getD (k+j) 0))/4294967296=q at *;generalize (c+(xs.getD k 0*ys.getD j 0+C.getD (k+j) 0))%4294967296=r at *;grind
    · rw[jH oM];exact U i hi
   omega
  refine go9 ?_;refine gv (vD underlying27 I hv') I (go3 ?_);refine gv (yZ (A:=[]) (k+ys.length) underlying27 sizeOf124 I I oM oM) I (wQ sizeOf124 I I oM (go7 ?_));refine gqL (k+1,C.set (k+ys.length) (c%4294967296)) ?_ ?_
  ·
   have hj:j=ys.length:=by omega
   subst hj;refine⟨by omega,by simp[ad],nM Z _ oM,?_,λi hi=>?_⟩
   · have h1:=lZ (xs:=C) (i:=k+ys.length) oM (c%4294967296)
     rw[U _ (Nat.le_refl _)] at h1;rw[wD (Nat.le_refl _)] at ac;rw[zoh ak] at h1 ⊢;rw[uQ xs k oM];grind
   · rw[jH oM];exact U i oM
  omega
 refine go8 ?_;refine yR (by exact aa) ?_;intro h1 au ho;refine cL (ev1 I) call196 (λw hs=>jO hs ho) λam h2 ar D=>?_;replace D:=D.2;refine go4 ?_;refine zC I I ?_;have aj:k=xs.length:=by omega
 rw[O,aj,wD (Nat.le_refl _)] at D;exact D
end
set_option maxRecDepth 100000 in
section
variable{w0:World}{h0:Mem}(hs:MLe h0 (mem w0))
include hs
theorem zGT{x:Nat}(hx:x<4294967296):
 Calls Tryz.prog 197 #[vU .u32 x] w0 (Ret w0 h0 (λ_ r=>r=vI ↑(uD x))):=by
 refine cb1 19 (vU .u32 x) func197 hs ?_;refine go5 ?_;refine jI (ι:=Nat×Nat) (λ(D,H)=>D<65536/\H<=16/\uD x=uD D+H) (λ(D,H)=>[(0,vU .u32 D),(2,vI ↑H)]) (λ(D,H)=>[]) (λ(D,H)=>h0) ?_ ?_
 ·
  refine go3 ?_;refine gv (pW (k:=.u32) (q:=65536) I I) I (gc2 (λO=>?_) λO=>?_)
  ·
   refine go3 ?_;refine gv (fE (k:=.u32) (s:=16) (yk:=.u64) I I I (by simp only[ub];omega)) I (go6 ?_);refine zS (x/2^16,16) ?_ e2z I I;exact⟨by omega,by omega,zCV O⟩
  refine go1 ?_;refine zS (x,0) ?_ e2z I I;exact⟨by omega,by omega,I⟩
 rintro⟨D,H⟩ ⟨aa,ac,U⟩
 refine xC ?_;refine jI (ι:=Nat×Nat) (λ(C,J)=>C<256/\J<=24/\uD x=uD C+J) (λ(C,J)=>[(0,vU .u32 C),(2,vI ↑J)]) (λ(C,J)=>[]) (λ(C,J)=>h0) ?_ ?_
 ·
  refine go3 ?_;refine gv (pW (k:=.u32) (q:=256) I I) I (gc2 (λM=>?_) λM=>?_)
  ·
   refine go3 ?_;refine gv (fE (k:=.u32) (s:=8) (yk:=.u64) I I I (by simp only[ub];omega)) I (go8 ?_);refine zS (D/2^8,H+8) ?_ ⟨I,?_,trivial⟩ I I
   · exact⟨by omega,by omega,by rw[U,zCV (k:=8) M];omega⟩
   · exact congrArg some (congrArg vI oM)
  refine go1 ?_;refine zS (D,H) ?_ e2z I I;exact⟨by omega,by omega,U⟩
 rintro⟨C,J⟩ ⟨Z,ab,ae⟩
 refine xC ?_;refine go4 ?_;refine gv (fX (k:=.u32) (k':=.u8) (W:=256) underlying124 underlying5 I I I) I ?_;have ad:uD C<=8:=mW (k:=8) oM;refine oY (zJG (λi=>uD i) (C%256) underlying9 I I I (by decide +kernel) (by show C%256<256;omega)) I I I ?_;rw[zoh Z];refine gv (zFB (k:=.u8) underlying5 underlying3 I oM) I (go5 ?_);refine zC I I ?_;exact congrArg vI oM
theorem zUN{x:Nat}(hx:x<4294967296):
 Calls Tryz.prog 210 #[vU .u32 x] w0 (Ret w0 h0 (λ_ r=>r=vI ↑(32-uD x))):=by
 refine cb1 6 (vU .u32 x) func210 hs ?_;refine go8 ?_;refine cL (ev1 I) call197 (λw hs=>zGT hs oM) λv4 h1 D C=>?_;subst C;have H:uD x<=32:=mW (k:=32) oM;refine gv (qX (p:=32) I I oM oM) I (go4 ?_);refine zC I I ?_;exact congrArg vI oM
theorem zAU{v:Value}{xs:List Nat}(hv:Us .u32 h0 v xs)(hl:xs.length<=1099511627776):
 Calls Tryz.prog 162 #[v] w0 (Ret w0 h0 (λ_ r=>r=vI ↑(uD (val xs)))):=by
 refine cb1 20 v func162 hs ?_;refine go8 ?_;refine cL (ev1 I) call196 (λw hs=>jO hs hv) λv4 h1 J C=>?_;replace C:=C.2;replace hv:=hv.mono J;have ab:=uU hv.lt;generalize hA:zB (val xs)=AA at *;have O:val AA=val xs:=by rw[<-hA,zD]
 have U:Fit AA:=C.lt;refine zCK (λM=>?_) λM=>?_
 ·
  refine go7 ?_;refine zC I I ?_;have h0:AA=[]:=zof oM;rw[<-O,h0];rfl
 refine go6 ?_;have H:0<AA.length:=by omega
 refine go1 ?_;refine gv (gJ (p:=32) I I oM oM) I (go4 ?_);refine gv (zU (AA.length-1) underlying27 sizeOf124 I I C oM oM) I (go1 ?_);have aa:=qR U (AA.length-1);have hb:=mW (n:=AA.getD (AA.length-1) 0) (k:=32) oM;refine cL (ev1 I) call197 (λw hs=>zGT hs oM) λZ h2 ac D=>?_;subst D;refine go5 ?_;refine zC I I ?_;rw[<-O,zCU U (k:=AA.length-1) oM (by rw[<-hA];exact sP (by rw[hA];exact H))];exact congrArg vI oM
theorem zMH{v:Value}{xs:List Nat}(hv:Us .u32 h0 v xs)(hl:xs.length<=2):
 Calls Tryz.prog 208 #[v] w0 (Ret w0 h0 (λ_ r=>r=vU .u64 (val xs))):=by
 have hf:Fit xs:=hv.lt;refine cb1 21 v func208 hs ?_;refine go2 ?_;refine asg (v:=vU .u64 0) I I (go4 ?_);refine asg (v:=vU .u64 0) I I (qE ?_);have D:val (xs.drop xs.length)=0:=by rw[List.drop_of_length_le (Nat.le_refl _)];rfl
 refine kX (ι:=Nat) (λ(j:(Nat))=>j<=xs.length) (λ(j:(Nat))=>[(0,v),(3,vU .u64 (val (xs.drop j))),(4,vI (↑j-1))]) (λ(j:(Nat))=>[]) (λ(j:(Nat))=>h0) (λ(j:(Nat))=>j) xs.length ?_ ⟨?_,?_,?_,trivial⟩ I I ?_
 · exact Nat.le_refl _
 · exact I
 · exact congrArg some (congrArg (vU .u64) D.symm)
 · exact I
 rintro j J
 refine xC ?_;refine gc7 (λH=>?_) λH=>?_
 ·
  refine go6 ?_;refine gv (fF (k:=.u64) (s:=32) (yk:=.u64) (W:=18446744073709551616) I I I I) I (go2 ?_);refine gv (zU (j-1) underlying27 sizeOf124 I I hv oM oM) I (go1 ?_);have C:=hv.get32 (j-1);refine go1 ?_;refine gv (rM (k:=.u64) I I I (by simp only[ub];omega) (by simp only[ub];omega)) I ?_;rw[pX (by
   have h2:=kQ (iR hf j);rw[List.length_drop] at h2;have h3:(4294967296:Nat)^(xs.length-j)<=4294967296^1:=Nat.pow_le_pow_right oM oM;omega) C]
  refine go9 ?_;refine jP (j-1) ?_ ?_ ⟨I,?_,?_,trivial⟩ I I
  · omega
  · omega
  ·
   rw[jY xs (j-1) oM];exact congrArg some (congrArg (vU .u64) (by rw[show j-1+1=j by omega];omega))
  · exact congrArg some (congrArg vI oM)
 refine qE ?_;refine zC I I ?_;rw[show j=0 by omega];rfl
theorem zTW{v:Value}{xs:List Nat}{b:Nat}(hv:Us .u32 h0 v xs)(hb:0<b)(hb':b<4294967296)(hl:xs.length<=1099511627776):
 Calls Tryz.prog 209 #[v,vU .u32 b] w0 (Ret w0 h0 (λh r=>∃u,r=.tuple #[u,vU .u32 (val xs%b)]/\Us .u32 h u (zB (val xs/b)))):=by
 have hf:Fit xs:=hv.lt;refine cb2 43 v (vU .u32 b) func209 hs ?_;refine go3 ?_;refine asg (v:=vU .u32 0) I I (go6 ?_);refine qU (kd:=.u32) (by':=4) _ underlying27 uH I I I I I I I oM oM I ?_;intro J;refine go5 ?_;refine asg (v:=vU .u64 0) I I (qE ?_);refine kX (ι:=Nat×List Nat×Nat) (λ(j,D,r)=>j<=xs.length/\D.length=xs.length-j/\Fit D/\r<b/\val (xs.drop j)=b*val D+r) (λ(j,D,r)=>[(0,v),(1,vU .u32 b),(6,J),(7,vU .u64 r),(8,vI (↑j-1))]) (λ(j,D,r)=>[.us 124 .u32 J (gS j D)]) (λ(j,D,r)=>h0) (λ(j,D,r)=>j) (xs.length,[],0) ?_ e5z ?_ I ?_
 · exact⟨Nat.le_refl _,by simp,λx hx=>by simp at hx,hb,by rw[List.drop_of_length_le (Nat.le_refl _)];rfl⟩
 ·
  try dsimp only[List.nil_append,List.cons_append]
  exact congrArg (λz=>[Res.us 124 .u32 J z]) (lM _)
 rintro⟨j,D,r⟩ ⟨hj,ac,M,Z,C⟩
 refine xC ?_;refine gc7 (λO=>?_) λO=>?_
 ·
  refine go7 ?_;refine gv (fF (k:=.u64) (s:=32) (yk:=.u64) (W:=18446744073709551616) I I I I) I (go2 ?_);refine gv (zU (j-1) underlying27 sizeOf124 I I hv oM oM) I (go1 ?_);have U:=hv.get32 (j-1);refine go1 ?_;refine gv (rM (k:=.u64) I I I (by simp only[ub];omega) (by simp only[ub];omega)) I ?_;rw[pX oM U];generalize ht:r*4294967296+xs.getD (j-1) 0=t at *;have hq:t/b<4294967296:=Nat.div_lt_of_lt_mul (by rw[<-ht];have h1:(r+1)*4294967296<=b*4294967296:=Nat.mul_le_mul_right _ Z;omega);refine uK ?_;refine gv (bS (k:=.u64) (W:=18446744073709551616) I I I I oM oM) I (gv (vG (k:=.u64) (k':=.u32) (W:=4294967296) underlying125 underlying124 I I I oM) I (gv (yZ (A:=[]) (j-1) underlying27 sizeOf124 I I oM (by rw[jB];omega)) I (wQ sizeOf124 I I (by rw[jB];omega) (go6 ?_))));refine gv (bR (k:=.u64) I I oM) I (go9 ?_);refine jP (j-1,t/b::D,t%b) ?_ ?_ ⟨I,I,I,I,?_,trivial⟩ ?_ I
  ·
   refine⟨by omega,by simp only[lC];omega,rG.2 ⟨hq,M⟩,Nat.mod_lt _ hb,?_⟩;rw[jY xs (j-1) oM,show j-1+1=j by omega,val];exact zEP C ht.symm I I
  ·
   dsimp only;omega
  · exact congrArg some (congrArg vI oM)
  try dsimp only[List.nil_append,List.cons_append]
  rw[lL oM]
 refine go8 ?_;have aa:j=0:=by omega
 subst aa;rw[bX];refine yR (by exact M) ?_;intro h1 ae ho;refine cL (ev1 I) call196 (λw hs=>jO hs ho) λab h2 ad H=>?_;replace H:=H.2;refine go1 ?_;refine gv (vG (k:=.u64) (k':=.u32) (W:=4294967296) underlying125 underlying124 I I I oM) I (go5 ?_);refine wL I I I ?_;simp only[List.drop_zero] at C;have e1:val xs/b=val D:=by rw[C,Nat.mul_add_div hb,Nat.div_eq_of_lt Z];omega
 have e2:val xs%b=r:=by rw[C,Nat.mul_add_mod,zoh Z]
 rw[e1,e2];exact⟨_,I,H⟩
theorem zH8{v:Value}{xs:List Nat}{s:Nat}(hv:Us .u32 h0 v xs)(hs32:s<32)(hl:xs.length<=1099511627776):
 Calls Tryz.prog 211 #[v,vI ↑s] w0 (tP w0 h0 (λ_ r L=>∃us,L=[.us 124 .u32 r us]/\us.length=xs.length+1/\Fit us/\val us=val xs*2^s)):=by
 have hf:Fit xs:=hv.lt;have hp:2^s<=2147483648:=Nat.pow_le_pow_right (n:=2) oM (show s<=31 by omega);have O:0<2^s:=Nat.pow_pos oM;refine cb2 41 v (vI ↑s) func211 hs ?_;refine uK ?_;refine qU (kd:=.u32) (by':=4) (xs.length+1) underlying27 uH I I I I I oM oM oM oM I ?_;intro D;refine go5 ?_;refine asg (v:=vU .u64 0) I I (qI ?_);refine kX (ι:=List Nat×Nat) (λ(C,c)=>C.length<=xs.length/\Fit C/\c<2^s/\val C+4294967296^C.length*c=val (xs.take C.length)*2^s) (λ(C,c)=>[(0,v),(1,vI ↑s),(5,D),(6,vU .u64 c),(13,v),(14,vI ↑xs.length),(15,vI ↑C.length)]) (λ(C,c)=>[.us 124 .u32 D (tO C (xs.length+1))]) (λ(C,c)=>h0) (λ(C,c)=>xs.length-C.length) ([],0) ?_ e7 I I ?_
 · exact⟨by simp,λx hx=>by simp at hx,O,by simp[val]⟩
 rintro⟨C,c⟩ ⟨aa,J,hc,H⟩
 refine xC ?_;refine gc6 (λM=>?_) λM=>?_
 ·
  refine go7 ?_;refine gv (zU _ underlying27 sizeOf124 I I hv I oM) I (go1 ?_);have Z:=hv.get32 C.length;have U:xs.getD C.length 0*2^s<18446744073709551616-4294967296:=by
   have:=Nat.mul_le_mul (show xs.getD C.length 0<=4294967295 by omega) hp;omega
  refine uK ?_;refine gv (fF (k:=.u64) (s:=s) (yk:=.i64) (W:=18446744073709551616) I I I I) I ?_;rw[zoh oM];refine gv (rM (k:=.u64) I I I (by simp only[ub];omega) (by simp only[ub];omega)) I ?_;rw[zOT hc];refine go9 ?_;refine gv (yZ (A:=[]) _ underlying27 sizeOf124 I I I (by rw[uC oM];omega)) I (wQ sizeOf124 I I (by rw[uC oM];omega) (pQ ?_));refine jP (C++[(xs.getD C.length 0*2^s+c)%4294967296],(xs.getD C.length 0*2^s+c)/2^32) ?_ ?_ ⟨I,I,I,I,I,I,?_,trivial⟩ ?_ I
  ·
   refine⟨by simp;omega,uL J (aJ oM),?_,?_⟩
   · refine Nat.div_lt_of_lt_mul ?_
     have:=Nat.mul_le_mul_right (2^s) (show xs.getD C.length 0+1<=2^32 by omega);rw[Nat.add_mul] at this;omega
   · have e:=Nat.div_add_mod (xs.getD C.length 0*2^s+c) 4294967296
     have e2:(2:Nat)^32=4294967296:=I;rw[lAz,List.length_singleton,uQ xs _ oM,sV,Nat.pow_succ,e2];generalize (xs.getD C.length 0*2^s+c)/4294967296=q at *;generalize (xs.getD C.length 0*2^s+c)%4294967296=r at *;grind
  ·
   dsimp only;simp;omega
  · exact congrArg some (congrArg vI zoy)
  try dsimp only[List.nil_append,List.cons_append]
  rw[pE oM]
 refine qE ?_;refine gv (yZ (A:=[]) (xs.length) underlying27 sizeOf124 I I zo0 (by rw[uC oM];omega)) I (wQ sizeOf124 I I (by rw[uC oM];omega) (go9 ?_));refine gL I I ?_;have hk:C.length=xs.length:=by omega
 refine⟨C++[c],?_,by simp[hk],uL J (aJ oM),?_⟩
 · rw[<-hk,pE oM,bW zoy,zoh oM]
 · rw[sV,H,wD oM]
end
set_option maxHeartbeats 2000000 in
section
variable{w0:World}{h0:Mem}(hs:MLe h0 (mem w0))
include hs
theorem zDX{v v':Value}{xs ys:List Nat}(hv:Us .u32 h0 v xs)(hv':Us .u32 h0 v' ys)(hl:xs.length<=1099511627776)(hl':ys.length<=1099511627776):
 Calls Tryz.prog 190 #[v,v'] w0 (Ret w0 h0 (λh z=>∃q r,z=.tuple #[q,r,vI (if val ys=0 then 3 else 0)]/\Us .u32 h q (zB (val xs/val ys))/\Us .u32 h r (zB (if val ys=0 then 0 else val xs%val ys)))):=by
 have er:Fit xs:=hv.lt;have eq:Fit ys:=hv'.lt;have gf:=uU er;have ge:=uU eq;refine cb2 300 v v' func190 hs ?_;refine zP (zF (asg I I (asg I I (asg (v:=vI (0)) I I (zX (zH (zP (zF (mv I I (cL (ev1 I) call196 (λw hs=>jO hs hv) λfu h1 en H=>?_))))))))));replace H:=H.2;refine mv I I ?_;replace hv':=hv'.mono en;refine cL (ev1 I) call196 (λw hs=>jO hs hv') λft h2 em D=>?_;replace D:=D.2;refine asg I I (asg I I (zX (zH (zP (vN (zP (zF (mv I I (gv (vD underlying27 I D) I (gv (rA (q:=0) I I) I (asg I I (zX (vM (e':=[(0,_),(1,_),(30,_)]) e3z ?_)))))))))))));refine zH ?_;refine cnd (λdu=>?_) λdu=>?_
 ·
  have ea:val ys=0:=Classical.byContradiction λej=>by have:=yQ.2 ej;omega
  refine zP (zF (asg I I (asg I I (asg (v:=vI (3)) I I (zX (zH (lJ (zRF (nK (qN I I I I ?_))))))))));rw[ea,Nat.div_zero,if_pos I,if_pos I,xL];exact⟨_,_,I,Us.nil _ _,Us.nil _ _⟩
 have ay:val ys≠0:=yQ.1 oM;refine zP (zF (mv I I (mv I I ?_)));replace H:=H.mono em;refine cL (ev2 I I) call204 (λw hs=>zDY hs H D) λfs h3 bk de=>?_;subst de;rw[zD,zD];refine gv (yJ (q:=0) I I) I (asg I I (zX (zH ?_)));refine cnd (λbf=>?_) λbf=>?_
 ·
  have di:=rH.1 bf;refine zP (zF (mv I I ?_));replace H:=H.mono bk;refine jJ (vs:=[_]) I I I I call207 ⟨I,trivial⟩ (λw hs=>zEQ hs H oM) ?_;intro fr h4 gy bj dd;obtain rfl:=dd;refine asg I I (asg I I (yR (by exact wK _) ?_));intro h5 bi ho;refine asg (v:=vI (0)) I I (zX (vM (e':=[(4,_),(5,_),(6,_)]) e3z (zH (lJ (zRF (nK (qN I I I I ?_)))))));rw[Nat.div_eq_of_lt di,zoh di,if_neg oM,if_neg oM,xL];exact⟨_,_,I,Us.nil _ _,ho⟩
 have ep:val ys<=val xs:=Nat.le_of_not_lt λhc=>bf (rH.2 hc);refine zP (zF (mv I I ?_));replace D:=D.mono bk;refine gv (vD underlying27 I D) I (gv (rA (q:=1) I I) I (asg I I (zX (zH ?_))));refine cnd (λdt=>?_) λdt=>?_
 ·
  have bq:(zB (val ys)).length=1:=by omega
  have dv:(zB (val ys)).getD 0 0≠0:=by have:=sP (n:=val ys) oM;rwa [bq] at this
  have bs:=t7 bq;rw[zD] at bs;refine zKI (e':=[(0,_),(1,_)]) e2z (zP (zF (mv I I (mv I I (gv (zU (q:=0) (0) underlying27 sizeOf124 I I D I oM) I (gv (xY isAgg124 I D oM) I ?_))))));have cg:=D.get32 0;replace H:=H.mono bk;refine cL (ev2 I I) call209 (λw hs=>zTW hs H oM oM oM) λfq h4 bj dc=>?_;obtain⟨fv,rfl,aq⟩:=dc;refine mv I I (gv (gP (vs:=[_,_]) I I) I (gv (gP (vs:=[_,_]) I I) I (asg I I (asg I I (zX (vM (e':=[(7,_),(8,_)]) e2z (zH (zP (zF (mv I I (mv I I (zK (rX (kd:=.u32) underlying27 uH I I I) I I I ?_))))))))))));intro fp fw db;obtain rfl:=db;refine yR (by intro z hz;simp only[List.mem_singleton] at hz;subst hz;exact Nat.lt_trans (Nat.mod_lt _ oM) cg) ?_;intro h5 bi dp;refine cL (ev1 I) call196 (λw hs=>jO hs dp) λfo h6 dl ar=>?_;replace ar:=ar.2;refine asg I I (asg I I (asg (v:=vI (0)) I I (zX (zH (lJ (zRF (nK (qN I I I I ?_))))))));replace aq:=aq.mono (bi.trans dl);rw[zD,<-bs] at aq;rw[t7 I,List.getD_cons_zero,zD,<-bs] at ar;rw[if_neg oM,if_neg oM];exact⟨_,_,I,aq,ar⟩
 have df:2<=(zB (val ys)).length:=by omega
 refine zKI (e':=[(0,_),(1,_)]) e2z (uZ (rB (zH (zP (zF (mv I I (mv I I (gv (vD underlying27 I D) I (gv (qX (q:=1) I I oM oM) I (gv (zU ((zB (val ys)).length-1) underlying27 sizeOf124 I I D oM oM) I (gv (xY isAgg124 I D oM) I ?_)))))))))));have hgt:=D.get32 ((zB (val ys)).length-1);refine cL (ev1 I) call210 (λw hs=>zUN hs oM) λfm h4 bj da=>?_;subst da;obtain⟨s,cu⟩:∃s,s=32-uD ((zB (val ys)).getD ((zB (val ys)).length-1) 0):=⟨_,I⟩;rw[<-cu];obtain⟨ff,av,ee⟩:=zFN (k:=(zB (val ys)).length-1) ay oM cu;refine asg I I (zX (zH (zP (zF (mv I I (mv I I ?_))))));replace H:=H.mono (bk.trans bj);refine jJ (vs:=[_,_]) I I I I call211 e2z (λw hs=>zH8 hs H oM oM) ?_;intro O h5 gx bi cz;obtain⟨bn,rfl,bb,bc,ah⟩:=cz;refine mv I I (mv I I ?_);replace D:=D.mono (bj.trans bi);refine jJ (vs:=[_,_]) I I I I call211 e2z (λw hs=>zH8 hs D oM oM) ?_;intro fl h6 gw dl cy;obtain⟨fd,rfl,ef,bv,bu⟩:=cy;refine yR (by exact bv) ?_;intro h7 gj ed;refine cL (ev1 I) call196 (λw hs=>jO hs ed) λai h8 gh C=>?_;replace C:=C.2;rw[bu,zD] at C;refine asg I I (asg I I ?_);rw[zD] at ah;have fg:=yL ep;have br:=kQ (wK (val xs));rw[zD] at br;have ev:=sR (n:=val ys) (k:=(zB (val ys)).length-1) oM;have bx:=zUH bc br ah (k:=(zB (val ys)).length-1) oM ev;rw[show(zB (val xs)).length-((zB (val ys)).length-1)=(zB (val xs)).length+1-(zB (val ys)).length by omega] at bx;have az:=zD (val ys*2^s);have bl:Fit (zB (val ys*2^s)):=wK _;replace av:(zB (val ys*2^s)).length=(zB (val ys)).length:=by omega
 generalize zB (val ys*2^s)=vs at *;generalize gc:(zB (val ys)).length=n at *;generalize fh:(zB (val xs)).length=la at *;obtain⟨V,hV⟩:∃V,V=val ys*2^s:=⟨_,I⟩;obtain⟨U,hU⟩:∃U,U=val xs*2^s:=⟨_,I⟩;rw[<-hV] at az bx;rw[<-hU] at ah;have ew:V<4294967296^n:=by rw[<-az,<-av];exact kQ bl
 have ao:=zQG df av;rw[az] at ao;have ba:=kQ (fM bl (n-2));rw[List.length_take,Nat.min_eq_left oM] at ba;have bt:=qR bl (n-2);have cp:=qR bl (n-1);refine zX (vM (e':=[(9,_),(10,_),(11,_)]) e3z (zH (zP (zF (mv I I (gv (vD underlying27 I C) I ?_))))));rw[av];refine asg I I (zX (zH (zP (zF (mv I I (gv (rT (A:=[]) underlying27 I) I ?_))))));rw[bb];refine mv I I (gv (qX I I oM oM) I (qU (kd:=.u32) (by':=4) (la+1-n) underlying27 uH I I I I I oM oM oM oM I ?_));intro M;refine asg I I (zX (zH (zP (zP (zF (mv I I (gv (rT (A:=[]) underlying27 I) I ?_)))))));rw[lR];refine gv (qX (q:=1) I I oM oM) I (asg I I (zX (vM (e':=[(9,_),(10,_),(11,_),(12,_),(4,_),(13,_)]) e6z (zH (vN ?_)))));refine kX (ι:=Nat×List Nat×List Nat) (λ(J,us,qs)=>J<=la+1-n/\qs.length=la+1-n-J/\Fit qs/\us.length=la+1/\Fit us/\val us+4294967296^J*(val qs*V)=U/\val (us.drop J)<V) (λ(J,us,qs)=>[(4,M),(9,vI ↑s),(10,O),(11,ai),(12,vI ↑n),(13,vI (↑J-1))]) (λ(J,us,qs)=>[.us 124 .u32 M (gS J qs),.us 124 .u32 O us]) (λ(J,us,qs)=>h8) (λ(J,us,qs)=>J) (la+1-n,bn,[]) ?_ e6z ?_ I ?_
 · exact⟨Nat.le_refl _,by simp,λx hx=>by simp at hx,bb,bc,by rw[ah];simp[val],bx⟩
 ·
  try dsimp only[List.nil_append,List.cons_append]
  exact congrArg (λz=>[Res.us 124 .u32 M z,Res.us 124 .u32 O bn]) (lM _)
 rintro⟨J,us,qs⟩ ⟨fk,ga,dq,eg,aa,ap,ca⟩
 refine xC ?_;refine zP (zP (zF (mv I I (gv (sZ (q:=0) I I) I (zX (zH ?_))))));refine cnd (λdr=>?_) λdr=>?_
 ·
  refine uZ (zH (zP (vN (zP ?_))));have hJ:1<=J:=by omega
  have ci:∀i,J+n<=i->us.getD i 0=0:=λi hi=>eP (zEB aa (Nat.lt_trans ca ew)) hi;obtain⟨wr,hW,cn⟩:=zHI (j:=J-1) df (λi hi=>ci i oM) aa;have gq:=qR aa (J-1+n);have go:=qR aa (J-1+n-1);have eu:=qR aa (J-1+n-2);have gr:=qR aa (J-1);have dw:val (us.drop (J-1))<4294967296*V:=by
   rw[jY us (J-1) oM,Nat.sub_add_cancel hJ];omega
  refine zJ 18 _ [] [(0,.q),(1,.q),(2,.q),(3,.q),(4,.q),(5,.q),(6,.q),(7,.q),(8,.q),(9,.q),(10,.q),(11,.q),(12,.q),(13,.q),(14,.q),(15,.q),(16,.q),(17,.q)] yA nX zor nX (λr hr=>hr) (qL I I I (qL I I I (qL I I I (wC I (λ_ _=>zQ I I oM oM) I (w_q I (λh' L' hh hR=>gO (hR _ mh1) (J-1+n) underlying27 sizeOf124 I I oM oM) I (w_q I (λh' L' hh hR=>sL (hR _ mh1) isAgg124 I oM) I (wC I (λ_ _=>vG (k:=.u32) (k':=.u64) (W:=18446744073709551616) underlying124 underlying125 I I I oM) I (wC I (λ_ _=>fF (k:=.u64) (s:=32) (yk:=.u64) (W:=18446744073709551616) I I I I) I (qL I I I (qL I I I (qL I I I (wC I (λ_ _=>zQ I I oM oM) I (wC I (λ_ _=>qX (q:=1) I I oM oM) I ?_)))))))))))));refine w_q I (λh' L' hh hR=>gO (hR _ mh1) (J-1+n-1) underlying27 sizeOf124 I I oM oM) I (w_q I (λh' L' hh hR=>sL (hR _ mh1) isAgg124 I oM) I (wC I (λ_ _=>vG (k:=.u32) (k':=.u64) (W:=18446744073709551616) underlying124 underlying125 I I I oM) I (wC I (λ_ _=>rM (k:=.u64) I I I (by simp only[ub];omega) (by simp only[ub];omega)) I ?_)));rw[pX oM oM];obtain⟨top,bo⟩:∃t,t=us.getD (J-1+n) 0*4294967296+us.getD (J-1+n-1) 0:=⟨_,I⟩;rw[<-bo];rw[<-bo] at hW;have am:=yCV ao hW ba bt dw;refine zKZ I I I (cM (vM (e':=[(4,_),(9,_),(10,_),(11,_),(12,_),(13,_),(14,_)]) e7 (zH (zP ?_))));refine zJ 18 _ [] [(0,.q),(1,.q),(2,.q),(3,.q),(4,.q),(5,.q),(6,.q),(7,.q),(8,.q),(9,.q),(10,.q),(11,.q),(12,.q),(13,.q),(14,.q),(15,.q),(16,.q),(17,.q)] yA nX zor nX (λr hr=>hr) (qL I I I (qL I I I (qL I I I (wC I (λ_ _=>qX (q:=1) I I oM oM) I (w_q I (λh' L' hh hR=>zU (n-1) underlying27 sizeOf124 I I (C.mono hh) oM oM) I (w_q I (λh' L' hh hR=>xY isAgg124 I (C.mono hh) oM) I (wC I (λ_ _=>vG (k:=.u32) (k':=.u64) (W:=18446744073709551616) underlying124 underlying125 I I I oM) I (wC I (λ_ _=>bS (k:=.u64) (W:=18446744073709551616) I I I I oM oM) I (qL I I I (qL I I I (qL I I I (wC I (λ_ _=>qX (q:=1) I I oM oM) I (w_q I (λh' L' hh hR=>zU (n-1) underlying27 sizeOf124 I I (C.mono hh) oM oM) I ?_)))))))))))));refine w_q I (λh' L' hh hR=>xY isAgg124 I (C.mono hh) oM) I (wC I (λ_ _=>vG (k:=.u32) (k':=.u64) (W:=18446744073709551616) underlying124 underlying125 I I I oM) I (wC I (λ_ _=>bR (k:=.u64) I I oM) I (zKZ I I I (zKZ I I I (cM (vM (e':=[(4,_),(9,_),(10,_),(11,_),(12,_),(13,_),(15,_),(16,_)]) e8 (zH ?_)))))));refine jI (ι:=Nat) (λ(x1:(Nat))=>x1<4294967296/\val (us.drop (J-1))<(x1+1)*V/\x1*V<val (us.drop (J-1))+V) (λ(x1:(Nat))=>[(4,M),(9,vI ↑s),(10,O),(11,ai),(12,vI ↑n),(13,vI (↑J-1)),(15,vU .u64 x1)]) (λ(x1:(Nat))=>[.us 124 .u32 M (gS J qs),.us 124 .u32 O us]) (λ(x1:(Nat))=>h8) ?_ ?_
  ·
   refine vN ?_;refine gcL (ι:=Nat×Nat) (λ(x,r)=>(x*vs.getD (n-1) 0+r=top/\val (us.drop (J-1))<(x+1)*V/\r<4294967296,[(4,M),(9,vI ↑s),(10,O),(11,ai),(12,vI ↑n),(13,vI (↑J-1)),(15,vU .u64 x),(16,vU .u64 r)],[.us 124 .u32 M (gS J qs),.us 124 .u32 O us],h8,x)) (top/vs.getD (n-1) 0,top%vs.getD (n-1) 0) ?_ ?_
   · exact⟨by rw[Nat.mul_comm];exact Nat.div_add_mod _ _,zM4 ao hW eu cn oM,Nat.lt_trans (Nat.mod_lt _ oM) cp⟩
   rintro⟨x,r⟩ ⟨ak,eb,fz⟩
   refine xC ?_;have ec:=yIM ak am ee;have fy:x*vs.getD (n-2) 0<=4294967297*4294967295:=Nat.mul_le_mul ec oM;refine zP (zP ?_);refine zY0 (4294967296<=x) (λhg=>?_) (λhg=>?_)
   ·
    have ae:1<=x:=by omega
    have aj:val (us.drop (J-1))<x*V:=Nat.lt_of_lt_of_le dw (Nat.mul_le_mul_right _ hg);refine zJ 24 _ [] [(0,.q),(1,.q),(2,.q),(3,.q),(4,.q),(5,.q),(6,.q),(7,.q),(8,.q),(9,.q),(10,.q),(11,.q),(12,.q),(13,.q),(14,.q),(15,.q),(16,.q),(17,.q),(18,.q),(19,.q),(20,.q),(21,.q),(22,.q),(23,.q)] yA nX zor nX (λr hr=>hr) (qL I I I (wC I (λ_ _=>pW (k:=.u64) (q:=4294967296) I I) I (wC I (λ_ _=>yY (v:=.bool true) (congrArg some (xT hg))) I (vQ I I I I I (vQ I I I I I (vQ I I I I I (vQ I I I I I (vQ I I I I I (vQ I I I I I (vQ I I I I I (vQ I I I I I (vQ I I I I I (vQ I I I I I ?_)))))))))))));refine vQ I I I I I (vQ I I I I I (vQ I I I I I (vQ I I I I I (vQ I I I I I (vQ I I I I I (vQ I I I I I (vQ I I I I I (vQ I I I I I (vQ I I I I I (wC I (λ_ _=>cT I I) I (cM (vM (e':=[(4,_),(9,_),(10,_),(11,_),(12,_),(13,_),(15,_),(16,_),(141,_)]) ⟨I,I,I,I,I,I,I,I,I,trivial⟩ (zH ?_)))))))))))));refine zIG I (uZ (zH (vN (zP (zF (mv I I (gv (aZ (k:=.u64) (q:=1) (W:=18446744073709551616) I I I I oM oM) I (asg I I (zX (zH (zP (zF (mv I I ?_)))))))))))));refine mv I I (mv I I (gv (qX (q:=1) I I oM oM) I (gv (zU (n-1) underlying27 sizeOf124 I I C oM oM) I (gv (xY isAgg124 I C oM) I (gv (vG (k:=.u32) (k':=.u64) (W:=18446744073709551616) underlying124 underlying125 I I I oM) I (gv (tW (k:=.u64) (W:=18446744073709551616) I I I I oM) I (asg I I (zX (vM (e':=[(4,_),(9,_),(10,_),(11,_),(12,_),(13,_),(15,_),(16,_)]) e8 (zH (zP (zF (mv I I ?_)))))))))))));refine gv (pW (k:=.u64) (q:=4294967296) I I) I (zX (zH ?_));refine cnd (λad=>?_) λad=>?_
    ·
     refine gX (zKB I (uV (gW ?_)));refine zS (x-1) ?_ e7 I I;obtain⟨b1,b2⟩:=zIK (x:=x-1) ao hW ba bt (zBE ak ae) ad am oM;exact⟨b1,by rw[Nat.sub_add_cancel ae];exact aj,by omega⟩
    refine uZ (rB ?_);refine gqL (x-1,r+vs.getD (n-1) 0) ?_ ?_
    · exact⟨zBE ak ae,by rw[Nat.sub_add_cancel ae];exact aj,by omega⟩
    omega
   refine zJ 24 _ [] [(0,.q),(1,.q),(2,.q),(3,.q),(4,.q),(5,.q),(6,.q),(7,.q),(8,.q),(9,.q),(10,.q),(11,.q),(12,.q),(13,.q),(14,.q),(15,.q),(16,.q),(17,.q),(18,.q),(19,.q),(20,.q),(21,.q),(22,.q),(23,.q)] yA nX zor nX (λr hr=>hr) (qL I I I (wC I (λ_ _=>pW (k:=.u64) (q:=4294967296) I I) I (wC I (λ_ _=>yY (v:=.bool false) (congrArg some (yM hg))) I (yS I I I (λh' L' hh hR=>yY I) I (yS I I I (λh' L' hh hR=>yY I) I (yS I I I (λh' L' hh hR=>yY I) I (yS I I I (λh' L' hh hR=>qX (q:=2) I I oM oM) I (yS I I I (λh' L' hh hR=>zU (n-2) underlying27 sizeOf124 I I (C.mono hh) oM oM) I (yS I I I (λh' L' hh hR=>xY isAgg124 I (C.mono hh) oM) I (yS I I I (λh' L' hh hR=>vG (k:=.u32) (k':=.u64) (W:=18446744073709551616) underlying124 underlying125 I I I oM) I (yS I I I (λh' L' hh hR=>iE (k:=.u64) (W:=18446744073709551616) I I I I oM) I (yS I I I (λh' L' hh hR=>yY I) I (yS I I I (λh' L' hh hR=>fF (k:=.u64) (s:=32) (yk:=.u64) (W:=18446744073709551616) I I I I) I ?_)))))))))))));refine yS I I I (λh' L' hh hR=>yY I) I (yS I I I (λh' L' hh hR=>yY I) I (yS I I I (λh' L' hh hR=>yY I) I (yS I I I (λh' L' hh hR=>zQ I I oM oM) I (yS I I I (λh' L' hh hR=>qX (q:=2) I I oM oM) I (yS I I I (λh' L' hh hR=>gO (hR _ mh1) (J-1+n-2) underlying27 sizeOf124 I I oM oM) I (yS I I I (λh' L' hh hR=>sL (hR _ mh1) isAgg124 I oM) I (yS I I I (λh' L' hh hR=>vG (k:=.u32) (k':=.u64) (W:=18446744073709551616) underlying124 underlying125 I I I oM) I (yS I I I (λh' L' hh hR=>rM (k:=.u64) I I I (by simp only[ub];omega) (by simp only[ub];omega)) I ?_))))))));rw[pX oM oM];refine yS I I I (λh' L' hh hR=>mL (k:=.u64) I I) I (wC I (λ_ _=>cV I I) I (cM (vM (e':=[(4,_),(9,_),(10,_),(11,_),(12,_),(13,_),(15,_),(16,_),(141,_)]) ⟨I,I,I,I,I,I,I,I,I,trivial⟩ (zH ?_))));refine cnd (λan=>?_) λan=>?_
   ·
    have ae:1<=x:=Nat.pos_of_ne_zero λh0=>by rw[h0,Nat.zero_mul] at an;omega
    have aj:val (us.drop (J-1))<x*V:=yCW ao hW cn ak an;refine uZ (zH (vN (zP (zF (mv I I (gv (aZ (k:=.u64) (q:=1) (W:=18446744073709551616) I I I I oM oM) I (asg I I (zX (zH (zP (zF (mv I I (mv I I ?_)))))))))))));refine mv I I (gv (qX (q:=1) I I oM oM) I (gv (zU (n-1) underlying27 sizeOf124 I I C oM oM) I (gv (xY isAgg124 I C oM) I (gv (vG (k:=.u32) (k':=.u64) (W:=18446744073709551616) underlying124 underlying125 I I I oM) I (gv (tW (k:=.u64) (W:=18446744073709551616) I I I I oM) I (asg I I (zX (vM (e':=[(4,_),(9,_),(10,_),(11,_),(12,_),(13,_),(15,_),(16,_)]) e8 (zH (zP (zF (mv I I (gv (pW (k:=.u64) (q:=4294967296) I I) I ?_)))))))))))));refine zX (zH ?_);refine cnd (λad=>?_) λad=>?_
    ·
     refine gX (zKB I (uV (gW ?_)));refine zS (x-1) ?_ e7 I I;obtain⟨b1,b2⟩:=zIK (x:=x-1) ao hW ba bt (zBE ak ae) ad am oM;exact⟨b1,by rw[Nat.sub_add_cancel ae];exact aj,by omega⟩
    refine uZ (rB ?_);refine gqL (x-1,r+vs.getD (n-1) 0) ?_ ?_
    · exact⟨zBE ak ae,by rw[Nat.sub_add_cancel ae];exact aj,by omega⟩
    omega
   refine gX (uV (uV (gW ?_)));refine zS (x) ?_ e7 I I;exact⟨by omega,eb,zY5 ao hW ba oM ak oM oM⟩
  rintro x1 ⟨cm,cj,ck⟩
  refine xC ?_;refine zP (zF (asg (v:=vU .u64 0) I I (asg (v:=vU .u64 0) I I (zX (zH (zP (zP (zF (mv I I (gv (vD underlying27 I C) I ?_))))))))));rw[av];refine mv (v:=vI (0)) I I (zX (zH (vN ?_)));refine kX (ι:=Nat×List Nat×Nat×Nat) (λ(i,ts,b,c)=>i<=n/\ts.length=la+1/\Fit ts/\c<4294967296/\b<=1/\val ts+4294967296^(J-1)*(x1*val (vs.take i))=val us+4294967296^(J-1+i)*(c+b)/\∀k,J-1+i<=k->ts.getD k 0=us.getD k 0) (λ(i,ts,b,c)=>[(4,M),(9,vI ↑s),(10,O),(11,ai),(12,vI ↑n),(13,vI (↑J-1)),(15,vU .u64 x1),(17,vU .u64 b),(18,vU .u64 c),(154,ai),(155,vI ↑n),(156,vI ↑i)]) (λ(i,ts,b,c)=>[.us 124 .u32 M (gS J qs),.us 124 .u32 O ts]) (λ(i,ts,b,c)=>h8) (λ(i,ts,b,c)=>n-i) (0,us,0,0) ?_ ⟨I,I,I,I,I,I,I,I,I,I,I,I,trivial⟩ I I ?_
  · exact⟨by omega,eg,aa,by omega,by omega,by simp[val],λ_ _=>I⟩
  rintro⟨i,ts,b,c⟩ ⟨dk,cq,bm,gk,gn,bd,ct⟩
  refine xC ?_;refine zP (zF (gv (yJ I I) I (zX (zH (zP ?_)))));refine cnd (λcf=>?_) λcf=>?_
  ·
   refine uZ (zH (zP (vN (zP (zF (mv I I (gv (zU _ underlying27 sizeOf124 I I C I oM) I (gv (xY isAgg124 I C oM) I ?_))))))));have dz:=C.get32 i;have fx:x1*vs.getD i 0<=4294967295*4294967295:=Nat.mul_le_mul oM oM;refine asg I I (asg I I (zX (zH (zP (zF (mv I I (mv I I (mv I I (gv (vG (k:=.u32) (k':=.u64) (W:=18446744073709551616) underlying124 underlying125 I I I oM) I (gv (iE (k:=.u64) (W:=18446744073709551616) I I I I oM) I (gv (tW (k:=.u64) (W:=18446744073709551616) I I I I oM) I (asg I I (zX ?_)))))))))))));refine vM (e':=[(4,_),(9,_),(10,_),(11,_),(12,_),(13,_),(15,_),(17,_),(154,_),(155,_),(156,_),(19,_),(18,_)]) ⟨I,I,I,I,I,I,I,I,I,I,I,I,I,trivial⟩ (zH (zP (zF (mv I I (mv I I (mv I I (gv (zQ I I oM oM) I (gv (yZ (A:=[_]) (J-1+i) underlying27 sizeOf124 I I oM oM) I (gv (fP (A:=[_]) isAgg124 I oM) I ?_)))))))));have bw:=qR bm (J-1+i);refine gv (vG (k:=.u32) (k':=.u64) (W:=18446744073709551616) underlying124 underlying125 I I I oM) I (mv I I (gv (zWZ (k:=.u64) (q:=4294967295) I I I (by simp only[ub];omega) (by simp only[ub];omega)) I ?_));rw[zZ0];refine gv (mH (k:=.u64) (W:=18446744073709551616) I I I I oM) I (mv I I (gv (mH (k:=.u64) (W:=18446744073709551616) I I I I oM) I (asg I I (zX (vM (e':=[(4,_),(9,_),(10,_),(11,_),(12,_),(13,_),(15,_),(154,_),(155,_),(156,_),(19,_),(18,_),(21,_)]) ⟨I,I,I,I,I,I,I,I,I,I,I,I,I,trivial⟩ (zH (zP (zF (mv I I (mv I I (mv I I (gv (zQ I I oM oM) I (mv I I ?_)))))))))))));refine gv (fX (k:=.u64) (k':=.u32) (W:=4294967296) underlying125 underlying124 I I I) I (gv (yZ (A:=[_]) (J-1+i) underlying27 sizeOf124 I I oM oM) I (rC sizeOf124 I I oM (zX (zH (zP (zF (mv I I (gv (fE (k:=.u64) (s:=63) (yk:=.u64) I I I (by simp only[ub];omega)) I (asg I I (zX (vM (e':=[(4,_),(9,_),(10,_),(11,_),(12,_),(13,_),(15,_),(154,_),(155,_),(156,_),(18,_),(17,_)]) ⟨I,I,I,I,I,I,I,I,I,I,I,I,trivial⟩ (zH (zF ?_)))))))))))));refine mv I I (gv (fE (k:=.u64) (s:=32) (yk:=.u64) I I I (by simp only[ub];omega)) I (asg I I (zX (rB (zH (zF (gv (zQ (q:=1) I I oM oM) I (mv I I (zX ?_)))))))));generalize hX:ts.getD (J-1+i) 0=X at *;generalize hY:vs.getD i 0=Y at *;refine jP (i+1,ts.set (J-1+i) (((X+18446744073709551616-(c+x1*Y)%4294967296)%18446744073709551616+18446744073709551616-b)%18446744073709551616%4294967296),((X+18446744073709551616-(c+x1*Y)%4294967296)%18446744073709551616+18446744073709551616-b)%18446744073709551616/2^63,(c+x1*Y)/2^32) ?_ ?_ ⟨I,I,I,I,I,I,I,I,I,I,I,I,trivial⟩ I I
   ·
    refine⟨by omega,by simp[cq],nM bm _ oM,by omega,by omega,?_,λk hk=>?_⟩
    · have h1:=lZ (xs:=ts) (i:=J-1+i) oM (((X+18446744073709551616-(c+x1*Y)%4294967296)%18446744073709551616+18446744073709551616-b)%18446744073709551616%4294967296)
      rw[hX] at h1;rw[uQ vs i oM,hY,<-Nat.add_assoc (J-1),Nat.pow_succ,Nat.pow_add];rw[Nat.pow_add] at h1 bd;exact yB2 (l:=(c+x1*Y)%4294967296) bd h1 oM oM
    · rw[jH oM];exact ct k oM
   dsimp only;omega
  refine gX (uV (uV (gW (zH (zP (zF (mv I I (mv I I (mv I I (gv (zQ I I oM oM) I (gv (yZ (A:=[_]) (J-1+n) underlying27 sizeOf124 I I oM oM) I (gv (fP (A:=[_]) isAgg124 I oM) I ?_))))))))))));have bw:=qR bm (J-1+n);refine gv (vG (k:=.u32) (k':=.u64) (W:=18446744073709551616) underlying124 underlying125 I I I oM) I (mv I I (gv (mH (k:=.u64) (W:=18446744073709551616) I I I I oM) I (mv I I (gv (mH (k:=.u64) (W:=18446744073709551616) I I I I oM) I ?_))));obtain⟨d2,es⟩:∃d,d=((ts.getD (J-1+n) 0+18446744073709551616-c)%18446744073709551616+18446744073709551616-b)%18446744073709551616:=⟨_,I⟩;rw[<-es];refine asg I I (zX (vM (e':=[(4,_),(9,_),(10,_),(11,_),(12,_),(13,_),(15,_),(22,_)]) e8 (zH (zP (zF (mv I I (mv I I (mv I I (gv (zQ I I oM oM) I (mv I I (gv (fX (k:=.u64) (k':=.u32) (W:=4294967296) underlying125 underlying124 I I I) I (gv (yZ (A:=[_]) (J-1+n) underlying27 sizeOf124 I I oM oM) I (rC sizeOf124 I I oM ?_)))))))))))));have dk:i=n:=by omega
  rw[dk,wD oM,az] at bd;have co:=lZ (xs:=ts) (i:=J-1+n) oM (d2%4294967296);have bp:(ts.set (J-1+n) (d2%4294967296)).length=la+1:=by simp[cq]
  have au:Fit (ts.set (J-1+n) (d2%4294967296)):=nM bm _ oM;have ch:∀k,J-1+n+1<=k->(ts.set (J-1+n) (d2%4294967296)).getD k 0=0:=λk hk=>by rw[jH oM,ct k oM];exact ci k oM
  generalize ts.set (J-1+n) (d2%4294967296)=ts2 at *;have ab:val ts2+4294967296^(J-1)*(x1*V)=val us+4294967296^(J-1+n+1)*(d2/2^63):=by
   rw[Nat.pow_succ,Nat.pow_add];rw[Nat.pow_add] at co bd;exact yHE bd co oM
  have dh:=eV au ch;refine zX (zH ?_);refine jI (ι:=Nat×List Nat) (λ(x2,rs)=>x2<4294967296/\rs.length=la+1/\Fit rs/\val rs+4294967296^(J-1)*(x2*V)=val us/\val (rs.drop (J-1))<V) (λ(x2,rs)=>[(4,M),(9,vI ↑s),(10,O),(11,ai),(12,vI ↑n),(13,vI (↑J-1)),(15,vU .u64 x2)]) (λ(x2,rs)=>[.us 124 .u32 M (gS J qs),.us 124 .u32 O rs]) (λ(x2,rs)=>h8) ?_ ?_
  ·
   refine zP (zF (mv I I (gv (fE (k:=.u64) (s:=63) (yk:=.u64) I I I (by simp only[ub];omega)) I (gv (tI (k:=.u64) (q:=0) I I) I (zX (vM (e':=[(4,_),(9,_),(10,_),(11,_),(12,_),(13,_),(15,_),(211,_)]) e8 (zH ?_)))))));refine cnd (λce=>?_) λce=>?_
   ·
    have fe:1<=x1:=Nat.pos_of_ne_zero λh0=>by
     have cg:d2/2^63=1:=by omega
     rw[h0,cg,Nat.zero_mul,Nat.mul_zero,Nat.mul_one] at ab;omega
    refine zP (zF (mv I I (gv (aZ (k:=.u64) (q:=1) (W:=18446744073709551616) I I I I oM oM) I (asg I I (zX (zH (zP (zF (asg (v:=vU .u64 0) I I (zX (zH (zP (zP ?_)))))))))))));refine zF (mv I I (gv (vD underlying27 I C) I ?_));rw[av];refine mv (v:=vI (0)) I I (zX (zH (vN ?_)));refine gcL (ι:=Nat×List Nat×Nat) (λ(i2,rs,c2)=>(i2<=n/\rs.length=la+1/\Fit rs/\c2<=1/\val rs+4294967296^(J-1+i2)*c2=val ts2+4294967296^(J-1)*val (vs.take i2)/\∀k,J-1+i2<=k->rs.getD k 0=ts2.getD k 0,[(4,M),(9,vI ↑s),(10,O),(11,ai),(12,vI ↑n),(13,vI (↑J-1)),(15,vU .u64 (x1-1)),(18,vU .u64 c2),(214,ai),(215,vI ↑n),(216,vI ↑i2)],[.us 124 .u32 M (gS J qs),.us 124 .u32 O rs],h8,n-i2)) (0,ts2,0) ?_ ?_
    · exact⟨by omega,bp,au,by omega,by simp[val],λ_ _=>I⟩
    rintro⟨i2,rs,c2⟩ ⟨hi2,bh,aw,gm,bg,cv⟩
    refine xC ?_;refine zP (zF (gv (yJ I I) I (zX (zH (zP ?_)))));refine cnd (λcd=>?_) λcd=>?_
    ·
     refine uZ (zH (zP (vN (zP (zF (mv I I (gv (zU _ underlying27 sizeOf124 I I C I oM) I (gv (xY isAgg124 I C oM) I ?_))))))));have dz:=C.get32 i2;refine asg I I (asg I I (zX (zH (zP (zF (mv I I (mv I I (mv I I (mv I I (gv (zQ I I oM oM) I (gv (yZ (A:=[_]) (J-1+i2) underlying27 sizeOf124 I I oM oM) I (gv (fP (A:=[_]) isAgg124 I oM) I ?_))))))))))));have bw:=qR aw (J-1+i2);refine gv (vG (k:=.u32) (k':=.u64) (W:=18446744073709551616) underlying124 underlying125 I I I oM) I (mv I I (gv (vG (k:=.u32) (k':=.u64) (W:=18446744073709551616) underlying124 underlying125 I I I oM) I (gv (tW (k:=.u64) (W:=18446744073709551616) I I I I oM) I (gv (tW (k:=.u64) (W:=18446744073709551616) I I I I oM) I (asg I I (zX (vM (e':=[(4,_),(9,_),(10,_),(11,_),(12,_),(13,_),(15,_),(214,_),(215,_),(216,_),(23,_),(18,_)]) ⟨I,I,I,I,I,I,I,I,I,I,I,I,trivial⟩ (zH (zP (zF (mv I I (mv I I (mv I I ?_)))))))))))));refine gv (zQ I I oM oM) I (mv I I (gv (fX (k:=.u64) (k':=.u32) (W:=4294967296) underlying125 underlying124 I I I) I (gv (yZ (A:=[_]) (J-1+i2) underlying27 sizeOf124 I I oM oM) I (rC sizeOf124 I I oM (zX (zH (zF (mv I I (gv (fE (k:=.u64) (s:=32) (yk:=.u64) I I I (by simp only[ub];omega)) I (asg I I (zX (rB (vM (e':=[(4,_),(9,_),(10,_),(11,_),(12,_),(13,_),(15,_),(214,_),(215,_),(216,_),(18,_)]) ⟨I,I,I,I,I,I,I,I,I,I,I,trivial⟩ ?_)))))))))))));refine zH (zF (gv (zQ (q:=1) I I oM oM) I (mv I I (zX ?_))));generalize hX:rs.getD (J-1+i2) 0=X at *;generalize hY:vs.getD i2 0=Y at *;refine gqL (i2+1,rs.set (J-1+i2) ((c2+(X+Y))%4294967296),(c2+(X+Y))/2^32) ?_ ?_
     ·
      refine⟨by omega,by simp[bh],nM aw _ oM,by omega,?_,λk hk=>?_⟩
      · have h1:=lZ (xs:=rs) (i:=J-1+i2) oM ((c2+(X+Y))%4294967296)
        rw[hX] at h1;rw[uQ vs i2 oM,hY,<-Nat.add_assoc (J-1),Nat.pow_succ,Nat.pow_add];rw[Nat.pow_add] at h1 bg;exact yDB bg h1 oM
      · rw[jH oM];exact cv k oM
     omega
    refine gX (uV (uV (gW (zH (zF (mv I I (mv I I (mv I I (gv (zQ I I oM oM) I (gv (yZ (A:=[_]) (J-1+n) underlying27 sizeOf124 I I oM oM) I (gv (fP (A:=[_]) isAgg124 I oM) I (mv I I (gv (fX (k:=.u64) (k':=.u32) (W:=4294967296) underlying125 underlying124 I I I) I ?_)))))))))))));have bw:=qR aw (J-1+n);refine gv (zTA (k:=.u32) (W:=4294967296) I I I I) I (gv (yZ (A:=[_]) (J-1+n) underlying27 sizeOf124 I I oM oM) I (rC sizeOf124 I I oM (zX ?_)));generalize hX:rs.getD (J-1+n) 0=X at *;refine zS (x1-1,rs.set (J-1+n) ((X+c2%4294967296)%4294967296)) ?_ e7 I I;have dj:i2=n:=by omega
    rw[dj,wD oM,az] at bg;have h1:=lZ (xs:=rs) (i:=J-1+n) oM ((X+c2%4294967296)%4294967296);rw[hX] at h1;have be:Fit (rs.set (J-1+n) ((X+c2%4294967296)%4294967296)):=nM aw _ oM;have dy:∀k,J-1+n+1<=k->(rs.set (J-1+n) ((X+c2%4294967296)%4294967296)).getD k 0=0:=λk hk=>by
     rw[jH oM,cv k oM];exact ch k hk
    have ho:val (rs.set (J-1+n) ((X+c2%4294967296)%4294967296))+4294967296^(J-1+n+1)*((X+c2)/4294967296)=val ts2+4294967296^(J-1)*V:=by
     rw[Nat.pow_succ,Nat.pow_add];rw[Nat.pow_add] at h1 bg;exact yJT bg h1 oM
    obtain⟨z1,z2,z3⟩:=zSZ aa be dh (eV be dy) (b:=d2/2^63) oM ab ck ho oM;exact⟨by omega,by simp[bh],be,z2,z3⟩
   refine uZ ?_;refine zS (x1,ts2) ?_ e7 I I;have dv:d2/2^63=0:=by omega
   rw[dv,Nat.mul_zero,Nat.add_zero] at ab;exact⟨cm,bp,au,ab,zEV aa au ab cj⟩
  rintro⟨x2,rs⟩ ⟨cl,bh,aw,eh,cw⟩
  refine xC ?_;refine zF (mv I I (mv I I (mv I I (gv (vG (k:=.u64) (k':=.u32) (W:=4294967296) underlying125 underlying124 I I I oM) I (gv (yZ (A:=[]) (J-1) underlying27 sizeOf124 I I oM (by rw[jB];omega)) I (wQ sizeOf124 I I (by rw[jB];omega) (zX (rB (zH (zF (mv I I (gv (qX (q:=1) I I oM oM) I (asg I I ?_)))))))))))));refine zX ?_;refine jP (J-1,rs,x2::qs) ?_ ?_ ⟨I,I,I,I,I,?_,trivial⟩ ?_ I
  ·
   refine⟨by omega,by simp only[lC];omega,rG.2 ⟨cl,dq⟩,bh,aw,?_,cw⟩;have eJ:(4294967296:Nat)^J=4294967296^(J-1)*4294967296:=by rw[<-Nat.pow_succ,Nat.succ_eq_add_one,Nat.sub_add_cancel hJ]
   rw[eJ] at ap;exact yGV ap eh
  ·
   dsimp only;omega
  · exact congrArg some (congrArg vI oM)
  try dsimp only[List.nil_append,List.cons_append]
  rw[lL oM]
 refine gX (uV (uV (gW (zH (zP ?_)))));have ez:J=0:=by omega
 subst ez;rw[bX];rw[List.drop_zero] at ca;rw[Nat.pow_zero,Nat.one_mul] at ap;have ek:(zB (val us)).length<=us.length:=uU aa;refine zF (mv I I ?_);refine zKF (R:=λh r=>r=fO 1 O 0 (zB (val us)).length/\Us .u32 h r (zB (val us))) (vs:=[_]) I I I I call196 ⟨I,trivial⟩ (λw hw=>jO (MLe.refl _) (hw.own_us (A:=[_]) aa)) ?_
 rintro fc ⟨_,dx,_⟩
 subst dx;refine zUA (A:=[_]) (zB (val us)).length ek ?_;rw[zEL aa];generalize fO 1 O 0 (zB (val us)).length=vr;have ax:=wK (val us);have ey:=zD (val us);generalize zB (val us)=Rs at *;refine asg I I (zX (zH (zP (zP (zF (mv I I (gv (rT (A:=[_]) underlying27 I) I (mv (v:=vI (0)) I I (zX (zH (vN ?_)))))))))));refine kX (ι:=Nat) (λ(k:(Nat))=>k<=Rs.length) (λ(k:(Nat))=>[(4,M),(5,vr),(9,vI ↑s),(261,vI ↑Rs.length),(262,vI ↑k)]) (λ(k:(Nat))=>[.us 124 .u32 M qs,.us 124 .u32 vr (w6 s Rs k)]) (λ(k:(Nat))=>h8) (λ(k:(Nat))=>Rs.length-k) 0 ?_ e5z ?_ I ?_
 · exact Nat.zero_le _
 ·
  try dsimp only[List.nil_append,List.cons_append]
  exact congrArg (λz=>[Res.us 124 .u32 M qs,Res.us 124 .u32 vr z]) (zSQ s Rs)
 rintro k hk
 refine xC ?_;refine zP (zF (gv (yJ I I) I (zX (zH (zP ?_)))));refine cnd (λcc=>?_) λcc=>?_
 ·
  refine uZ (zH ?_);refine jI (ι:=Unit) (λ(_u:(Unit))=>True) (λ(_u:(Unit))=>[(4,M),(5,vr),(9,vI ↑s),(261,vI ↑Rs.length),(262,vI ↑k)]) (λ(_u:(Unit))=>[.us 124 .u32 M qs,.us 124 .u32 vr (w6 s Rs (k+1))]) (λ(_u:(Unit))=>h8) ?_ ?_
  ·
   refine vN (zP (zF (mv I I (asg I I (zX (zH (zP (zF (mv I I (mv I I (gv (yZ (A:=[_]) (k) underlying27 sizeOf124 I I oM (by rw[tF oM];omega)) I (gv (fP (A:=[_]) isAgg124 I (by rw[tF oM];omega)) I ?_))))))))))));rw[zK9 (Nat.le_refl _)];have eo:=qR ax k;refine mv I I (gv (fE (k:=.u32) (s:=s) (yk:=.i64) I I I (by simp only[ub];omega)) I ?_);have gb:Rs.getD k 0/2^s<4294967296:=Nat.lt_of_le_of_lt (Nat.div_le_self _ _) eo;refine gv (yZ (A:=[_]) (k) underlying27 sizeOf124 I I oM (by rw[tF oM];omega)) I (rC sizeOf124 I I (by rw[tF oM];omega) (zX (zH (zP (zF (mv I I (gv (mM (q:=0) I I) I ?_)))))));refine gU 7 280 (vB (((0:Int)<↑s)/\((↑k:Int)+1<↑Rs.length))) ?_ ?_
   ·
    refine zW ((0:Int)<↑s) (λhg=>?_) (λhg=>?_)
    ·
     refine gT hg I (y5 I I I (mv I I (y5 I I I (gv (zQ (q:=1) I I oM oM) I (y5 I I I (mv I I (y5 I I I (gv (rT (A:=[_]) underlying27 I) I ?_))))))));rw[lS,tF oM];refine y5 I I I (gv (yJ I I) I (gv (cT I I) I (zX (gqU ?_))));exact congrArg some (xH hg)
    refine gF hg I (nT I I I I I I (nT I I I I I I (nT I I I I I I (nT I I I I I I (nT I I I I I I (gv (cV I I) I (zX (gqU ?_))))))));exact congrArg some (xJ hg)
   refine zX (zH ?_);refine cnd (λcb=>?_) λcb=>?_
   ·
    refine zJ 14 _ [] [(0,.q),(1,.q),(2,.q),(3,.q),(4,.q),(5,.q),(6,.q),(7,.q),(8,.q),(9,.q),(10,.q),(11,.q),(12,.q),(13,.q),(14,.t)] yA nX zor nX (λr hr=>hr) (qL I I I (qL I I I (w_q I (λh' L' hh hR=>gO (hR _ mh1) (k) underlying27 sizeOf124 I I oM (by rw[lS,tF oM];omega)) I (w_q I (λh' L' hh hR=>sL (hR _ mh1) isAgg124 I (by rw[lS,tF oM];omega)) I ?_))));rw[zHC (by rw[tF oM];omega)];refine qL I I I (qL I I I (wC I (λ_ _=>zQ (q:=1) I I oM oM) I (w_q I (λh' L' hh hR=>gO (hR _ mh1) (k+1) underlying27 sizeOf124 I I oM (by rw[lS,tF oM];omega)) I (w_q I (λh' L' hh hR=>sL (hR _ mh1) isAgg124 I (by rw[lS,tF oM];omega)) I ?_))));rw[jH oM,zK9 oM];refine qL I I I (wC I (λ_ _=>qX (p:=32) I I oM oM) I ?_);rw[show((32:Int)-↑s)=↑(32-s) by omega];refine wC I (λ_ _=>fF (k:=.u32) (s:=32-s) (yk:=.i64) (W:=4294967296) I I I I) I (wC I (λ_ _=>rM (k:=.u32) I I I (by simp only[ub];omega) (by simp only[ub];omega)) I ?_);rw[yA6 ax oM oM];refine w_q I (λh' L' hh hR=>gO (hR _ mh1) (k) underlying27 sizeOf124 I I oM (by rw[lS,tF oM];omega)) I (bA (A:=[_]) I (z5 sizeOf124 I I (by rw[lS,tF oM];omega)) I (cM (rB ?_)));refine zS (()) ?_ e5z ?_ I
    · trivial
    try dsimp only[List.nil_append,List.cons_append]
    rw[List.set_set,zK8 oM];try rfl
   refine uZ (rB ?_);have bz:Rs.getD k 0/2^s=eZ s Rs k:=by
    by_cases h0:s=0
    · rw[h0,zSR ax oM,Nat.pow_zero,Nat.div_one]
    · exact(zST ax oM).symm
   refine zS (()) ?_ e5z ?_ I
   · trivial
   try dsimp only[List.nil_append,List.cons_append]
   rw[bz,zK8 oM]
  rintro _u fj
  refine xC ?_;refine zF (gv (zQ (q:=1) I I oM oM) I (mv I I (zX ?_)));refine jP (k+1) ?_ ?_ e5z I I
  · omega
  omega
 refine gX (uV (uV (gW (zH (zP (zF (mv I I (yR (by exact dq) ?_))))))));intro h9 gg hq;refine cL (ev1 I) call196 (λw hs=>jO hs hq) λfb gu fi Z=>?_;replace Z:=Z.2;refine mv I I (yR (by exact zY2 ax) ?_);intro gt dn ei;refine cL (ev1 I) call196 (λw hs=>jO hs ei) λfa gs dm ac=>?_;replace ac:=ac.2;refine asg I I (asg I I (asg (v:=vI (0)) I I (zX (zH (lJ (qN I I I I ?_))))));replace Z:=Z.mono (dn.trans dm);have el:k=Rs.length:=by omega
 rw[el,zU3 ax,ey] at ac;obtain⟨e1,e2⟩:=zRR (X:=val xs) (Y:=val ys) (s:=s) (u:=val us) (q:=val qs) oM (by rw[<-hV,<-hU];exact ap) (by rw[<-hV];exact ca);rw[e1] at Z;rw[e2] at ac;rw[if_neg ay,if_neg ay];exact⟨_,_,I,Z,ac⟩
theorem tH{v:Value}{xs:List Nat}(hv:Us .u32 h0 v xs)(hl:xs.length<=17592186044416):
 Calls Tryz.prog 92 #[v] w0 (Ret w0 h0 (λh r=>Us .u32 h r (zB (val xs)))):=by
 refine cb1 23 v func92 hs ?_;refine sG ?_;refine gcL (ι:=Nat) (λ(k:(Nat))=>(k<=xs.length/\∀i,k<=i->xs.getD i 0=0,[(0,v),(3,vI ↑k)],[],h0,k)) xs.length ?_ ?_
 · exact⟨Nat.le_refl _,λi hi=>by rw[zoa,List.getElem?_eq_none hi];rfl⟩
 rintro k ⟨hk,hz⟩
 refine xC ?_;refine go5 ?_;refine gU 8 15 (vB (((0:Int)<↑k)/\(xs.getD (k-1) 0=0))) ?_ ?_
 ·
  refine zW ((0:Int)<↑k) (λM=>?_) (λM=>?_)
  ·
   refine gT M I (go7 ?_);refine gv (zU (k-1) underlying27 sizeOf124 I I hv oM oM) I (go3 ?_);refine gv (fG (k:=.u32) (q:=0) I I) I (go2 ?_);refine gqU ?_;exact congrArg some (xH M)
  refine gF M I (go8 ?_);refine gqU ?_;exact congrArg some (xJ M)
 refine gc2 (λC=>?_) λC=>?_
 ·
  refine go9 ?_;refine gqL (k-1) ?_ ?_ (he:=⟨I,?_,trivial⟩)
  ·
   exact⟨by omega,λi hi=>by
    by_cases e:i=k-1
    · rw[e];exact C.2
    · exact hz i oM⟩
  · have:=C.1;omega
  · exact congrArg some (congrArg vI (by have:=C.1;omega))
 refine go7 ?_;refine zK (zFQ (kd:=.u32) underlying27 uH I I) I I I ?_;intro Z ab J;obtain rfl:=J;refine go2 ?_;refine gv (u4 _ underlying27 sizeOf124 I I hv.shape I oM) I ?_;have D:=hv.sub (lo:=0) (hi:=_) oM oM;refine xR (A:=[]) (gN (kd:=.u32) (bytes:=4) underlying27 uH I I I I I D (by simp;omega) (by simp;omega)) I I I ?_;intro U aa H;obtain rfl:=H;rw[List.nil_append,List.drop_zero,Nat.sub_zero];refine yR (by exact fM hv.lt k) ?_;intro h1 O ho;refine go4 ?_;refine zC I I ?_;replace hv:=hv.mono O;have e:xs.take k=zB (val xs):=zHL hv.lt hk hz (by
  by_cases h0:k=0
  · exact .inl h0
  · exact .inr λh1=>C ⟨by omega,h1⟩)
 rw[<-e];exact ho
theorem yB1{v v':Value}{xs ys:List Nat}(hv:Us .u32 h0 v xs)(hv':Us .u32 h0 v' ys)(hl:xs.length<=1099511627776)(hl':ys.length<=1099511627776):
 Calls Tryz.prog 189 #[v,v'] w0 (Ret w0 h0 (λh r=>Us .u32 h r (zB (Nat.gcd (val xs) (val ys))))):=by
 have bx:=uU hv.lt;have bw:=uU hv'.lt;obtain⟨G,hG⟩:∃G,G=Nat.gcd (val xs) (val ys):=⟨_,I⟩;rw[<-hG];refine cb2 61 v v' func189 hs ?_;refine go8 ?_;refine cL (ev1 I) call196 (λw hs=>jO hs hv) λbt h1 bg Z=>?_;replace Z:=Z.2;refine jJ (vs:=[_]) I I I I call207 ⟨I,trivial⟩ (λw hs=>zEQ hs Z oM) ?_;intro ar h2 ch bf aj;obtain rfl:=aj;refine yR (by exact wK _) ?_;intro h3 be bj;refine go1 ?_;replace hv':=hv'.mono ((bg.trans bf).trans be);refine cL (ev1 I) call196 (λw hs=>jO hs hv') λbs h4 cf U=>?_;replace U:=U.2;refine jJ (vs:=[_]) I I I I call207 ⟨I,trivial⟩ (λw hs=>zEQ hs U oM) ?_;intro aq h5 cg ce ai;obtain rfl:=ai;refine yR (by exact wK _) ?_;intro h6 cd bi;refine go6 ?_;refine gcL (ι:=Value×Nat×Value×Nat×Mem) (λ(vx,X,vy,Y,k1)=>(MLe h6 k1/\(Us .u32 k1 vx (zB X)/\Us .u32 k1 vy (zB Y)/\Nat.gcd X Y=G/\(zB X).length<=1099511627776/\(zB Y).length<=1099511627776),[(5,vx),(6,vy)],[],k1,Y)) (ar,val xs,aq,val ys,h6) ?_ ?_
 · exact⟨mle,bj.up,bi,hG.symm,by omega,by omega⟩
 rintro⟨vx,X,vy,Y,k1⟩ ⟨bm,⟨ha,hb,hg,ca,bd⟩⟩
 refine xC ?_;refine gc8 (λap=>?_) λap=>?_
 ·
  refine go7 ?_;have H:Y≠0:=yQ.1 oM;refine cL (ev2 I I) call190 (λw hs=>zDX hs ha hb oM oM) λbr h7 aa D=>?_;obtain⟨bv,av,rfl,am,D⟩:=D;simp only[zD] at am D;rw[if_neg H] at D;have bc:=yL (Nat.le_of_lt (Nat.mod_lt X (Nat.pos_of_ne_zero H)));refine k7 ?_;refine gqL (vy,Y,av,X%Y,h7) ?_ ?_
  · exact⟨mle,hb.up,D,by rw[mQ];exact hg,bd,by omega⟩
  exact Nat.mod_lt _ (Nat.pos_of_ne_zero H)
 refine pQ ?_;refine cnd (λao=>?_) λao=>?_
 ·
  have H:Y=0:=Classical.byContradiction λba=>by have:=yQ.2 ba;omega
  refine go8 ?_;refine zC I I ?_;rw[H,Nat.gcd_zero_right] at hg;rw[<-hg];exact ha
 have H:Y≠0:=yQ.1 oM;refine go2 ?_;refine jI (ι:=Value×Nat×Value×Nat×Mem) (λ(O,X2,M,Y2,k2)=>MLe k1 k2/\(Us .u32 k2 O (zB X2)/\Us .u32 k2 M (zB Y2)/\Nat.gcd X2 Y2=G/\(zB X2).length<=2/\(zB Y2).length<=2)) (λ(O,X2,M,Y2,k2)=>[(5,O),(6,M)]) (λ(O,X2,M,Y2,k2)=>[]) (λ(O,X2,M,Y2,k2)=>k2) ?_ ?_
 ·
  refine gc7 (λan=>?_) λan=>?_
  ·
   refine go4 ?_;refine cL (ev2 I I) call190 (λw hs=>zDX hs ha hb oM oM) λbq h7 aa C=>?_;obtain⟨bu,au,rfl,ak,C⟩:=C;simp only[zD] at ak C;rw[if_neg H] at C;have bc:=yL (Nat.le_of_lt (Nat.mod_lt X (Nat.pos_of_ne_zero H)));refine pP ?_;refine zS (vy,Y,au,X%Y,h7) ?_ e2z I I;refine⟨aa,?_⟩;replace hb:=hb.mono aa;exact⟨hb,C,by rw[mQ];exact hg,by omega,by omega⟩
  refine go1 ?_;refine zS (vx,X,vy,Y,k1) ?_ e2z I I;refine⟨MLe.refl _,?_⟩;exact⟨ha,hb,hg,by omega,by omega⟩
 rintro⟨O,X2,M,Y2,k2⟩ ⟨bl,⟨bk,ac,bh,ax,aw⟩⟩
 refine xC ?_;refine go3 ?_;refine cL (ev1 I) call208 (λw hs=>zMH hs bk oM) λbp h7 aa ah=>?_;subst ah;rw[zD];have az:=nH ax;refine go1 ?_;replace ac:=ac.mono aa;refine cL (ev1 I) call208 (λw hs=>zMH hs ac oM) λbo h8 cc ae=>?_;subst ae;rw[zD];have ay:=nH aw;refine go6 ?_;refine gcL (ι:=Nat×Nat) (λ(m,n)=>(Nat.gcd m n=G/\m<18446744073709551616/\n<18446744073709551616,[(13,vU .u64 m),(14,vU .u64 n)],[],h8,n)) (X2,Y2) ?_ ?_
 · exact⟨bh,az,ay⟩
 rintro⟨m,n⟩ ⟨ab,hm,hn⟩
 refine xC ?_;refine go4 ?_;refine gv (tI (k:=.u64) (q:=0) I I) I (gc2 (λJ=>?_) λJ=>?_)
 ·
  refine go3 ?_;refine zJ 6 _ [] [(0,.q),(1,.q),(2,.q),(3,.q),(4,.q),(5,.q)] yA nX zor nX (λr hr=>hr) (go3 ?_);refine wC I (λ_ _=>bR (k:=.u64) I I oM) I (go4 ?_);refine gqL (n,m%n) ?_ ?_
  ·
   have bz:=Nat.mod_lt m (Nat.pos_of_ne_zero J);exact⟨by rw[mQ];exact ab,hn,by omega⟩
  exact Nat.mod_lt _ (Nat.pos_of_ne_zero J)
 refine go8 ?_;refine cL (ev1 I) call192 (λw hs=>nat_of hs oM) λbn h9 cb ad=>(go4 ?_);refine zC I I ?_;have bb:n=0:=Classical.not_not.1 J;rw[bb,Nat.gcd_zero_right] at ab;rw[<-ab];exact ad
theorem w8{n:Nat}(hn:n<18446744073709551616):
 Calls Tryz.prog 96 #[vU .u64 n] w0 (Ret w0 h0 (λh r=>Us .u32 h r (zB n))):=by
 refine cb1 10 (vU .u64 n) func96 hs ?_;refine qE ?_;refine zK (zFP (kd:=.u32) underlying27 uH I I I I) I I I ?_;intro U Z D;obtain rfl:=D;refine yR (by intro x hx;simp only[List.mem_cons,List.not_mem_nil,or_false] at hx;simp only[ub];omega) ?_;intro h1 J M;refine cL (ev1 I) call92 (λw hs=>tH hs M zoy) λO h2 H C=>(go4 ?_);refine zC I I ?_;have e:val [n%4294967296,n/2^32%4294967296]=n:=by simp only[val];omega
 rw[e] at C;exact C
theorem oE{v v':Value}{X Y:Nat}(hv:Us .u32 h0 v (zB X))(hv':Us .u32 h0 v' (zB Y)):
 Calls Tryz.prog 49 #[v,v'] w0 (Ret w0 h0 (λ_ r=>r=vI (rI X Y))):=by
 have U:=zD X;have D:=zD Y;generalize hA:zB X=AA at *;generalize hB:zB Y=BB at *;have fA:Fit AA:=hv.lt;have fB:Fit BB:=hv'.lt;have lA:=hv.lt63;have lB:=hv'.lt63;refine cb2 41 v v' func49 hs ?_;refine qI ?_;refine gv (vD underlying27 I hv') I (gc3 (λO=>?_) λO=>?_)
 ·
  refine go6 ?_;refine gv (vD underlying27 I hv') I (gc3 (λM=>?_) λM=>?_)
  ·
   refine go8 ?_;refine zC I I ?_;rw[zBI (rN (by rw[hA,hB];omega))]
  refine go9 ?_;refine zC I I ?_;rw[zBJ (rN (by rw[hA,hB];omega))]
 have hl:AA.length=BB.length:=by omega
 refine qE ?_;refine gcL (ι:=Nat) (λ(j:(Nat))=>(j<=AA.length/\AA.drop j=BB.drop j,[(0,v),(1,v'),(5,vI (↑j-1))],[],h0,j)) AA.length ?_ ?_
 · exact⟨Nat.le_refl _,by rw[List.drop_of_length_le (Nat.le_refl _),List.drop_of_length_le oM]⟩
 rintro j ⟨hj,hd⟩
 refine xC ?_;refine gc7 (λJ=>?_) λJ=>?_
 ·
  refine go6 ?_;refine zJ 9 _ [] [(0,.q),(1,.q),(2,.q),(3,.q),(4,.q),(5,.q),(6,.q),(7,.q),(8,.q)] yA nX zor nX (λr Z=>Z) (go2 ?_);refine w_q I (λh' L' hh hR=>zU (j-1) underlying27 sizeOf124 I I (hv.mono hh) oM oM) I (w_q I (λh' L' hh hR=>xY isAgg124 I (hv.mono hh) oM) I (go2 ?_));refine w_q I (λh' L' hh hR=>zU (j-1) underlying27 sizeOf124 I I (hv'.mono hh) oM oM) I (w_q I (λh' L' hh hR=>xY isAgg124 I (hv'.mono hh) oM) I (gc3 (λC=>?_) λC=>?_))
  ·
   refine qE ?_;refine zC I I ?_;rw[<-U,<-D,zBI (zDR fA hl oM hj hd C)]
  refine go3 ?_;refine zJ 9 _ [] [(0,.q),(1,.q),(2,.q),(3,.q),(4,.q),(5,.q),(6,.q),(7,.q),(8,.q)] yA nX zor nX (λr Z=>Z) (go2 ?_);refine w_q I (λh' L' hh hR=>zU (j-1) underlying27 sizeOf124 I I (hv.mono hh) oM oM) I (w_q I (λh' L' hh hR=>xY isAgg124 I (hv.mono hh) oM) I (go2 ?_));refine w_q I (λh' L' hh hR=>zU (j-1) underlying27 sizeOf124 I I (hv'.mono hh) oM oM) I (w_q I (λh' L' hh hR=>xY isAgg124 I (hv'.mono hh) oM) I (gc3 (λH=>?_) λH=>?_))
  ·
   refine qI ?_;refine zC I I ?_;rw[<-U,<-D,zBJ (zDR fB hl.symm oM oM hd.symm oM)]
  refine go8 ?_;refine gqL (j-1) ?_ ?_ (he:=⟨I,I,?_,trivial⟩)
  ·
   refine⟨by omega,?_⟩;rw[tD AA (j-1) oM,tD BB (j-1) oM];have e:j-1+1=j:=by omega
   rw[e,hd,Classical.not_not.1 (show ¬¬AA.getD (j-1) 0=BB.getD (j-1) 0 by omega)]
  · omega
  · exact congrArg some (congrArg vI oM)
 refine qI ?_;refine zC I I ?_;have h0:j=0:=by omega
 subst h0;simp only[List.drop_zero] at hd;rw[<-U,<-D,hd,zRX]
theorem zWD{v:Value}{X:Nat}(hv:Us .u32 h0 v (zB X))(hl:(zB X).length<=1099511627776):
 Calls Tryz.prog 169 #[v] w0 (Ret w0 h0 (λ_ r=>r=vI ↑(uD X))):=by
 refine cb1 25 v func169 hs ?_;refine pQ ?_;refine cnd (λU=>?_) λU=>?_
 ·
  refine go7 ?_;refine zC I I ?_;have h0:X=0:=Classical.byContradiction λO=>by have:=yQ.2 O;omega
  rw[h0];rfl
 have H:0<(zB X).length:=by omega
 have hb:=zCU (wK X) (k:=(zB X).length-1) oM (sP H);rw[zD] at hb;refine go7 ?_;refine gv (gJ (p:=32) I I oM oM) I (uK ?_);refine gv (zU ((zB X).length-1) underlying27 sizeOf124 I I hv oM oM) I (go1 ?_);have D:=hv.get32 ((zB X).length-1);refine go4 ?_;refine gcL (ι:=Nat×Nat) (λ(c,x)=>(x<4294967296/\uD ((zB X).getD ((zB X).length-1) 0)=c+uD x/\c<=32,[(3,vI (32*(↑(zB X).length-1)+↑c)),(4,vU .u32 x)],[],h0,x)) (0,(zB X).getD ((zB X).length-1) 0) ?_ ?_ (he:=⟨congrArg some (congrArg vI oM),I,trivial⟩)
 · exact⟨D,by omega,by omega⟩
 rintro⟨c,x⟩ ⟨hx,J,Z⟩
 refine xC ?_;have aa:=mW (n:=(zB X).getD ((zB X).length-1) 0) (k:=32) D;refine go4 ?_;refine gv (tI (k:=.u32) (q:=0) I I) I (gc2 (λC=>?_) λC=>?_)
 ·
  refine pQ ?_;refine gv (fE (k:=.u32) (s:=1) (yk:=.u64) I I I (by simp only[ub];omega)) I (go2 ?_);refine gqL (c+1,x/2^1) ?_ ?_ (he:=⟨congrArg some (congrArg vI oM),I,trivial⟩)
  ·
   have h1:=zP7 C;exact⟨by omega,by rw[J,h1,show x/2^1=x/2 from I];omega,by omega⟩
  omega
 refine qE ?_;refine zC I I ?_;have M:x=0:=Classical.not_not.1 C;rw[M,zP6] at J;exact congrArg vI oM
theorem yBG{v v':Value}{X Y:Nat}(hv:Us .u32 h0 v (zB X))(hv':Us .u32 h0 v' (zB Y))(hl:(zB X).length<=1099511627776)(hl':(zB Y).length<=1099511627776):
 Calls Tryz.prog 83 #[v,v'] w0 (Ret w0 h0 (λh r=>Us .u32 h r (zB (X+Y)))):=by
 have ay:=yL (Nat.le_add_right X Y);have ax:=yL (Nat.le_add_left Y X);have aw:=kJ X Y;refine cb2 54 v v' func83 hs ?_;refine go7 ?_;refine oY (pK (v:=.slice none 0 0) I) I I I (zCJ (E:=124) (k:=.u32) (go4 ?_));refine asg (v:=vU .u64 0) I I (go9 ?_);refine gcL (ι:=Value×List Nat×Nat×Mem) (λ(U,C,c,k1)=>(MLe h0 k1/\(C.length<=(zB (X+Y)).length/\Fit C/\c<=1/\val C+4294967296^C.length*c=val ((zB X).take C.length)+val ((zB Y).take C.length)),[(0,v),(1,v'),(5,U),(6,vU .u64 c),(7,vI ↑C.length)],[.us 124 .u32 U C],k1,(zB (X+Y)).length-C.length)) (.slice none 0 0,[],0,h0) ?_ ?_
 · exact⟨mle,by simp,λx hx=>by simp at hx,by omega,by simp[val]⟩
 rintro⟨U,C,c,k1⟩ ⟨H,⟨aj,Z,az,O⟩⟩
 refine xC ?_;replace hv:=hv.mono H;replace hv':=hv'.mono H;have av:=hv.get32 C.length;have au:=hv'.get32 C.length;refine go7 ?_;refine gU 6 17 (vB (((↑C.length:Int)<↑(zB X).length)\/((↑C.length:Int)<↑(zB Y).length))) ?_ ?_
 ·
  refine zW ((↑C.length:Int)<↑(zB X).length) (λJ=>?_) (λJ=>?_)
  ·
   refine gT J I (go6 ?_);refine gqU ?_;exact congrArg some (vS J)
  refine gF J I (go5 ?_);refine gv (vD underlying27 I hv') I (go4 ?_);refine gqU ?_;exact congrArg some (vT J)
 refine gU 4 21 (vB (((↑C.length:Int)<↑(zB X).length\/(↑C.length:Int)<↑(zB Y).length)\/(c≠0))) ?_ ?_
 ·
  refine zW ((↑C.length:Int)<↑(zB X).length\/(↑C.length:Int)<↑(zB Y).length) (λJ=>?_) (λJ=>?_)
  ·
   refine gT J I (go4 ?_);refine gqU ?_;exact congrArg some (vS J)
  refine gF J I (go3 ?_);refine gv (tI (k:=.u64) (q:=0) I I) I (go2 ?_);refine gqU ?_;exact congrArg some (vT J)
 refine gc2 (λD=>?_) λD=>?_
 ·
  refine go4 ?_;refine jI (ι:=Unit) (λ(M:(Unit))=>True) (λ(M:(Unit))=>[(0,v),(1,v'),(5,U),(6,vU .u64 (c+(zB X).getD C.length 0)),(7,vI ↑C.length)]) (λ(M:(Unit))=>[.us 124 .u32 U C]) (λ(M:(Unit))=>k1) ?_ ?_
  ·
   refine gc8 (λah=>?_) λah=>?_
   ·
    refine go4 ?_;refine gv (zU (C.length) underlying27 sizeOf124 I I hv oM oM) I (go5 ?_);refine zS (()) ?_ e5z I I
    trivial
   refine go1 ?_;refine zS (()) ?_ ⟨I,I,I,?_,I,trivial⟩ I I
   · trivial
   · exact congrArg some (congrArg (vU .u64) (by rw[sJ (xs:=zB X) oM];omega))
  rintro M ad
  refine xC ?_;refine jI (ι:=Unit) (λ(M:(Unit))=>True) (λ(M:(Unit))=>[(0,v),(1,v'),(5,U),(6,vU .u64 (c+(zB X).getD C.length 0+(zB Y).getD C.length 0)),(7,vI ↑C.length)]) (λ(M:(Unit))=>[.us 124 .u32 U C]) (λ(M:(Unit))=>k1) ?_ ?_
  ·
   refine go4 ?_;refine gv (vD underlying27 I hv') I (gc3 (λae=>?_) λae=>?_)
   ·
    refine go4 ?_;refine gv (zU (C.length) underlying27 sizeOf124 I I hv' oM oM) I (gv (xY isAgg124 I hv' oM) I (go4 ?_));refine zS (()) ?_ e5z I I
    trivial
   refine go1 ?_;refine zS (()) ?_ ⟨I,I,I,?_,I,trivial⟩ I I
   · trivial
   · exact congrArg some (congrArg (vU .u64) (by rw[sJ (xs:=zB Y) oM];omega))
  rintro M ad
  refine xC ?_;refine go5 ?_;refine zK (rX (kd:=.u32) underlying27 uH I I I) I I I ?_;intro ap ar ab;obtain rfl:=ab;refine yR (by intro z hz;simp only[List.mem_singleton] at hz;subst hz;simp only[ub];omega) ?_;intro h1 ac am;refine xR (A:=[]) (gN (kd:=.u32) (bytes:=4) underlying27 uH I I I I I am zo5 zo5) I I I ?_;intro ai aq aa;obtain rfl:=aa;refine pP ?_;generalize ao:(zB X).getD C.length 0=p at *;generalize an:(zB Y).getD C.length 0=q at *;have ak:C.length<(zB (X+Y)).length:=by
   rcases D with(h|h)|h
   · omega
   · omega
   · by_cases h1:C.length<(zB X).length
     · omega
     · by_cases h2:C.length<(zB Y).length
       · omega
       · rw[wD oM,wD oM,zD,zD] at O
         refine zA1 ?_;have:=Nat.le_mul_of_pos_right (4294967296^C.length) (Nat.pos_of_ne_zero h);omega
  refine gqL (ai,C++[(c+p+q)%4294967296],(c+p+q)/2^32,h1) ?_ ?_ (he:=⟨I,I,I,I,congrArg some (congrArg vI zoy),trivial⟩)
  ·
   refine⟨(H.trans ac),?_⟩;refine⟨by simp;omega,uL Z (aJ oM),by omega,?_⟩;rw[lAz,List.length_singleton,uA,uA,ao,an,sV,Nat.pow_succ];have e:=Nat.div_add_mod (c+p+q) 4294967296;rw[show(2:Nat)^32=4294967296 from I];generalize (c+p+q)/4294967296=s at *;generalize (c+p+q)%4294967296=r at *;grind
  simp;omega
 refine go8 ?_;refine yR (by exact Z) ?_;intro h1 ac ho;refine go4 ?_;refine zC I I ?_;have h1:¬C.length<(zB X).length:=λh=>D (.inl (.inl oM));have h2:¬C.length<(zB Y).length:=λh=>D (.inl (.inr oM));have h3:c=0:=Classical.byContradiction λh=>D (.inr h);rw[wD oM,wD oM,zD,zD,h3] at O;have e:val C=X+Y:=by omega
 rw[<-e,zMP Z (by rw[e];exact aj)];exact ho
theorem zB0{v v':Value}{X Y:Nat}(hv:Us .u32 h0 v (zB X))(hv':Us .u32 h0 v' (zB Y))(hle:Y<=X)(hl:(zB X).length<=1099511627776):
 Calls Tryz.prog 128 #[v,v'] w0 (Ret w0 h0 (λh r=>Us .u32 h r (zB (X-Y)))):=by
 have am:=yL hle;refine cb2 50 v v' func128 hs ?_;refine go9 ?_;refine qU (kd:=.u32) (by':=4) _ underlying27 uH I I I I I I I oM oM I ?_;intro D;refine go5 ?_;refine asg (v:=vU .u64 0) I I (go9 ?_);refine kX (ι:=List Nat×Nat) (λ(C,c)=>C.length<=(zB X).length/\Fit C/\c<=1/\val C+val ((zB Y).take C.length)=val ((zB X).take C.length)+4294967296^C.length*c) (λ(C,c)=>[(0,v),(1,v'),(5,D),(6,vU .u64 c),(7,vI ↑C.length)]) (λ(C,c)=>[.us 124 .u32 D (tO C (zB X).length)]) (λ(C,c)=>h0) (λ(C,c)=>(zB X).length-C.length) ([],0) ?_ e5z I I ?_
 · exact⟨by simp,λx hx=>by simp at hx,by omega,by simp[val]⟩
 rintro⟨C,c⟩ ⟨aj,J,ar,M⟩
 refine xC ?_;have ai:=hv.get32 C.length;have ah:=hv'.get32 C.length;refine gc9 (λZ=>?_) λZ=>?_
 ·
  refine uK ?_;refine jI (ι:=Unit) (λ(_u:(Unit))=>True) (λ(_u:(Unit))=>[(0,v),(1,v'),(5,D),(7,vI ↑C.length),(8,vU .u64 (c+(zB Y).getD C.length 0))]) (λ(_u:(Unit))=>[.us 124 .u32 D (tO C (zB X).length)]) (λ(_u:(Unit))=>h0) ?_ ?_
  ·
   refine go4 ?_;refine gv (vD underlying27 I hv') I (gc3 (λU=>?_) λU=>?_)
   ·
    refine go4 ?_;refine gv (zU (C.length) underlying27 sizeOf124 I I hv' oM oM) I (gv (xY isAgg124 I hv' oM) I (go4 ?_));refine zS (()) ?_ e5z I I
    trivial
   refine go1 ?_;refine zS (()) ?_ ⟨I,I,I,I,?_,trivial⟩ I I
   · trivial
   · exact congrArg some (congrArg (vU .u64) (by rw[sJ (xs:=zB Y) oM];omega))
  rintro _u ad
  refine xC ?_;refine go4 ?_;refine gv (zU (C.length) underlying27 sizeOf124 I I hv oM oM) I (go7 ?_);refine asg (v:=vU .u64 0) I I (go2 ?_);refine jI (ι:=Nat) (λ(d:(Nat))=>d<=1/\c+(zB Y).getD C.length 0<=(zB X).getD C.length 0+4294967296*d/\(zB X).getD C.length 0+4294967296*d<c+(zB Y).getD C.length 0+4294967296) (λ(d:(Nat))=>[(0,v),(1,v'),(5,D),(6,vU .u64 d),(7,vI ↑C.length),(8,vU .u64 (c+(zB Y).getD C.length 0)),(9,vU .u64 ((zB X).getD C.length 0+4294967296*d))]) (λ(d:(Nat))=>[.us 124 .u32 D (tO C (zB X).length)]) (λ(d:(Nat))=>h0) ?_ ?_
  ·
   refine gc7 (λO=>?_) λO=>?_
   ·
    refine go3 ?_;refine gv (tW (k:=.u64) (q:=4294967296) (W:=18446744073709551616) I I I I oM) I (go4 ?_);refine asg (v:=vU .u64 1) I I (go1 ?_);refine zS (1) ?_ e7 I I;exact⟨by omega,by omega,by omega⟩
   refine go1 ?_;refine zS (0) ?_ e7 I I;exact⟨by omega,by omega,by omega⟩
  rintro d ⟨aa,aq,ap⟩
  refine xC ?_;refine go5 ?_;refine gv (aZ (k:=.u64) (W:=18446744073709551616) I I I I oM oM) I (gv (vG (k:=.u64) (k':=.u32) (W:=4294967296) underlying125 underlying124 I I I oM) I (gv (yZ (A:=[]) (C.length) underlying27 sizeOf124 I I oM (by rw[uC oM];omega)) I (wQ sizeOf124 I I (by rw[uC oM];omega) (go8 ?_))));generalize ac:(zB X).getD C.length 0=p at *;generalize ab:(zB Y).getD C.length 0=q at *;refine jP (C++[p+4294967296*d-(c+q)],d) ?_ ?_ ⟨I,I,I,I,?_,trivial⟩ ?_ I
  ·
   refine⟨by simp;omega,uL J (aJ oM),aa,?_⟩;rw[lAz,List.length_singleton,uA,uA,ac,ab,sV,Nat.pow_succ];have e:p+4294967296*d-(c+q)+c+q=p+4294967296*d:=by omega
   generalize p+4294967296*d-(c+q)=r at *;grind
  ·
   dsimp only;simp;omega
  · exact congrArg some (congrArg vI zoy)
  try dsimp only[List.nil_append,List.cons_append]
  rw[pE oM]
 refine go8 ?_;have hk:C.length=(zB X).length:=by omega
 rw[bW hk];refine yR (by exact J) ?_;intro h1 ao ho;refine cL (ev1 I) call92 (λw hs=>tH hs ho oM) λae h2 an H=>(go4 ?_);refine zC I I ?_;have hk:C.length=(zB X).length:=by omega
 rw[wD oM,wD oM,zD,zD] at M;have h1:=kQ J;have h2:c=0:=Classical.byContradiction λak=>by
  have:c=1:=by omega
  subst this;omega
 subst h2;have e:val C=X-Y:=by omega
 rw[e] at H;exact H
theorem zQR{v v':Value}{X Y:Nat}(hv:Us .u32 h0 v (zB X))(hv':Us .u32 h0 v' (zB Y))(hl:(zB X).length<=1099511627776):
 Calls Tryz.prog 84 #[v,v'] w0 (Ret w0 h0 (λh r=>∃u,r=.tuple #[u,vI (if X<Y then 7 else 0)]/\Us .u32 h u (zB (X-Y)))):=by
 refine cb2 13 v v' func84 hs ?_;refine qI ?_;refine cL (ev2 I I) call49 (λw hs=>oE hs hv hv') λv8 h1 J M=>?_;subst M;refine gc3 (λC=>?_) λC=>?_
 ·
  have H:=rH.1 C;refine go8 ?_;refine wL I I I ?_;rw[if_pos H,Nat.sub_eq_zero_of_le (Nat.le_of_lt H),xL];exact⟨_,I,Us.nil _ _⟩
 have Z:Y<=X:=Nat.le_of_not_lt λhc=>C (rH.2 hc);refine go6 ?_;replace hv:=hv.mono J;replace hv':=hv'.mono J;refine cL (ev2 I I) call128 (λw hs=>zB0 hs hv hv' oM oM) λO h2 U D=>(go5 ?_);refine wL I I I ?_;rw[if_neg oM];exact⟨_,I,D⟩
theorem bD{v v':Value}{xs ys:List Nat}(hv:Us .u32 h0 v xs)(hv':Us .u32 h0 v' ys)(hl:xs.length<=1099511627776)(hl':ys.length<=1099511627776):
 Calls Tryz.prog 50 #[v,v'] w0 (Ret w0 h0 (λh r=>Us .u32 h r (zB (val xs*val ys)))):=by
 have ar:Fit xs:=hv.lt;have aq:Fit ys:=hv'.lt;refine cb2 67 v v' func50 hs ?_;refine uK ?_;refine gv (vD underlying27 I hv') I (go1 ?_);refine qU (kd:=.u32) (by':=4) (xs.length+ys.length) underlying27 uH I I I I I oM oM oM oM I ?_;intro D;refine uK ?_;refine gcL (ι:=Nat×List Nat) (λ(k,H)=>(k<=xs.length/\H.length=xs.length+ys.length/\Fit H/\val H=val (xs.take k)*val ys/\∀i,k+ys.length<=i->H.getD i 0=0,[(0,v),(1,v'),(5,D),(6,vI ↑k)],[.us 124 .u32 D H],h0,xs.length-k)) (0,List.replicate (xs.length+ys.length) 0) ?_ ?_
 · exact⟨Nat.zero_le _,by simp,jX _,by rw[bC];simp[val],λi _=>iQ _ _⟩
 rintro⟨k,H⟩ ⟨hk,ae,ab,U,hz⟩
 refine xC ?_;refine gc9 (λad=>?_) λad=>?_
 ·
  refine go6 ?_;refine asg (v:=vU .u64 0) I I (go9 ?_);refine gcL (ι:=Nat×List Nat×Nat) (λ(j,C,c)=>(j<=ys.length/\C.length=xs.length+ys.length/\Fit C/\c<4294967296/\val C+4294967296^(k+j)*c=val H+4294967296^k*(xs.getD k 0*val (ys.take j))/\∀i,k+ys.length<=i->C.getD i 0=0,[(0,v),(1,v'),(5,D),(6,vI ↑k),(7,vU .u64 c),(8,vI ↑j)],[.us 124 .u32 D C],h0,ys.length-j)) (0,H,0) ?_ ?_
  · exact⟨Nat.zero_le _,ae,ab,by omega,by simp[val],hz⟩
  rintro⟨j,C,c⟩ ⟨hj,aa,O,ah,Z,M⟩
  refine xC ?_;have an:=hv.get32 k;have am:=hv'.get32 j;have ak:=qR O (k+j);have aj:xs.getD k 0*ys.getD j 0<=4294967295*4294967295:=Nat.mul_le_mul oM oM;refine go5 ?_;refine gv (vD underlying27 I hv') I (gc3 (λac=>?_) λac=>?_)
  ·
   refine go5 ?_;refine zJ 22 _ [] [(0,.q),(1,.q),(2,.q),(3,.q),(4,.q),(5,.q),(6,.q),(7,.q),(8,.q),(9,.q),(10,.q),(11,.q),(12,.q),(13,.q),(14,.q),(15,.q),(16,.q),(17,.q),(18,.q),(19,.q),(20,.q),(21,.q)] yA nX zor nX (λr hr=>hr) (go3 ?_);refine w_q I (λh' L' hh hR=>zU (k) underlying27 sizeOf124 I I (hv.mono hh) oM oM) I (w_q I (λh' L' hh hR=>xY isAgg124 I (hv.mono hh) oM) I (go3 ?_));refine w_q I (λh' L' hh hR=>zU (j) underlying27 sizeOf124 I I (hv'.mono hh) oM oM) I (w_q I (λh' L' hh hR=>xY isAgg124 I (hv'.mono hh) oM) I (go6 ?_));refine w_q I (λh' L' hh hR=>gO (hR _ mh0) (k+j) underlying27 sizeOf124 I I oM oM) I (w_q I (λh' L' hh hR=>sL (hR _ mh0) isAgg124 I oM) I (sG ?_));refine gv (yZ (A:=[]) (k+j) underlying27 sizeOf124 I I oM oM) I (wQ sizeOf124 I I oM (sG ?_));refine gqL (j+1,C.set (k+j) ((c+(xs.getD k 0*ys.getD j 0+C.getD (k+j) 0))%4294967296),(c+(xs.getD k 0*ys.getD j 0+C.getD (k+j) 0))/2^32) ?_ ?_
   ·
    refine⟨by omega,by simp[aa],nM O _ oM,by omega,?_,λi hi=>?_⟩
    · have h1:=lZ (xs:=C) (i:=k+j) oM ((c+(xs.getD k 0*ys.getD j 0+C.getD (k+j) 0))%4294967296)
      have e:=Nat.div_add_mod (c+(xs.getD k 0*ys.getD j 0+C.getD (k+j) 0)) 4294967296;have e2:(2:Nat)^32=4294967296:=I;rw[uQ ys j oM,e2];have ep:(4294967296:Nat)^(k+(j+1))=4294967296^k*4294967296^j*4294967296:=by rw[<-Nat.add_assoc,Nat.pow_succ,Nat.pow_add]
      rw[ep];rw[Nat.pow_add] at h1 Z;generalize (c+(xs.getD k 0*ys.getD j 0+C.getD (k+j) 0))/4294967296=q at *;generalize (c+(xs.getD k 0*ys.getD j 0+C.getD (k+j) 0))%4294967296=r at *;grind
    · rw[jH oM];exact M i hi
   omega
  refine go9 ?_;refine gv (vD underlying27 I hv') I (go3 ?_);refine gv (yZ (A:=[]) (k+ys.length) underlying27 sizeOf124 I I oM oM) I (wQ sizeOf124 I I oM (go8 ?_));refine gqL (k+1,C.set (k+ys.length) (c%4294967296)) ?_ ?_
  ·
   have hj:j=ys.length:=by omega
   subst hj;refine⟨by omega,by simp[aa],nM O _ oM,?_,λi hi=>?_⟩
   · have h1:=lZ (xs:=C) (i:=k+ys.length) oM (c%4294967296)
     rw[M _ (Nat.le_refl _)] at h1;rw[wD (Nat.le_refl _)] at Z;rw[zoh ah] at h1 ⊢;rw[uQ xs k oM];grind
   · rw[jH oM];exact M i oM
  omega
 refine go8 ?_;refine yR (by exact ab) ?_;intro h1 ap ho;refine cL (ev1 I) call92 (λw hs=>tH hs ho oM) λai h2 ao J=>(go4 ?_);refine zC I I ?_;rw[U,wD oM] at J;exact J
theorem zS2{v:Value}{X d:Nat}(hv:Us .u32 h0 v (zB X))(hd:d<4294967296)(hl:(zB X).length<=1099511627776):
 Calls Tryz.prog 172 #[v,vU .u32 d] w0 (Ret w0 h0 (λh r=>Us .u32 h r (zB (X*d)))):=by
 refine cb2 10 v (vU .u32 d) func172 hs ?_;refine uK ?_;refine cL (ev1 I) call96 (λw hs=>w8 hs oM) λU h1 H D=>?_;have M:=kU (n:=d) oM;replace hv:=hv.mono H;refine cL (ev2 I I) call50 (λw hs=>bD hs hv D oM oM) λO h2 J C=>?_;simp only[zD] at C;refine go4 ?_;refine zC I I ?_;exact C
theorem zEZ{v:Value}{xs:List Nat}{b:Nat}(hv:Us .u32 h0 v xs)(hb:0<b)(hb':b<4294967296)(hl:xs.length<=1099511627776):
 Calls Tryz.prog 168 #[v,vU .u32 b] w0 (Ret w0 h0 (λh r=>∃u,r=.tuple #[u,vU .u32 (val xs%b)]/\Us .u32 h u (zB (val xs/b)))):=by
 have hf:Fit xs:=hv.lt;refine cb2 43 v (vU .u32 b) func168 hs ?_;refine go3 ?_;refine asg (v:=vU .u32 0) I I (go6 ?_);refine qU (kd:=.u32) (by':=4) _ underlying27 uH I I I I I I I oM oM I ?_;intro H;refine go5 ?_;refine asg (v:=vU .u64 0) I I (qE ?_);refine kX (ι:=Nat×List Nat×Nat) (λ(j,D,r)=>j<=xs.length/\D.length=xs.length-j/\Fit D/\r<b/\val (xs.drop j)=b*val D+r) (λ(j,D,r)=>[(0,v),(1,vU .u32 b),(6,H),(7,vU .u64 r),(8,vI (↑j-1))]) (λ(j,D,r)=>[.us 124 .u32 H (gS j D)]) (λ(j,D,r)=>h0) (λ(j,D,r)=>j) (xs.length,[],0) ?_ e5z ?_ I ?_
 · exact⟨Nat.le_refl _,by simp,λx hx=>by simp at hx,hb,by rw[List.drop_of_length_le (Nat.le_refl _)];rfl⟩
 ·
  try dsimp only[List.nil_append,List.cons_append]
  exact congrArg (λz=>[Res.us 124 .u32 H z]) (lM _)
 rintro⟨j,D,r⟩ ⟨hj,ac,M,Z,C⟩
 refine xC ?_;refine gc7 (λO=>?_) λO=>?_
 ·
  refine go7 ?_;refine gv (fF (k:=.u64) (s:=32) (yk:=.u64) (W:=18446744073709551616) I I I I) I (go2 ?_);refine gv (zU (j-1) underlying27 sizeOf124 I I hv oM oM) I (go1 ?_);have U:=hv.get32 (j-1);refine go1 ?_;refine gv (rM (k:=.u64) I I I (by simp only[ub];omega) (by simp only[ub];omega)) I ?_;rw[pX oM U];generalize ht:r*4294967296+xs.getD (j-1) 0=t at *;have hq:t/b<4294967296:=Nat.div_lt_of_lt_mul (by rw[<-ht];have h1:(r+1)*4294967296<=b*4294967296:=Nat.mul_le_mul_right _ Z;omega);refine uK ?_;refine gv (bS (k:=.u64) (W:=18446744073709551616) I I I I oM oM) I (gv (vG (k:=.u64) (k':=.u32) (W:=4294967296) underlying125 underlying124 I I I oM) I (gv (yZ (A:=[]) (j-1) underlying27 sizeOf124 I I oM (by rw[jB];omega)) I (wQ sizeOf124 I I (by rw[jB];omega) (go6 ?_))));refine gv (bR (k:=.u64) I I oM) I (go9 ?_);refine jP (j-1,t/b::D,t%b) ?_ ?_ ⟨I,I,I,I,?_,trivial⟩ ?_ I
  ·
   refine⟨by omega,by simp only[lC];omega,rG.2 ⟨hq,M⟩,Nat.mod_lt _ hb,?_⟩;rw[jY xs (j-1) oM,show j-1+1=j by omega,val];exact zEP C ht.symm I I
  ·
   dsimp only;omega
  · exact congrArg some (congrArg vI oM)
  try dsimp only[List.nil_append,List.cons_append]
  rw[lL oM]
 refine go8 ?_;have aa:j=0:=by omega
 subst aa;rw[bX];refine yR (by exact M) ?_;intro h1 ae ho;refine cL (ev1 I) call92 (λw hs=>tH hs ho oM) λab h2 ad J=>(go1 ?_);refine gv (vG (k:=.u64) (k':=.u32) (W:=4294967296) underlying125 underlying124 I I I oM) I (go5 ?_);refine wL I I I ?_;simp only[List.drop_zero] at C;have e1:val xs/b=val D:=by rw[C,Nat.mul_add_div hb,Nat.div_eq_of_lt Z];omega
 have e2:val xs%b=r:=by rw[C,Nat.mul_add_mod,zoh Z]
 rw[e1,e2];exact⟨_,I,J⟩
theorem zEY{v:Value}{X:Nat}(hv:Us .u32 h0 v (zB X))(hl:(zB X).length<=1099511627776):
 Calls Tryz.prog 177 #[v] w0 (Ret w0 h0 (λ_ r=>r=.string (qJ (txt X)))):=by
 have ar:=zNI (wK X);rw[zD] at ar;refine cb1 65 v func177 hs ?_;refine pQ ?_;refine cnd (λav=>?_) λav=>?_
 ·
  have bi:(zB X).length=0:=by omega
  refine go7 ?_;refine zC I I ?_;have e:X=0:=Classical.byContradiction λaa=>by have:=yQ.2 aa;omega
  rw[e];rfl
 have bk:(zB X).length≠0:=by omega
 refine go4 ?_;refine oY (pK (v:=.slice none 0 0) I) I I I (zCJ (E:=5) (k:=.u8) (go4 ?_));refine kX (ι:=Value×Nat×Value×List Nat×Mem) (λ(va,n,Z,ds,J)=>MLe h0 J/\(Us .u32 J va (zB n)/\n<=X/\ds++dX n=dX (X))) (λ(va,n,Z,ds,J)=>[(0,va),(3,Z)]) (λ(va,n,Z,ds,J)=>[.us 5 .u8 Z ds]) (λ(va,n,Z,ds,J)=>J) (λ(va,n,Z,ds,J)=>n) (v,X,.slice none 0 0,[],h0) ?_ e2z I I ?_
 ·
  refine⟨MLe.refl _,?_⟩;exact⟨hv,Nat.le_refl _,I⟩
 rintro⟨va,n,Z,ds,J⟩ ⟨ai,⟨ha,ao,ab⟩⟩
 refine xC ?_;have bb:(zB n).length<=(zB X).length:=yL ao;refine gc8 (λad=>?_) λad=>?_
 ·
  refine go6 ?_;refine cL (vs:=[_,vU .u32 1000000000]) e2z call168 (λw hs=>zEZ hs ha oM oM oM) λbf h1 ap an=>?_;obtain⟨aj,rfl,D⟩:=an;rw[zD] at D ⊢;refine sG ?_;refine kX (ι:=Nat×Nat×Value×List Nat×Mem) (λ(i,x,M,C,O)=>MLe h1 O/\(i<=9/\x<10^(9-i)/\C++dX (x+10^(9-i)*(n/1000000000))=dX (X))) (λ(i,x,M,C,O)=>[(3,M),(4,aj),(5,vU .u32 x),(6,vI ↑i)]) (λ(i,x,M,C,O)=>[.us 5 .u8 M C]) (λ(i,x,M,C,O)=>O) (λ(i,x,M,C,O)=>9-i) (0,n%1000000000,Z,ds,h1) ?_ e4z I I ?_
  ·
   refine⟨MLe.refl _,?_⟩;exact⟨by omega,by omega,by rw[<-ab];congr 2;omega⟩
  rintro⟨i,x,M,C,O⟩ ⟨H,⟨hi,ah,U⟩⟩
  refine xC ?_;have bj:x<4294967296:=Nat.lt_of_lt_of_le ah (Nat.le_trans (Nat.pow_le_pow_right oM (show 9-i<=9 by omega)) dC);refine go5 ?_;refine gU 9 30 (vB (((i:Int)<9)/\(0<x\/(0:Int)<↑(zB (n/1000000000)).length))) ?_ ?_
  ·
   refine zW ((i:Int)<9) (λhg=>?_) (λhg=>?_)
   ·
    refine gT hg I (go3 ?_);refine gv (mL (k:=.u32) (q:=0) I I) I ?_;refine gU 5 29 (vB ((0<x)\/((0:Int)<↑(zB (n/1000000000)).length))) ?_ ?_
    ·
     refine zW (0<x) (λhg=>?_) (λhg=>?_)
     ·
      refine go1 ?_;refine gT hg I (go6 ?_);refine gqU ?_;exact congrArg some (vS hg)
     refine go1 ?_;refine gF hg I ?_;replace D:=D.mono H;refine go9 ?_;refine gqU ?_;exact congrArg some (vT hg)
    refine go2 ?_;refine gqU ?_;exact congrArg some (xH hg)
   refine gF hg I (go9 ?_);refine gqU ?_;exact congrArg some (xJ hg)
  refine gc2 (λac=>?_) λac=>?_
  ·
   have bc:C.length<=(dX (X)).length:=by rw[<-U];simp
   refine go8 ?_;refine gv (bR (k:=.u32) (q:=10) I I oM) I (gv (tW (k:=.u32) (p:=48) (W:=4294967296) I I I I oM) I (gv (vG (k:=.u32) (k':=.u8) (W:=256) underlying124 underlying5 I I I oM) I (zK (rX (kd:=.u8) underlying215 zRE I I I) I I I ?_)));intro be bh am;obtain rfl:=am;refine yR (by intro z hz;simp only[List.mem_singleton] at hz;subst hz;simp only[ub];omega) ?_;intro h2 az ba;refine xR (A:=[]) (gN (kd:=.u8) (bytes:=1) underlying215 zRE I I I I I ba zo5 zo5) I I I ?_;intro aw bg ak;obtain rfl:=ak;refine go5 ?_;refine gv (bS (k:=.u32) (q:=10) (W:=4294967296) I I I I oM oM) I (go9 ?_);refine jP (i+1,x/10,aw,C++[48+x%10],h2) ?_ ?_ e4z I I
   ·
    refine⟨(H.trans az),?_⟩;obtain⟨h9,hor⟩:=ac;obtain⟨k,hk⟩:∃k,9-i=k+1:=⟨8-i,by omega⟩;have bl:=yQ (n:=n/1000000000);refine⟨by omega,?_,?_⟩
    · rw[show 9-(i+1)=k by omega]
      rw[hk,Nat.pow_succ] at ah;omega
    · rw[show 9-(i+1)=k by omega]
      rw[hk,zUL oM] at U;rw[List.append_assoc];exact U
   dsimp only;omega
  refine uK ?_;refine jP (aj,n/1000000000,M,C,O) ?_ ?_ e2z I I
  ·
   refine⟨((ai.trans ap).trans H),?_⟩;replace D:=D.mono H;refine⟨D,by omega,?_⟩;rw[<-U]
   congr 2
   by_cases h9:i=9
   · subst h9;simp at ah ⊢;omega
   · have h1:¬(0<x\/(0:Int)<↑(zB (n/1000000000)).length):=λh=>ac ⟨by omega,h⟩
     have h2:n/1000000000=0:=Classical.byContradiction λaa=>h1 (.inr (by have:=yQ.2 aa;omega));rw[h2,show x=0 by omega,Nat.mul_zero]
  dsimp only;have:=yQ (n:=n);omega
 have ax:n=0:=Classical.byContradiction λaa=>ad (by have:=yQ.2 aa;omega);subst ax;rw[zIR,List.append_nil] at ab;have bd:ds.length<=10*(zB X).length:=by rw[ab];exact ar
 refine go8 ?_;refine gv (rT (A:=[]) underlying215 I) I (qU (kd:=.u8) (by':=1) (ds.length) underlying215 zRE I I I I I oM oM oM oM I ?_);intro ae;refine uK ?_;refine kX (ι:=Nat) (λ(k:(Nat))=>k<=ds.length) (λ(k:(Nat))=>[(3,Z),(7,ae),(8,vI ↑k)]) (λ(k:(Nat))=>[.us 5 .u8 ae (gS (ds.length-k) (ds.take k).reverse),.us 5 .u8 Z ds]) (λ(k:(Nat))=>J) (λ(k:(Nat))=>ds.length-k) 0 ?_ e3z ?_ I ?_
 · exact Nat.zero_le _
 ·
  try dsimp only[List.nil_append,List.cons_append]
  exact congrArg (λz=>[Res.us 5 .u8 ae z,Res.us 5 .u8 Z ds]) (lM _)
 rintro k hk
 refine xC ?_;refine go5 ?_;refine gv (rT (A:=[_]) underlying215 I) I (gc3 (λau=>?_) λau=>?_)
 ·
  refine go7 ?_;refine gv (rT (A:=[_]) underlying215 I) I (go5 ?_);refine gv (yZ (A:=[_]) (k) underlying215 sizeOf5 I I oM oM) I (gv (fP (A:=[_]) isAgg5 I oM) I (gv (yZ (A:=[]) (ds.length-k-1) underlying215 sizeOf5 I I oM (by rw[jB,List.length_reverse,List.length_take];omega)) I (wQ sizeOf5 I I (by rw[jB,List.length_reverse,List.length_take];omega) (go8 ?_))));refine jP (k+1) ?_ ?_ e3z ?_ I
  · omega
  · omega
  try dsimp only[List.nil_append,List.cons_append]
  rw[lL oM,iZ ds k oM,List.reverse_append,List.reverse_singleton,List.singleton_append,Nat.sub_sub]
 refine go8 ?_;have ay:k=ds.length:=by omega
 rw[ay,Nat.sub_self,bX,List.take_length];refine yR (by intro z hz;rw[ab] at hz;exact zR2 _ z (List.mem_reverse.1 hz)) ?_;intro h1 ap aq;refine gv (zJI underlying215 underlying5 underlying9 I aq) I (go4 ?_);refine zC I I ?_;have e:X≠0:=yQ.1 oM;rw[txt,if_neg e,<-ab]
theorem zWB{v:Value}{X n:Nat}(hv:Us .u32 h0 v (zB X))(hn:n<=16384)(hl:(zB X).length<=1099511627776):
 Calls Tryz.prog 170 #[v,vI ↑n] w0 (Ret w0 h0 (λh r=>Us .u32 h r (zB (X*2^n)))):=by
 obtain⟨s,ba⟩:∃s,s=n%32:=⟨_,I⟩;have hp:2^s<=2147483648:=Nat.pow_le_pow_right (n:=2) oM (show s<=31 by omega);have ak:0<2^s:=Nat.pow_pos oM;refine cb2 40 v (vI ↑n) func170 hs ?_;refine go8 ?_;refine gv (zE6 (q:=32) I I oM oM oM) I (qU (kd:=.u32) (by':=4) (n/32) underlying27 uH I I I I I oM oM oM oM I ?_);intro aj;refine go5 ?_;refine asg (v:=vU .u64 0) I I (go9 ?_);refine kX (ι:=Value×List Nat×Nat×Mem) (λ(M,C,c,O)=>MLe h0 O/\(C.length<=(zB X).length/\Fit C/\c<2^s/\val C+4294967296^C.length*c=val ((zB X).take C.length)*2^s)) (λ(M,C,c,O)=>[(0,v),(1,vI ↑n),(5,M),(6,vU .u64 c),(7,vI ↑C.length)]) (λ(M,C,c,O)=>[.us 124 .u32 M (List.replicate (n/32) 0++C)]) (λ(M,C,c,O)=>O) (λ(M,C,c,O)=>(zB X).length-C.length) (aj,[],0,h0) ?_ e5z ?_ I ?_
 ·
  refine⟨MLe.refl _,?_⟩;exact⟨by simp,λx hx=>by simp at hx,ak,by simp[val]⟩
 ·
  try dsimp only[List.nil_append,List.cons_append]
  rw[List.append_nil]
 rintro⟨M,C,c,O⟩ ⟨J,⟨az,ad,hc,D⟩⟩
 refine xC ?_;replace hv:=hv.mono J;refine gc9 (λah=>?_) λah=>?_
 ·
  refine go9 ?_;refine gv (zU (C.length) underlying27 sizeOf124 I I hv oM oM) I (go1 ?_);have ay:=hv.get32 C.length;have ax:(zB X).getD C.length 0*2^s<18446744073709551616-4294967296:=by
   have:=Nat.mul_le_mul (show(zB X).getD C.length 0<=4294967295 by omega) hp;omega
  refine go2 ?_;refine gv (wF (q:=32) I I oM oM) I ?_;rw[show(↑n:Int)%32=↑s by omega];refine gv (fF (k:=.u64) (s:=s) (yk:=.i64) (W:=18446744073709551616) I I I I) I ?_;rw[zoh oM];refine gv (rM (k:=.u64) I I I (by simp only[ub];omega) (by simp only[ub];omega)) I ?_;rw[zOT hc];refine go8 ?_;refine zK (rX (kd:=.u32) underlying27 uH I I I) I I I ?_;intro aq aw ab;obtain rfl:=ab;refine yR (by intro z hz;simp only[List.mem_singleton] at hz;subst hz;simp only[ub];omega) ?_;intro h1 ac am;refine xR (A:=[]) (gN (kd:=.u32) (bytes:=4) underlying27 uH I I I I I am zo4 zo4) I I I ?_;intro ai av aa;obtain rfl:=aa;refine pP ?_;refine jP (ai,C++[((zB X).getD C.length 0*2^s+c)%4294967296],((zB X).getD C.length 0*2^s+c)/2^32,h1) ?_ ?_ ⟨I,I,I,I,?_,trivial⟩ ?_ I
  ·
   refine⟨(J.trans ac),?_⟩;refine⟨by simp;omega,uL ad (aJ oM),?_,?_⟩
   · refine Nat.div_lt_of_lt_mul ?_
     have:=Nat.mul_le_mul_right (2^s) (show(zB X).getD C.length 0+1<=2^32 by omega);rw[Nat.add_mul] at this;omega
   · have e:=Nat.div_add_mod ((zB X).getD C.length 0*2^s+c) 4294967296
     have e2:(2:Nat)^32=4294967296:=I;rw[lAz,List.length_singleton,uQ (zB X) _ oM,sV,Nat.pow_succ,e2];generalize ((zB X).getD C.length 0*2^s+c)/4294967296=q at *;generalize ((zB X).getD C.length 0*2^s+c)%4294967296=r at *;grind
  ·
   dsimp only;simp;omega
  · exact congrArg some (congrArg vI zoy)
  try dsimp only[List.nil_append,List.cons_append]
  rw[List.append_assoc]
 refine uK ?_;refine zK (rX (kd:=.u32) underlying27 uH I I I) I I I ?_;intro ap au Z;obtain rfl:=Z;refine yR (by intro z hz;simp only[List.mem_singleton] at hz;subst hz;simp only[ub];omega) ?_;intro h1 ac ae;refine xR (A:=[]) (gN (kd:=.u32) (bytes:=4) underlying27 uH I I I I I ae zo4 zo4) I I I ?_;intro ao ar U;obtain rfl:=U;refine yR (by exact uL (uL (jX _) ad) (aJ oM)) ?_;intro h2 bc ho;refine cL (ev1 I) call92 (λw hs=>tH hs ho (by simp;omega)) λan h3 bb H=>(go4 ?_);refine zC I I ?_;have hk:C.length=(zB X).length:=by omega
 rw[wD oM,zD] at D;rw[zoh oM,List.append_assoc,aU,bC,lR,sV,D,zG6,Nat.zero_add,show 32*(n/32)+s=n by omega] at H;exact H
theorem zWC{v:Value}{X n:Nat}(hv:Us .u32 h0 v (zB X))(hn:n<9223372036854775808)(hl:(zB X).length<=1099511627776):
 Calls Tryz.prog 173 #[v,vI ↑n] w0 (Ret w0 h0 (λh r=>Us .u32 h r (zB (X/2^n)))):=by
 obtain⟨s,ai⟩:∃s,s=n%32:=⟨_,I⟩;refine cb2 55 v (vI ↑n) func173 hs ?_;refine go9 ?_;refine gv (zE6 (q:=32) I I oM oM oM) I (gc5 (λaa=>?_) λaa=>?_)
 ·
  refine go7 ?_;refine zC I I ?_;rw[show X/2^n=0 from zKN oM,xL];exact Us.nil _ _
 refine go6 ?_;refine gv (zE6 (q:=32) I I oM oM oM) I ?_;rw[show(↑n:Int)/32=↑(n/32) by omega];refine gv (jC (n/32) underlying27 sizeOf124 I I hv.shape oM oM) I ?_;have D:=hv.sub (lo:=n/32) (hi:=(zB X).length) oM oM;rw[List.take_of_length_le (by rw[List.length_drop];omega)] at D;have ao:(List.drop (n/32) (zB X)).length=(zB X).length-n/32:=List.length_drop;refine go1 ?_;have O:Fit (List.drop (n/32) (zB X)):=iR (wK _) _;have ab:=kG (wK X) (n/32);rw[zD] at ab;obtain⟨vR,ac⟩:∃z,z=fO 1 v (n/32) (zB X).length:=⟨_,I⟩;rw[<-ac] at D ⊢;generalize List.drop (n/32) (zB X)=Rs at *;refine go6 ?_;refine qU (kd:=.u32) (by':=4) (Rs.length) underlying27 uH I I I I I oM oM oM oM I ?_;intro H;refine uK ?_;refine gcL (ι:=List Nat) (λ(C:(List Nat))=>(C.length<=Rs.length/\C=(List.range C.length).map (eZ s Rs),[(0,vR),(1,vI ↑n),(5,H),(6,vI ↑C.length)],[.us 124 .u32 H (tO C Rs.length)],h0,Rs.length-C.length)) [] ?_ ?_
 · exact⟨by simp,I⟩
 rintro C ⟨ah,M⟩
 refine xC ?_;refine gc9 (λZ=>?_) λZ=>?_
 ·
  refine go8 ?_;refine gv (zU (C.length) underlying27 sizeOf124 I I D oM oM) I (go1 ?_);have an:=qR O C.length;have am:=qR O (C.length+1);refine go4 ?_;refine jI (ι:=Unit) (λ(_u:(Unit))=>True) (λ(_u:(Unit))=>[(0,vR),(1,vI ↑n),(5,H),(6,vI ↑C.length),(7,vU .u64 (Rs.getD C.length 0+4294967296*Rs.getD (C.length+1) 0))]) (λ(_u:(Unit))=>[.us 124 .u32 H (tO C Rs.length)]) (λ(_u:(Unit))=>h0) ?_ ?_
  ·
   refine gc9 (λU=>?_) λU=>?_
   ·
    refine go5 ?_;refine gv (zU (C.length+1) underlying27 sizeOf124 I I D oM oM) I (go2 ?_);refine gv (fF (k:=.u64) (s:=32) (yk:=.u64) (W:=18446744073709551616) I I I I) I (gv (rM (k:=.u64) I I I (by simp only[ub];omega) (by simp only[ub];omega)) I ?_);rw[Nat.or_comm,pX oM oM];refine go2 ?_;refine zS (()) ?_ ⟨I,I,I,I,?_,trivial⟩ I I
    · trivial
    · exact congrArg some (congrArg (vU .u64) oM)
   refine go1 ?_;refine zS (()) ?_ ⟨I,I,I,I,?_,trivial⟩ I I
   · trivial
   · exact congrArg some (congrArg (vU .u64) (by rw[sJ (xs:=Rs) (i:=C.length+1) oM];omega))
  rintro _u ad
  refine xC ?_;refine go5 ?_;refine gv (wF (q:=32) I I oM oM) I ?_;rw[show(↑n:Int)%32=↑s by omega];refine gv (fE (k:=.u64) (s:=s) (yk:=.i64) I I I (by simp only[ub];omega)) I (go1 ?_);rw[zVT oM oM];refine gv (yZ (A:=[]) (C.length) underlying27 sizeOf124 I I oM (by rw[uC oM];omega)) I (wQ sizeOf124 I I (by rw[uC oM];omega) (go8 ?_));refine gqL (C++[eZ s Rs C.length]) ?_ ?_ (he:=⟨I,I,I,?_,trivial⟩) (hL:=?_)
  ·
   refine⟨by simp;omega,?_⟩;rw[lAz,List.length_singleton,List.range_succ,List.map_append,List.map_singleton,<-M]
  · simp;omega
  · exact congrArg some (congrArg vI zoy)
  try dsimp only[List.nil_append,List.cons_append]
  rw[pE oM]
 refine go8 ?_;have hk:C.length=Rs.length:=by omega
 rw[bW hk];refine yR (by rw[M];intro z hz;obtain⟨w,_,rfl⟩:=List.mem_map.1 hz;exact zQM s Rs w) ?_;intro h1 ak ho;refine cL (ev1 I) call92 (λw hs=>tH hs ho oM) λae h2 aj J=>(go4 ?_);refine zC I I ?_;rw[M,hk,zSS O,ab,zHD,show 32*(n/32)+s=n by omega] at J;exact J
theorem dG{v:Value}{X:Nat}(hv:Us .u32 h0 v (zB X)):
 Calls Tryz.prog 167 #[v] w0 (Ret w0 h0 (λ_ r=>r=.tuple #[vU .u64 (if(zB X).length<=2 then X else 0),vB ((zB X).length<=2)])):=by
 have Z:=hv.get32 0;have U:=hv.get32 1;have aa:=zD X;have O:=hv.lt63;refine cb1 26 v func167 hs ?_;refine go2 ?_;refine asg (v:=vU .u64 0) I I (oW ?_);refine cnd (λM=>?_) λM=>?_
 ·
  refine go2 ?_;refine asg (v:=vU .u64 0) I I (go6 ?_);refine wL I I I ?_;have h0:X=0:=Classical.byContradiction λH=>by have:=yQ.2 H;omega
  rw[xT oM,if_pos oM,h0]
 refine gc6 (λJ=>?_) λJ=>?_
 ·
  have D:=t7 (xs:=zB X) oM;refine go3 ?_;refine gv (zU (q:=0) (0) underlying27 sizeOf124 I I hv I oM) I (go9 ?_);refine wL I I I ?_;rw[xT oM,if_pos oM,<-D,zD]
 refine gc6 (λC=>?_) λC=>?_
 ·
  refine go1 ?_;refine zJ 12 _ [] [(0,.q),(1,.q),(2,.q),(3,.q),(4,.q),(5,.q),(6,.q),(7,.q),(8,.q),(9,.q),(10,.q),(11,.q)] yA nX zor nX (λr hr=>hr) (go1 ?_);refine w_q I (λh' L' hh hR=>zU (q:=0) (0) underlying27 sizeOf124 I I (hv.mono hh) I oM) I (w_q I (λh' L' hh hR=>xY isAgg124 I (hv.mono hh) oM) I (go2 ?_));refine w_q I (λh' L' hh hR=>zU (q:=1) (1) underlying27 sizeOf124 I I (hv.mono hh) I oM) I (w_q I (λh' L' hh hR=>xY isAgg124 I (hv.mono hh) oM) I (go1 ?_));refine wC I (λ_ _=>fF (k:=.u64) (s:=32) (yk:=.u64) (W:=18446744073709551616) I I I I) I (wC I (λ_ _=>rM (k:=.u64) I I I (by simp only[ub];omega) (by simp only[ub];omega)) I ?_);rw[Nat.or_comm,pX oM oM];refine go7 ?_;refine wL I I I ?_;have h1:=uA (zB X) 1;have h2:=uA (zB X) 0;rw[wD oM,zD] at h1;rw[List.take_zero] at h2;simp only[val,Nat.zero_add] at h2;rw[xT oM,if_pos oM];have e:(zB X).getD 1 0*4294967296+(zB X).getD 0 0=X:=by omega
  rw[e]
 refine go5 ?_;refine asg (v:=vU .u64 0) I I (go4 ?_);refine wL I I I ?_;rw[yM oM,if_neg oM]
theorem zC5{v:Value}{X k:Nat}(hv:Us .u32 h0 v (zB X))(hk:k<=4398046511104)(hl:(zB X).length<=4398046511104):
 Calls Tryz.prog 171 #[v,vI ↑k] w0 (Ret w0 h0 (λh r=>Us .u32 h r (zB (X*4294967296^k)))):=by
 refine cb2 12 v (vI ↑k) func171 hs ?_;refine pQ ?_;refine cnd (λH=>?_) λH=>?_
 ·
  have h0:X=0:=Classical.byContradiction λD=>by have:=yQ.2 D;omega
  refine go7 ?_;refine zC I I ?_;rw[h0,Nat.zero_mul,xL];exact Us.nil _ _
 have h0:X≠0:=yQ.1 oM;refine go5 ?_;refine qU (kd:=.u32) (by':=4) (k) underlying27 uH I I I I I oM oM oM oM I ?_;intro Z;refine go1 ?_;refine xR (A:=[]) (gN (kd:=.u32) (bytes:=4) underlying27 uH I I I I I hv (by rw[lR];omega) (by rw[lR];omega)) I I I ?_;intro J M C;obtain rfl:=C;refine yR (by exact uL (jX _) (wK _)) ?_;intro h1 U O;refine go4 ?_;refine zC I I ?_;rw[<-zMO h0];exact O
end
set_option maxHeartbeats 1000000 in
section
variable{w0:World}{h0:Mem}(hs:MLe h0 (mem w0))
include hs
theorem zJA{v v':Value}{X Y:Nat}(hv:Us .u32 h0 v (zB X))(hv':Us .u32 h0 v' (zB Y))(hl:(zB X).length<=549755813888)(hl':(zB Y).length<=549755813888):
 Calls Tryz.prog 127 #[v,v'] w0 (Ret w0 h0 (λh z=>∃q r,z=.tuple #[q,r,vI (if Y=0 then 3 else 0)]/\Us .u32 h q (zB (X/Y))/\Us .u32 h r (zB (if Y=0 then 0 else X%Y)))):=by
 refine cb2 163 v v' func127 hs ?_;refine qI ?_;refine gv (vD underlying27 I hv') I (gc3 (λck=>?_) λck=>?_)
 ·
  have cq:Y=0:=Classical.byContradiction λcz=>by have:=yQ.2 cz;omega
  refine go9 ?_;refine qN I I I I ?_;rw[cq,Nat.div_zero,if_pos I,if_pos I,xL];exact⟨_,_,I,Us.nil _ _,Us.nil _ _⟩
 have C:Y≠0:=yQ.1 oM;refine go7 ?_;refine cL (ev2 I I) call49 (λw hs=>oE hs hv hv') λeh h1 ax bx=>?_;subst bx;refine gc3 (λaq=>?_) λaq=>?_
 ·
  have Z:=rH.1 aq;refine go3 ?_;replace hv:=hv.mono ax;refine cL (ev1 I) call92 (λw hs=>tH hs hv oM) λeg h2 ao bb=>?_;rw[zD] at bb;refine go7 ?_;refine qN I I I I ?_;rw[Nat.div_eq_of_lt Z,zoh Z,if_neg C,if_neg C,xL];exact⟨_,_,I,Us.nil _ _,bb⟩
 have cc:Y<=X:=Nat.le_of_not_lt λhc=>aq (rH.2 hc);have eq:=yL cc;refine go6 ?_;replace hv:=hv.mono ax;refine cL (ev1 I) call167 (λw hs=>dG hs hv) λef h2 ao bw=>?_;subst bw;refine zKJ (λap=>?_) λap=>?_
 ·
  have hw:=nH ap;have ej:=nH (n:=Y) oM;refine go3 ?_;replace hv':=hv'.mono (ax.trans ao);refine cL (ev1 I) call167 (λw hs=>dG hs hv') λee h3 aw bv=>?_;subst bv;refine go2 ?_;rw[if_pos ap,if_pos (show(zB Y).length<=2 by omega)];refine go6 ?_;refine zJ 11 _ [] [(0,.q),(1,.q),(2,.q),(4,.q),(5,.q),(6,.q),(3,.c),(7,.c),(8,.q),(9,.q),(10,.q)] yA nX zor nX (λr hr=>hr) (go2 ?_);refine wC I (λ_ _=>bS (k:=.u64) (W:=18446744073709551616) I I I I oM oM) I (go2 ?_);refine wC I (λ_ _=>bR (k:=.u64) I I oM) I ?_;refine w_c I ?_;have du:=Nat.div_le_self X Y;have bq:=Nat.mod_lt X (Nat.pos_of_ne_zero C);refine sC (ev1 I) call96 (λw hs=>w8 hs oM) λed h4 av ah=>?_;refine w_c I (sC (ev1 I) call96 (λw hs=>w8 hs oM) λec h5 bj bu=>(go2 ?_));refine zKZ (v:=vI (0)) I I I (go4 ?_);refine qN I I I I ?_;replace ah:=ah.mono bj;rw[if_neg C,if_neg C];exact⟨_,_,I,ah,bu⟩
 refine go6 ?_;replace hv':=hv'.mono (ax.trans ao);refine gv (vD underlying27 I hv') I (gc3 (λcj=>?_) λcj=>?_)
 ·
  have bc:(zB Y).length=1:=by omega
  have dd:(zB Y).getD 0 0≠0:=by have:=sP (n:=Y) oM;rwa [bc] at this
  have bo:=t7 bc;rw[zD] at bo;refine go4 ?_;refine gv (zU (q:=0) (0) underlying27 sizeOf124 I I hv' I oM) I (gv (xY isAgg124 I hv' oM) I ?_);have eu:=hv'.get32 0;replace hv:=hv.mono ao;refine cL (ev2 I I) call168 (λw hs=>zEZ hs hv oM oM oM) λeb h3 aw bt=>?_;obtain⟨ei,rfl,M⟩:=bt;rw[zD] at M ⊢;have bq:=Nat.mod_lt X (Nat.pos_of_ne_zero dd);refine qE ?_;refine cL (ev1 I) call96 (λw hs=>w8 hs oM) λea h4 av ba=>(go7 ?_);refine qN I I I I ?_;replace M:=M.mono av;rw[<-bo] at M ba;rw[if_neg C,if_neg C];exact⟨_,_,I,M,ba⟩
 have ca:2<=(zB Y).length:=by omega
 refine go6 ?_;refine gv (vD underlying27 I hv') I (go1 ?_);refine gv (jC ((zB Y).length-1) underlying27 sizeOf124 I I hv'.shape oM oM) I ?_;have ae:=hv'.sub (lo:=(zB Y).length-1) (hi:=(zB Y).length) oM oM;rw[List.take_of_length_le (by rw[List.length_drop];omega),zPM oM] at ae;have hgt:=hv'.get32 ((zB Y).length-1);have ek:=kU (n:=(zB Y).getD ((zB Y).length-1) 0) oM;have dy:=mW (n:=(zB Y).getD ((zB Y).length-1) 0) (k:=32) hgt;refine cL (ev1 I) call169 (λw hs=>zWD hs ae oM) λdz h3 aw bs=>?_;subst bs;refine gv (qX (p:=32) I I oM oM) I ?_;obtain⟨s,cy⟩:∃s,s=32-uD ((zB Y).getD ((zB Y).length-1) 0):=⟨_,I⟩;rw[show(32:Int)-↑(uD ((zB Y).getD ((zB Y).length-1) 0))=↑s by omega];obtain⟨bp,ad,cv⟩:=zFN (k:=(zB Y).length-1) C oM cy;refine go7 ?_;replace hv':=hv'.mono aw;refine cL (ev2 I I) call170 (λw hs=>zWB hs hv' oM oM) λar h4 av D=>(go2 ?_);replace hv:=hv.mono ((ao.trans aw).trans av);refine cL (ev2 I I) call170 (λw hs=>zWB hs hv oM oM) λco h5 bj az=>(go2 ?_);replace D:=D.mono bj;replace ad:(zB (Y*2^s)).length=(zB Y).length:=by omega
 have cl:=sR (n:=Y*2^s) (k:=(zB Y).length-1) oM;generalize en:(zB Y).length=n at *;obtain⟨V,hV⟩:∃V,V=Y*2^s:=⟨_,I⟩;obtain⟨U,hU⟩:∃U,U=X*2^s:=⟨_,I⟩;rw[<-hV] at D ad cv cl;rw[<-hU] at az;have cn:=zQG ca ad;rw[zD] at cn;have cu:=kQ (fM (wK V) (n-2));rw[List.length_take,Nat.min_eq_left oM] at cu;have ey:(zB U).length<=(zB X).length+1:=by rw[hU];exact Nat.le_trans (yP X (2^s)) (Nat.add_le_add_left (qF (k:=1) (by rw[Nat.pow_one];exact Nat.lt_of_lt_of_le (Nat.pow_lt_pow_right dC bp) dC)) _)
 have dh:V<=U:=by rw[hV,hU];exact Nat.mul_le_mul_right _ cc
 have bz:=yL dh;rw[ad] at bz;have cw:=zOC (uT U) cl oM bz;generalize br:(zB U).length=r at *;have dt:=qR (wK V) (n-1);refine go6 ?_;rw[ad];refine go7 ?_;rw[br];refine go3 ?_;refine qU (kd:=.u32) (by':=4) (r-n+1) underlying27 uH I I I I I oM oM oM oM I ?_;intro H;refine go8 ?_;rw[br];refine go6 ?_;refine kX (ι:=Nat×Value×Nat×List Nat×Mem) (λ(K,vr,R,qs,k1)=>MLe h5 k1/\(Us .u32 k1 vr (zB R)/\K<=r-n+1/\qs.length=r-n+1-K/\Fit qs/\R+4294967296^K*(val qs*V)=U/\R<4294967296^K*V/\(zB R).length<=r)) (λ(K,vr,R,qs,k1)=>[(1,ar),(4,H),(5,vr),(13,vI ↑s),(14,vI ↑n),(15,vI (↑K-1))]) (λ(K,vr,R,qs,k1)=>[.us 124 .u32 H (gS K qs)]) (λ(K,vr,R,qs,k1)=>k1) (λ(K,vr,R,qs,k1)=>K) (r-n+1,co,U,[],h5) ?_ ⟨?_,?_,?_,?_,?_,?_,trivial⟩ ?_ I ?_
 ·
  refine⟨MLe.refl _,?_⟩;exact⟨az,Nat.le_refl _,by simp,λx hx=>by simp at hx,by simp[val],cw,by omega⟩
 · exact I
 · exact I
 · exact I
 · exact I
 · exact I
 · exact congrArg some (congrArg vI oM)
 ·
  try dsimp only[List.nil_append,List.cons_append]
  exact congrArg (λz=>[Res.us 124 .u32 H z]) (lM _)
 rintro⟨K,vr,R,qs,k1⟩ ⟨bd,⟨hR,hK,em,cd,ab,Z,ez⟩⟩
 refine xC ?_;refine gc7 (λci=>?_) λci=>?_
 ·
  refine go6 ?_;refine asg (v:=vU .u64 0) I I (go2 ?_);have ew:=qR (wK R) (K-1+n);have ev:=qR (wK R) (K-1+n-1);have de:=qR (wK R) (K-1+n-2);refine jI (ι:=Unit) (λ(_u:(Unit))=>True) (λ(_u:(Unit))=>[(1,ar),(4,H),(5,vr),(13,vI ↑s),(14,vI ↑n),(15,vI (↑K-1)),(16,vU .u64 ((zB R).getD (K-1+n) 0))]) (λ(_u:(Unit))=>[.us 124 .u32 H (gS K qs)]) (λ(_u:(Unit))=>k1) ?_ ?_
  ·
   refine zDN (λch=>?_) λch=>?_
   ·
    refine go5 ?_;refine gv (zU (K-1+n) underlying27 sizeOf124 I I hR oM oM) I (go4 ?_);refine zS (()) ?_ e7 I I
    trivial
   refine go1 ?_;refine zS (()) ?_ ⟨I,I,I,I,I,I,?_,trivial⟩ I I
   · trivial
   · exact congrArg some (congrArg (vU .u64) (by rw[sJ (xs:=zB R) oM]))
  rintro _u cg
  refine xC ?_;refine jI (ι:=Unit) (λ(_u:(Unit))=>True) (λ(_u:(Unit))=>[(1,ar),(4,H),(5,vr),(13,vI ↑s),(14,vI ↑n),(15,vI (↑K-1)),(16,vU .u64 ((zB R).getD (K-1+n) 0*4294967296+(zB R).getD (K-1+n-1) 0))]) (λ(_u:(Unit))=>[.us 124 .u32 H (gS K qs)]) (λ(_u:(Unit))=>k1) ?_ ?_
  ·
   refine zCK (λbk=>?_) λbk=>?_
   ·
    refine go2 ?_;refine gv (fF (k:=.u64) (s:=32) (yk:=.u64) (W:=18446744073709551616) I I I I) I (go5 ?_);refine gv (zU (K-1+n-1) underlying27 sizeOf124 I I hR oM oM) I (go2 ?_);refine gv (rM (k:=.u64) I I I (by simp only[ub];omega) (by simp only[ub];omega)) I ?_;rw[pX oM oM];refine go2 ?_;refine zS (()) ?_ e7 I I
    trivial
   refine go2 ?_;refine gv (fF (k:=.u64) (s:=32) (yk:=.u64) (W:=18446744073709551616) I I I I) I (go2 ?_);refine zS (()) ?_ ⟨I,I,I,I,I,I,?_,trivial⟩ I I
   · trivial
   · exact congrArg some (congrArg (vU .u64) (by rw[sJ (xs:=zB R) (i:=K-1+n-1) oM];omega))
  rintro _u cg
  refine xC ?_;have df:V<4294967296^n:=by rw[<-ad];exact uT V
  have di:R<4294967296^(K+n):=Nat.lt_of_lt_of_le Z (by rw[Nat.pow_add];exact Nat.mul_le_mul_left _ (Nat.le_of_lt df));have cp:∀i,K+n<=i->(zB R).getD i 0=0:=λi hi=>eP (by rw[zD];exact di) hi;obtain⟨wr,hW,ct⟩:=zHI (j:=K-1) ca (λi hi=>cp i oM) (wK R);rw[kG (wK R),zD] at hW;have cm:=zWE (R:=R) (V:=V) (k:=K-1) (by rw[Nat.sub_add_cancel oM];exact Z);obtain⟨top,ay⟩:∃t,t=(zB R).getD (K-1+n) 0*4294967296+(zB R).getD (K-1+n-1) 0:=⟨_,I⟩;rw[<-ay];rw[<-ay] at hW;have el:top<18446744073709551616:=by omega
  have ce:=zT2 (by rw[hW] at cm ⊢;exact zWF cn I de ct oM cm);have dr:0<(zB V).getD (n-1) 0:=by omega
  refine go6 ?_;replace D:=D.mono bd;refine gv (zU (n-1) underlying27 sizeOf124 I I D oM oM) I (go2 ?_);refine gv (bS (k:=.u64) (W:=18446744073709551616) I I I I oM oM) I (gv (zWV (k:=.u64) (q:=4294967295) I I) I ?_);rw[Nat.min_def];rw[<-Nat.min_def];refine go7 ?_;refine gv (vG (k:=.u64) (k':=.u32) (W:=4294967296) underlying125 underlying124 I I I oM) I (cL (ev2 I I) call172 (λw hs=>zS2 hs D oM oM) λdq h6 an bi=>?_);have ep:=yP V (min (top/(zB V).getD (n-1) 0) 4294967295);have er:=kU (n:=min (top/(zB V).getD (n-1) 0) 4294967295) oM;refine go1 ?_;rw[show(↑K:Int)-1=↑(K-1) by omega];refine cL (ev2 I I) call171 (λw hs=>zC5 hs bi oM oM) λbn h7 am bh=>(go5 ?_);refine kX (ι:=Value×Nat×Mem) (λ(vp,d,k2)=>MLe h7 k2/\(Us .u32 k2 vp (zB (V*d*4294967296^(K-1)))/\d<=4294967295/\R<V*(d+1)*4294967296^(K-1))) (λ(vp,d,k2)=>[(1,ar),(4,H),(5,vr),(13,vI ↑s),(14,vI ↑n),(15,vI ↑(K-1)),(17,vU .u64 d),(18,vp)]) (λ(vp,d,k2)=>[.us 124 .u32 H (gS K qs)]) (λ(vp,d,k2)=>k2) (λ(vp,d,k2)=>d) (bn,min (top/(zB V).getD (n-1) 0) 4294967295,h7) ?_ e8 I I ?_
  ·
   refine⟨MLe.refl _,?_⟩;exact⟨bh,Nat.min_le_right _ _,ce⟩
  rintro⟨vp,d,k2⟩ ⟨ac,⟨hp,es,da⟩⟩
  refine xC ?_;refine go5 ?_;replace hR:=hR.mono ((an.trans am).trans ac);refine cL (ev2 I I) call49 (λw hs=>oE hs hp hR) λdp h8 O bg=>?_;subst bg;refine gc3 (λaa=>?_) λaa=>?_
  ·
   have hgt:=zNF.1 aa;have cf:1<=d:=Nat.pos_of_ne_zero λh0=>by rw[h0,Nat.mul_zero,Nat.zero_mul] at hgt;omega
   obtain⟨dc,db⟩:=yBD (V:=V) (p:=4294967296^(K-1)) cf;refine go6 ?_;refine gv (aZ (k:=.u64) (q:=1) (W:=18446744073709551616) I I I I oM oM) I (go7 ?_);replace D:=D.mono (((an.trans am).trans ac).trans O);refine cL (ev2 I I) call171 (λw hs=>zC5 hs D oM oM) λdn h9 au bf=>?_;have eo:=zG8 (V*d) (K-1);have dw:=yP V d;have dv:=kU (n:=d) oM;replace hp:=hp.mono (O.trans au);refine cL (ev2 I I) call128 (λw hs=>zB0 hs hp bf db oM) λbm dk cb aj=>?_;rw[dc] at aj;refine go3 ?_;refine jP (bm,d-1,dk) ?_ ?_ e8 I I
   ·
    refine⟨(((ac.trans O).trans au).trans cb),?_⟩;exact⟨aj,by omega,by rw[Nat.sub_add_cancel cf];exact hgt⟩
   dsimp only;omega
  have ak:V*d*4294967296^(K-1)<=R:=Nat.le_of_not_lt λhc=>aa (zNF.2 hc);refine uK ?_;refine gv (vG (k:=.u64) (k':=.u32) (W:=4294967296) underlying125 underlying124 I I I oM) I (gv (yZ (A:=[]) (K-1) underlying27 sizeOf124 I I oM (by rw[jB];omega)) I (wQ sizeOf124 I I (by rw[jB];omega) (go5 ?_)));replace hR:=hR.mono O;replace hp:=hp.mono O;refine cL (ev2 I I) call128 (λw hs=>zB0 hs hR hp ak oM) λbl h9 au be=>(go9 ?_);refine jP (K-1,bl,R-V*d*4294967296^(K-1),d::qs,h9) ?_ ?_ ⟨I,I,I,I,I,?_,trivial⟩ ?_ I
  ·
   refine⟨(((((bd.trans an).trans am).trans ac).trans O).trans au),?_⟩;have eK:(4294967296:Nat)^K=4294967296^(K-1)*4294967296:=by rw[<-Nat.pow_succ,Nat.succ_eq_add_one,Nat.sub_add_cancel oM]
   rw[eK] at ab;have dx:=yL (Nat.sub_le R (V*d*4294967296^(K-1)));exact⟨be,by omega,by simp only[lC];omega,rG.2 ⟨by omega,cd⟩,yBC ab ak,yKN da ak,by omega⟩
  ·
   dsimp only;omega
  · exact congrArg some (congrArg vI oM)
  try dsimp only[List.nil_append,List.cons_append]
  rw[lL oM]
 refine go6 ?_;have dj:K=0:=by omega
 subst dj;rw[bX];rw[Nat.pow_zero,Nat.one_mul] at ab Z;refine go2 ?_;refine yR (by exact cd) ?_;intro h6 an hq;refine cL (ev1 I) call92 (λw hs=>tH hs hq oM) λdm h7 am J=>(go2 ?_);replace hR:=hR.mono (an.trans am);refine cL (ev2 I I) call173 (λw hs=>zWC hs hR oM oM) λdl h8 O ai=>(go6 ?_);refine qN I I I I ?_;replace J:=J.mono O;obtain⟨e1,e2⟩:=zRR (X:=X) (Y:=Y) (s:=s) (u:=R) (q:=val qs) oM (by rw[<-hV,<-hU];exact ab) (by rw[<-hV];exact Z);rw[e1] at J;rw[e2] at ai;rw[if_neg C,if_neg C];exact⟨_,_,I,J,ai⟩
theorem yBF{v v':Value}{A B:Nat}(hv:Us .u32 h0 v (zB A))(hv':Us .u32 h0 v' (zB B))(hl:(zB A).length<=549755813888)(hl':(zB B).length<=549755813888):
 Calls Tryz.prog 126 #[v,v'] w0 (Ret w0 h0 (λh r=>Us .u32 h r (zB (Nat.gcd A B)))):=by
 obtain⟨G,hG⟩:∃G,G=Nat.gcd A B:=⟨_,I⟩;rw[<-hG];refine cb2 51 v v' func126 hs ?_;refine go8 ?_;refine cL (ev1 I) call92 (λw hs=>tH hs hv oM) λaj h1 au U=>?_;rw[zD] at U;refine go1 ?_;replace hv':=hv'.mono au;refine cL (ev1 I) call92 (λw hs=>tH hs hv' oM) λai h2 bf O=>?_;rw[zD] at O;refine go6 ?_;refine gcL (ι:=Value×Nat×Value×Nat×Mem) (λ(vx,X,vy,Y,k1)=>(MLe h2 k1/\(Us .u32 k1 vx (zB X)/\Us .u32 k1 vy (zB Y)/\Nat.gcd X Y=G/\(zB X).length<=549755813888/\(zB Y).length<=549755813888),[(0,vx),(1,vy)],[],k1,Y)) (aj,A,ai,B,h2) ?_ ?_
 · exact⟨mle,U.up,O,hG.symm,by omega,by omega⟩
 rintro⟨vx,X,vy,Y,k1⟩ ⟨aw,⟨ha,hb,M,be,aq⟩⟩
 refine xC ?_;refine gc8 (λah=>?_) λah=>?_
 ·
  have J:Y≠0:=yQ.1 oM;refine go6 ?_;refine cL (ev1 I) call167 (λw hs=>dG hs ha) λba h3 ae ac=>?_;subst ac;refine uK ?_;replace hb:=hb.mono ae;refine cL (ev1 I) call167 (λw hs=>dG hs hb) λaz h4 ad ab=>?_;subst ab;refine qI ?_;refine gU 3 32 (vB (((zB X).length<=2)/\((zB Y).length<=2))) ?_ ?_
  ·
   refine zW ((zB X).length<=2) (λM=>?_) (λM=>?_)
   ·
    refine gT M I (go4 ?_);refine gqU ?_;exact congrArg some (xH M)
   refine gF M I (go3 ?_);refine gqU ?_;exact congrArg some (xJ M)
  refine gc2 (λC=>?_) λC=>?_
  ·
   rw[if_pos C.1,if_pos C.2];have an:=nH C.1;have am:=nH C.2;refine go2 ?_;refine gcL (ι:=Nat×Nat) (λ(m,n)=>(Nat.gcd m n=G/\m<18446744073709551616/\n<18446744073709551616,[(5,vU .u64 m),(7,vU .u64 n)],[],h4,n)) (X,Y) ?_ ?_
   · exact⟨M,an,am⟩
   rintro⟨m,n⟩ ⟨Z,hm,hn⟩
   refine xC ?_;refine go4 ?_;refine gv (tI (k:=.u64) (q:=0) I I) I (gc2 (λH=>?_) λH=>?_)
   ·
    refine go3 ?_;refine zJ 6 _ [] [(0,.q),(1,.q),(2,.q),(3,.q),(4,.q),(5,.q)] yA nX zor nX (λr hr=>hr) (go3 ?_);refine wC I (λ_ _=>bR (k:=.u64) I I oM) I (go4 ?_);refine gqL (n,m%n) ?_ ?_
    ·
     have bc:=Nat.mod_lt m (Nat.pos_of_ne_zero H);exact⟨by rw[mQ];exact Z,hn,by omega⟩
    exact Nat.mod_lt _ (Nat.pos_of_ne_zero H)
   refine go8 ?_;refine cL (ev1 I) call96 (λw hs=>w8 hs oM) λay h5 ar aa=>(go9 ?_);refine zC I I ?_;have ap:n=0:=Classical.not_not.1 H;rw[ap,Nat.gcd_zero_right] at Z;rw[<-Z];exact aa
  refine go6 ?_;replace ha:=ha.mono (ae.trans ad);replace hb:=hb.mono ad;refine cL (ev2 I I) call127 (λw hs=>zJA hs ha hb oM oM) λax h5 ar D=>?_;obtain⟨bb,ak,rfl,av,D⟩:=D;rw[if_neg J] at D;have bd:=yL (Nat.le_of_lt (Nat.mod_lt X (Nat.pos_of_ne_zero J)));refine k7 ?_;refine gqL (vy,Y,ak,X%Y,h5) ?_ ?_
  · exact⟨mle,hb.up,D,by rw[mQ];exact M,aq,by omega⟩
  exact Nat.mod_lt _ (Nat.pos_of_ne_zero J)
 have J:Y=0:=Classical.byContradiction λao=>by have:=yQ.2 ao;omega
 refine qE ?_;refine zC I I ?_;rw[J,Nat.gcd_zero_right] at M;rw[<-M];exact ha
theorem zQS:
 Calls Tryz.prog 157 #[] w0 (Ret w0 h0 (λh r=>Us .u32 h r [1])):=by
 refine cb0 2 func157 hs ?_;refine go7 ?_;refine zK (rX (kd:=.u32) (p:=1) underlying27 uH I I I) I I I ?_;intro v1 r1 C;obtain rfl:=C;refine yR (by intro z hz;simp only[List.mem_singleton] at hz;subst hz;decide) ?_;intro h1 D h1;refine go4 ?_;refine zC I I ?_;exact h1
theorem tQ{sa:Bool}{vna vda:Value}{na da:List Nat}(hna:Us .u32 h0 vna na)(hda:Us .u32 h0 vda da):
 Calls Tryz.prog 166 #[.agg #[.bool sa,vna,vda]] w0 (Ret w0 h0 (λh r=>Us .u32 h r (if da=[] then[1] else da))):=by
 refine cb1 10 (.agg #[.bool sa,vna,vda]) func166 hs ?_;refine go2 ?_;refine zK (wT (cs:=[_,_,_]) I I) I I I ?_;intro v1 r1 H;obtain⟨U,rfl,rfl⟩:=H;refine zKJ (λD=>?_) λD=>?_
 ·
  refine go2 ?_;refine cL (vs:=[]) trivial call157 (λw hs=>zQS hs) λO h1 M C=>?_;rw[dL] at C;have J:=zJ3;refine go5 ?_;refine zC I I ?_;rw[if_pos (zof oM),dL];exact C
 refine uK ?_;refine zC I I ?_;rw[if_neg (λh=>D (by rw[h];rfl))];exact hda
theorem zAH{v:Value}{xs:List Nat}(hv:Us .u32 h0 v xs)(hl:xs.length<=2):
 Calls Tryz.prog 188 #[v] w0 (Ret w0 h0 (λ_ r=>r=vU .u64 (val xs))):=by
 have hf:Fit xs:=hv.lt;refine cb1 21 v func188 hs ?_;refine go2 ?_;refine asg (v:=vU .u64 0) I I (go4 ?_);refine asg (v:=vU .u64 0) I I (qE ?_);have D:val (xs.drop xs.length)=0:=by rw[List.drop_of_length_le (Nat.le_refl _)];rfl
 refine kX (ι:=Nat) (λ(j:(Nat))=>j<=xs.length) (λ(j:(Nat))=>[(0,v),(3,vU .u64 (val (xs.drop j))),(4,vI (↑j-1))]) (λ(j:(Nat))=>[]) (λ(j:(Nat))=>h0) (λ(j:(Nat))=>j) xs.length ?_ ⟨?_,?_,?_,trivial⟩ I I ?_
 · exact Nat.le_refl _
 · exact I
 · exact congrArg some (congrArg (vU .u64) D.symm)
 · exact I
 rintro j J
 refine xC ?_;refine gc7 (λH=>?_) λH=>?_
 ·
  refine go6 ?_;refine gv (fF (k:=.u64) (s:=32) (yk:=.u64) (W:=18446744073709551616) I I I I) I (go2 ?_);refine gv (zU (j-1) underlying27 sizeOf124 I I hv oM oM) I (go1 ?_);have C:=hv.get32 (j-1);refine go1 ?_;refine gv (rM (k:=.u64) I I I (by simp only[ub];omega) (by simp only[ub];omega)) I ?_;rw[pX (by
   have h2:=kQ (iR hf j);rw[List.length_drop] at h2;have h3:(4294967296:Nat)^(xs.length-j)<=4294967296^1:=Nat.pow_le_pow_right oM oM;omega) C]
  refine go9 ?_;refine jP (j-1) ?_ ?_ ⟨I,?_,?_,trivial⟩ I I
  · omega
  · omega
  ·
   rw[jY xs (j-1) oM];exact congrArg some (congrArg (vU .u64) (by rw[show j-1+1=j by omega];omega))
  · exact congrArg some (congrArg vI oM)
 refine qE ?_;refine zC I I ?_;rw[show j=0 by omega];rfl
theorem zLN{m n:Nat}(hm0:m<18446744073709551616)(hn0:n<18446744073709551616):
 Calls Tryz.prog 198 #[vU .u64 m,vU .u64 n] w0 (Ret w0 h0 (λ_ r=>r=vU .u64 (Nat.gcd m n))):=by
 refine cb2 12 (vU .u64 m) (vU .u64 n) func198 hs ?_;refine go2 ?_;refine asg (v:=vU .u64 0) I I (go4 ?_);refine gcL (ι:=Nat×Nat) (λ(x,y)=>(Nat.gcd x y=Nat.gcd m n/\x<18446744073709551616/\y<18446744073709551616,[(0,vU .u64 x),(1,vU .u64 y)],[],h0,y)) (m,n) ?_ ?_
 · exact⟨I,hm0,hn0⟩
 rintro⟨x,y⟩ ⟨D,U,M⟩
 refine xC ?_;refine go4 ?_;refine gv (tI (k:=.u64) (q:=0) I I) I (gc2 (λC=>?_) λC=>?_)
 ·
  refine go3 ?_;refine zJ 6 _ [] [(0,.q),(1,.q),(2,.q),(3,.q),(4,.q),(5,.q)] yA nX zor nX (λr J=>J) (go3 ?_);refine wC I (λ_ _=>bR (k:=.u64) I I oM) I (go4 ?_);refine gqL (y,x%y) ?_ ?_
  ·
   have O:=Nat.mod_lt x (Nat.pos_of_ne_zero C);exact⟨by rw[mQ];exact D,M,by omega⟩
  exact Nat.mod_lt _ (Nat.pos_of_ne_zero C)
 refine qE ?_;refine zC I I ?_;have H:y=0:=Classical.not_not.1 C;rw[H,Nat.gcd_zero_right] at D;rw[D]
theorem zWH{n:Int}(hn:-9223372036854775808<=n)(hn':n<9223372036854775808):
 Calls Tryz.prog 156 #[vI n] w0 (Ret w0 h0 (λh r=>Us .u32 h r (zB n.natAbs))):=by
 refine cb1 12 (vI n) func156 hs ?_;refine zKJ (λM=>?_) λM=>?_
 ·
  have H:n.natAbs=9223372036854775808:=by omega
  refine go2 ?_;refine cL (vs:=[vU .u64 9223372036854775808]) ⟨I,trivial⟩ call192 (λw hs=>nat_of hs oM) λU h1 J D=>(go5 ?_);refine zC I I ?_;rw[H];exact D
 refine go6 ?_;refine gv (mJ I oM oM) I (gv (zLS I I) I (gv (u5 (p:=n.natAbs) (k':=.u64) (W:=18446744073709551616) underlying2 underlying125 I I (congrArg some (congrArg vI oM)) oM) I (cL (ev1 I) call192 (λw hs=>nat_of hs oM) λO h1 J C=>(go4 ?_))));refine zC I I ?_;exact C
end
theorem zHT{w0 w:World}{h0 h:Mem}{v u:Value}{xs:List Nat}{L:List Res}{lo n:Nat}(hu:u=fO 1 v lo xs.length)(hlo:lo+2<=xs.length)(hn0:n≠0)(hn:n<18446744073709551616)(hs:St w0 h0 (.us 124 .u32 v xs::L) h w):
 Calls Tryz.prog 199 #[u,vU .u64 n] w (tP w0 h0 (λg r K=>g=h/\K=.us 124 .u32 v (xs.take lo++zB n++xs.drop (lo+(zB n).length))::L/\r=vI ↑(zB n).length)):=by
 refine cK (n:=17) (e:=[(0,u),(1,vU .u64 n)]) (vs:=[u,vU .u64 n]) func199 rfl rfl (bL rfl) hs e2z (uK ?_);refine gv (z8 (q:=0) mh0 hu (0) underlying27 sizeOf124 I I I oM) I (wQ sizeOf124 I I oM (go7 ?_));refine gv (fG (k:=.u64) (q:=0) I I) I (gc2 (λD=>?_) λD=>?_)
 ·
  refine go7 ?_;refine gL I I ?_;have C:n<4294967296:=by omega
  refine⟨I,?_,by rw[gD hn0 C];rfl⟩;rw[zoh C,Nat.add_zero,putL oM hn0 C]
 refine go8 ?_;refine gv (z8 (q:=1) mh0 (by rw[lS];exact hu) (1) underlying27 sizeOf124 I I I (by rw[lS];omega)) I (wQ sizeOf124 I I (by simp;omega) (go8 ?_));refine gL I I ?_;have C:4294967296<=n:=by omega
 have H:n/2^32%4294967296=n/4294967296:=by omega
 refine⟨I,?_,?_⟩
 · rw[H,Nat.add_zero,yKS hlo hn C]
 · rw[kO oM,gD (t:=n/4294967296) oM oM];rfl
section
variable{w0:World}{h0:Mem}(hs:MLe h0 (mem w0))
include hs
theorem aN{s:Prop}{n d:Nat}(hn:n<18446744073709551616)(hd:d<18446744073709551616)(hd0:d≠0):
 Calls Tryz.prog 164 #[vB s,vU .u64 n,vU .u64 d] w0 (Ret w0 h0 (λh r=>vO h r (mkRat (sg s n) d))):=by
 refine cb3 50 (vB s) (vU .u64 n) (vU .u64 d) func164 hs ?_;refine go2 ?_;refine zK (uG (cs:=[vB ((0:Rat).num<0),.slice none 0 0,.slice none 0 0]) wB I (by simp only[zb];rfl)) I I I ?_;intro v6 r6 aj;obtain⟨b6,rfl,rfl⟩:=aj;refine go6 ?_;refine gv (fG (k:=.u64) (q:=0) I I) I (gc2 (λO=>?_) λO=>?_)
 ·
  refine go2 ?_;refine gv (wG (ps':=[]) (vs:=[vB ((0:Rat).num<0),.slice none 0 0,.slice none 0 0]) underlying29 wB I (qB underlying29) trivial (by simp only[zb];exact jQ)) I (wN (A:=[]) (r':=.var b6 29 [vB ((0:Rat).num<0),.slice none 0 0,.slice none 0 0]) (zN (k:=0) (cs:=[_,_,_]) (vs:=[_,_,_]) I I I I yH (bL I)) I I I (go4 ?_));refine yW (λE S=>yE I (wS (cs:=[_,_,_]) mh0 underlying29 I yH I) E S) ?_;rw[O,zAV];exact vO.zero _
 have ac:n≠0:=by omega
 refine go6 ?_;refine cL (ev2 I I) call198 (λw hs=>zLN hs oM oM) λaz h1 bf aa=>?_;subst aa;refine go1 ?_;have ae:0<Nat.gcd n d:=Nat.gcd_pos_of_pos_left d oM;have ak:n/Nat.gcd n d≠0:=Nat.ne_of_gt (Nat.div_pos (Nat.le_of_dvd oM (Nat.gcd_dvd_left n d)) ae);have ap:d/Nat.gcd n d≠0:=Nat.ne_of_gt (Nat.div_pos (Nat.le_of_dvd oM (Nat.gcd_dvd_right n d)) ae);have bc:=Nat.div_le_self n (Nat.gcd n d);have bg:=Nat.div_le_self d (Nat.gcd n d);refine go3 ?_;refine zJ 8 _ [] [(0,.q),(1,.q),(2,.q),(3,.q),(4,.q),(5,.q),(6,.q),(7,.q)] yA nX zor nX (λr hr=>hr) (go2 ?_);refine wC I (λ_ _=>bS (k:=.u64) (W:=18446744073709551616) I I I I oM oM) I (go2 ?_);refine wC I (λ_ _=>bS (k:=.u64) (W:=18446744073709551616) I I I I oM oM) I (go2 ?_);generalize hA:n/Nat.gcd n d=A at *;generalize hB:d/Nat.gcd n d=B at *;have be:=kU (n:=A) oM;have bd:=kU (n:=B) oM;refine go4 ?_;refine qU (kd:=.u32) (by':=4) (q:=4) (q':=4) 4 underlying27 uH I I I I I I I oM oM I ?_;intro D;refine go7 ?_;refine nL (vs:=[_,_]) I I I I call199 e2z (λw hs=>zHT (hs.own_self (.head _)) dC ak oM hs) ?_;intro ay ar av J;obtain⟨e1,e2,J⟩:=J;rw[e1,e2]
 clear e1 e2 ar av
 subst J;rw[show List.take 0 (List.replicate 4 0)++zB A++List.drop (0+(zB A).length) (List.replicate 4 0)=zB A++List.replicate (4-(zB A).length) 0 from by rw[List.take_zero,List.nil_append,Nat.zero_add,List.drop_replicate]];have an:(zB A++List.replicate (4-(zB A).length) 0).length=4:=by simp;omega
 refine go9 ?_;refine zYV (.head _) (λad bh Z aw=>?_);have M:kY 1 D 0 (zB A).length (zB A).length=.slice (if(zB A).length=0 then ad else ad.map (·.add (0*1))) ((zB A).length-0) ((zB A).length-0):=by rw[Z];rfl
 refine gv (zE5 mh0 _ _ underlying27 sizeOf124 I I I I I oM oM) I (gv (wG (ps':=[(0,_),(1,_)]) (vs:=[vB s,kY 1 D 0 _ _,.slice none 0 0]) underlying29 wB I (qB underlying29) e4z (wY (A:=[]) (B:=[_]) (C:=[_,_]) (cs:=[_]) (off:=0) (size:=1) I I I I I (wY (A:=[_]) (B:=[_]) (C:=[_]) (cs:=[_]) (off:=1) (size:=1) I I I I (by rw[M];rfl) jQ))) I (zK (uG (cs:=[vB ((0:Rat).num<0),.slice none 0 0,.slice none 0 0]) wB I (by simp only[zb];rfl)) I I I ?_));intro ba bb ab;obtain⟨ai,rfl,rfl⟩:=ab;refine wN (A:=[]) (r':=.var ai 29 [vB s,kY 1 D 0 _ _,.slice none 0 0]) (zN (k:=0) (cs:=[_,_,_]) (vs:=[vB s,kY 1 D 0 _ _,.slice none 0 0]) I I I (by rw[M];rfl) yH (bL I)) I I I (go6 ?_);refine gv (mL (k:=.u64) (q:=1) I I) I (gc2 (λah=>?_) λah=>?_)
 ·
  refine go5 ?_;refine gv (zE4 mh1 _ underlying27 sizeOf124 I I I oM) I (go1 ?_);refine iP (A:=[_]) ?_;refine nL (vs:=[_,_]) I I I I call199 e2z (λw hs=>zHT (lo:=(zB A).length) zo0 oM ap oM hs) ?_;intro ax aq au H;obtain⟨e1,e2,H⟩:=H;rw[e1,e2]
  clear e1 e2 aq au
  subst H;rw[show List.take (zB A).length (zB A++List.replicate (4-(zB A).length) 0)++zB B++List.drop ((zB A).length+(zB B).length) (zB A++List.replicate (4-(zB A).length) 0)=zB A++zB B++List.replicate (4-(zB A).length-(zB B).length) 0 from by simp];have am:(zB A++zB B++List.replicate (4-(zB A).length-(zB B).length) 0).length=4:=by simp;omega
  refine go9 ?_;have U:kY 1 D (zB A).length ((zB A).length+(zB B).length) ((zB A).length+(zB B).length)=.slice (if(zB A).length+(zB B).length=(zB A).length then ad else ad.map (·.add ((zB A).length*1))) ((zB A).length+(zB B).length-(zB A).length) ((zB A).length+(zB B).length-(zB A).length):=by rw[Z];rfl
  refine gv (zG1 mh0 ((zB A).length) ((zB A).length+(zB B).length) ((zB A).length+(zB B).length) underlying27 sizeOf124 I I I I oM oM oM oM oM oM) I (go1 ?_);refine wN (A:=[_]) (r':=.var ai 29 [vB s,kY 1 D 0 _ _,kY 1 D ((zB A).length) ((zB A).length+(zB B).length) ((zB A).length+(zB B).length)]) (zN (k:=2) (cs:=[_,_,_]) (vs:=[kY 1 D ((zB A).length) ((zB A).length+(zB B).length) ((zB A).length+(zB B).length)]) I I (by rw[U];rfl) (by rw[U];rfl) zVQ (bL I)) I I I (go4 ?_);refine yR (by first|exact uL (uL (wK A) (wK B)) (jX _)|exact uL (wK A) (jX _)) ?_;intro h2 ao hz;refine go1 ?_;refine wN (A:=[_]) (r':=.var b6 29 [vB s,kY 1 D 0 _ _,kY 1 D ((zB A).length) ((zB A).length+(zB B).length) ((zB A).length+(zB B).length)]) (zN (k:=0) (cs:=[_,_,_]) (vs:=[vB s,kY 1 D 0 _ _,kY 1 D ((zB A).length) ((zB A).length+(zB B).length) ((zB A).length+(zB B).length)]) I I I (by rw[M,U];rfl) yH (bL I)) I I I (go3 ?_);refine yW (λE S=>yE I (wS (cs:=[_,_,_]) mh1 underlying29 I yH I) E S) ?_;have z1:=hz.sub3 (lo:=0) (hi:=(zB A).length) (mx:=(zB A).length) oM oM oM;have z2:=hz.sub3 (lo:=(zB A).length) (hi:=(zB A).length+(zB B).length) (mx:=(zB A).length+(zB B).length) oM oM oM;refine vO.make ac hd0 ?_ ?_
  · rw[hA];simpa using z1
  · rw[hB];rw[nO oM];simpa using z2
 refine go4 ?_;refine zHB (by first|exact uL (uL (wK A) (wK B)) (jX _)|exact uL (wK A) (jX _)) ?_;intro h2 ao hz;refine go1 ?_;refine wN (A:=[_]) (r':=.var b6 29 [vB s,kY 1 D 0 _ _,.slice none 0 0]) (zN (k:=0) (cs:=[_,_,_]) (vs:=[vB s,kY 1 D 0 _ _,.slice none 0 0]) I I I (by rw[M];rfl) yH (bL I)) I I I (go3 ?_);refine yW (λE S=>yE I (wS (cs:=[_,_,_]) mh1 underlying29 I yH I) E S) ?_;have z1:=hz.sub3 (lo:=0) (hi:=(zB A).length) (mx:=(zB A).length) oM oM oM;refine vO.make ac hd0 ?_ ?_
 · rw[hA];simpa using z1
 · rw[hB];rw[show B=1 by omega,bY,xL];exact Us.nil _ _
theorem pJ{qa:Rat}{vna vda:Value}(hna:Us .u32 h0 vna (zB qa.num.natAbs))(hda:Us .u32 h0 vda (zB (wO qa.den))):
 Calls Tryz.prog 163 #[.agg #[vB (qa.num<0),vna,vda]] w0 (Ret w0 h0 (λ_ r=>r=.tuple #[vU .u64 (pN qa),vU .u64 (pD qa),vB (tT qa)])):=by
 refine cb1 30 (.agg #[vB (qa.num<0),vna,vda]) func163 hs ?_;refine go2 ?_;refine zK (wT (cs:=[_,_,_]) I I) I I I ?_;intro v1 r1 aa;obtain⟨b1,rfl,rfl⟩:=aa;refine asg (v:=vU .u64 0) I I (asg (v:=vU .u64 0) I I (uK ?_));refine gU 6 14 (vB (((1:Int)<(↑(zB qa.num.natAbs).length:Int))\/((1:Int)<(↑(zB (wO qa.den)).length:Int)))) ?_ ?_
 ·
  refine zW ((1:Int)<(↑(zB qa.num.natAbs).length:Int)) (λU=>?_) (λU=>?_)
  ·
   refine gT U I (go6 ?_);refine gqU ?_;exact congrArg some (vS U)
  refine gF U I (uK ?_);refine gqU ?_;exact congrArg some (vT U)
 refine gc2 (λJ=>?_) λJ=>?_
 ·
  have M:¬tT qa:=zN2 J;refine go2 ?_;refine asg (v:=vU .u64 0) I I (asg (v:=vU .u64 0) I I (go5 ?_));refine qN I I I I ?_;rw[pN_f M,pD_f M,yM M]
 have C:tT qa:=zSO J;have ac:=fS C;have ad:=fT C;refine go4 ?_;refine asg (v:=vU .u64 1) I I (zCK (λH=>?_) λH=>?_)
 ·
  have O:(zB (wO qa.den)).getD 0 0=qa.den:=zZA H;refine go3 ?_;refine gv (zU (q:=0) (0) underlying27 sizeOf124 I I hda I oM) I (go1 ?_);rw[O];refine go8 ?_;refine cL (ev1 I) call188 (λw hs=>zAH hs hna oM) λZ h1 ab D=>?_
  try simp only[zD] at D
  subst D;refine go2 ?_;refine gv (OpV.tr (by have:=qa.den_nz;omega) (tI (k:=.u64) (q:=0) I I)) I (go6 ?_);refine qN I I I I ?_;rw[zGZ C,zG0 C,xT C]
 have O:qa.den=1:=zZB H C;refine go6 ?_;refine cL (ev1 I) call188 (λw hs=>zAH hs hna oM) λZ h1 ab D=>?_
 try simp only[zD] at D
 subst D;refine go2 ?_;refine gv (OpV.tr (by have:=qa.den_nz;omega) (tI (k:=.u64) (q:=0) I I)) I (go6 ?_);refine qN I I I I ?_;rw[zGZ C,zG0 C,xT C,O]
theorem kS{s:Prop}{vn vd:Value}{xs ys:List Nat}(hn:Us .u32 h0 vn xs)(hd:Us .u32 h0 vd ys)(hl:xs.length<=1000000000000)(hl':ys.length<=1000000000000):
 Calls Tryz.prog 155 #[vB s,vn,vd] w0 (Ret w0 h0 (λh r=>vO h r (mkRat (sg s (val xs)) (val ys)))):=by
 have ck:=nY (n:=val xs);have cj:=nY (n:=val ys);have ce:=uU hn.lt;have cd:=uU hd.lt;refine cb3 68 (vB s) vn vd func155 hs ?_;refine go2 ?_;refine zK (uG (cs:=[vB ((0:Rat).num<0),.slice none 0 0,.slice none 0 0]) wB I (by simp only[zb];rfl)) I I I ?_;intro v6 r6 bk;obtain⟨b6,rfl,rfl⟩:=bk;refine go6 ?_;refine cL (ev1 I) call162 (λw hs=>zAU hs hn oM) λv9 h1 an be=>?_
 try simp only[zD] at be
 subst be;refine go1 ?_;refine uY (ι:=Mem) 5 (λm_=>MLe h1 m_) (λ_=>[(15,vB (((↑(uD (val (xs))):Int)=(0:Int))\/((↑(uD (val (ys))):Int)=(0:Int)))),(0,vB s),(1,vn),(2,vd),(6,vP b6 0)]) (λ_=>[.var b6 29 [vB ((0:Rat).num<0),.slice none 0 0,.slice none 0 0]]) (λm_=>m_) ?_ ?_
 ·
  refine zW ((↑(uD (val (xs))):Int)=(0:Int)) (λO=>?_) (λO=>?_)
  ·
   refine gT O I (go5 ?_);refine zS h1 (MLe.refl _) ⟨?_,I,I,I,I,trivial⟩ I I;exact congrArg some (vS O)
  refine gF O I (go3 ?_);replace hd:=hd.mono an;refine cL (ev1 I) call162 (λw hs=>zAU hs hd oM) λbw h2 aa ax=>?_
  try simp only[zD] at ax
  subst ax;refine go4 ?_;refine zS h2 aa ⟨?_,I,I,I,I,trivial⟩ I I;exact congrArg some (vT O)
 intro bj J;refine tZ ?_;refine gc2 (λad=>?_) λad=>?_
 ·
  refine go2 ?_;refine gv (wG (ps':=[]) (vs:=[vB ((0:Rat).num<0),.slice none 0 0,.slice none 0 0]) underlying29 wB I (qB underlying29) trivial (by simp only[zb];exact jQ)) I (wN (A:=[]) (r':=.var b6 29 [vB ((0:Rat).num<0),.slice none 0 0,.slice none 0 0]) (zN (k:=0) (cs:=[_,_,_]) (vs:=[_,_,_]) I I I I yH (bL I)) I I I (go4 ?_));refine yW (λE S=>yE I (wS (cs:=[_,_,_]) mh0 underlying29 I yH I) E S) ?_
  rcases ad with h|h
  · rw[show val xs=0 by omega,zAV];exact vO.zero _
  · rw[show val ys=0 by omega,zFT];exact vO.zero _
 have ap:val xs≠0:=λh=>ad (.inl oM);have ar:val ys≠0:=λh=>ad (.inr oM);replace hn:=hn.mono (an.trans J);refine go8 ?_;refine gU 5 24 (vB (((↑(xs).length:Int)<=(2:Int))/\((↑(ys).length:Int)<=(2:Int)))) ?_ ?_
 ·
  refine zW ((↑(xs).length:Int)<=(2:Int)) (λO=>?_) (λO=>?_)
  ·
   refine gT O I ?_;replace hd:=hd.mono (an.trans J);refine go8 ?_;refine gqU ?_;exact congrArg some (xH O)
  refine gF O I (go5 ?_);refine gqU ?_;exact congrArg some (xJ O)
 refine gc2 (λbi=>?_) λbi=>?_
 ·
  have cc:=nH (n:=val xs) oM;have ci:=nH (n:=val ys) oM;refine go4 ?_;refine cL (ev1 I) call188 (λw hs=>zAH hs hn oM) λbv h2 aa aw=>?_
  try simp only[zD] at aw
  subst aw;refine go1 ?_;replace hd:=hd.mono ((an.trans J).trans aa);refine cL (ev1 I) call188 (λw hs=>zAH hs hd oM) λbu h3 ae av=>?_
  try simp only[zD] at av
  subst av;refine cL (ev3 I I I) call164 (λw hs=>aN hs oM oM oM) λbt h4 am bf=>?_;obtain⟨bc,bd,rfl,ay,az⟩:=bf;refine wN (A:=[]) (r':=.var b6 29 [vB ((mkRat (sg (s) (val (xs))) (val (ys))).num<0),bc,bd]) (zN (k:=0) (cs:=[_,_,_]) (vs:=[_,_,_]) I I I (ocr I (ocu ay (ocu az oc0))) yH (bL I)) I I I (go4 ?_);refine yW (λE S=>yE I (wS (cs:=[_,_,_]) mh0 underlying29 I yH I) E S) ?_;exact⟨_,_,I,ay,az⟩
 refine go7 ?_;replace hd:=hd.mono (an.trans J);refine cL (ev2 I I) call189 (λw hs=>yB1 hs hn hd oM oM) λbs h2 aa M=>?_
 try simp only[zD] at M
 have bn:=y3 (val (xs)) (val (ys));have bh:Nat.gcd (val xs) (val ys)≠0:=Nat.ne_of_gt (Nat.gcd_pos_of_pos_left _ oM);have ch:=yL (Nat.le_of_dvd oM (Nat.gcd_dvd_left (val xs) (val ys)));refine go6 ?_;refine cL (ev1 I) call162 (λw hs=>zAU hs M oM) λbr h3 ae au=>?_
 try simp only[zD] at au
 subst au;refine gc3 (λao=>?_) λao=>?_
 ·
  refine go4 ?_;replace hn:=hn.mono (aa.trans ae);replace M:=M.mono ae;refine cL (ev2 I I) call190 (λw hs=>zDX hs hn M oM oM) λbq h4 am ak=>?_;obtain⟨cb,bz,rfl,ac,ak⟩:=ak
  try simp only[zD] at ac ak ⊢
  have bm:=yL (Nat.div_le_self (val (xs)) (((Nat.gcd (val (xs)) (val (ys))))));have cg:=yL (Nat.div_le_self (val xs) (Nat.gcd (val xs) (val ys)));refine uK ?_;replace hd:=hd.mono ((aa.trans ae).trans am);replace M:=M.mono am;refine cL (ev2 I I) call190 (λw hs=>zDX hs hd M oM oM) λbp h5 aq aj=>?_;obtain⟨ca,bx,rfl,ab,aj⟩:=aj
  try simp only[zD] at ab aj ⊢
  have bl:=yL (Nat.div_le_self (val (ys)) (((Nat.gcd (val (xs)) (val (ys))))));have cf:=yL (Nat.div_le_self (val ys) (Nat.gcd (val xs) (val ys)));refine uK ?_;replace ac:=ac.mono aq;refine cL (ev2 I I) call191 (λw hs=>dM hs ac (Us.nil _ _) zo2 zo2) λZ h6 bo D=>?_
  try simp only[zD] at D
  have bb:=kJ ((((val (xs))/(((Nat.gcd (val (xs)) (val (ys)))))))) (val ([]));refine go1 ?_;replace ab:=ab.mono bo;refine cL (ev2 I I) call191 (λw hs=>dM hs ab (Us.nil _ _) zo2 zo2) λai h7 bg H=>?_
  try simp only[zD] at H
  have ba:=kJ ((((val (ys))/(((Nat.gcd (val (xs)) (val (ys)))))))) (val ([]));refine uK ?_;refine gU 6 63 (vB (((↑(zB (((((val (ys))/(((Nat.gcd (val (xs)) (val (ys))))))))+(val ([])))).length:Int)=(1:Int))/\(((zB (((((val (ys))/(((Nat.gcd (val (xs)) (val (ys))))))))+(val ([])))).getD (0) 0)=(1:Nat)))) ?_ ?_
  ·
   refine zW ((↑(zB (((((val (ys))/(((Nat.gcd (val (xs)) (val (ys))))))))+(val ([])))).length:Int)=(1:Int)) (λO=>?_) (λO=>?_)
   ·
    refine gT O I (go3 ?_);refine gv (zU (q:=0) (0) underlying27 sizeOf124 I I H I oM) I (go3 ?_);refine gv (fG (k:=.u32) (q:=1) I I) I (go2 ?_);refine gqU ?_;exact congrArg some (xH O)
   refine gF O I (go6 ?_);refine gqU ?_;exact congrArg some (xJ O)
  refine gc2 (λU=>?_) λU=>?_
  ·
   refine go9 ?_;replace D:=D.mono bg;refine gv (wG (ps':=[(0,_),(1,_),(2,_)]) (vs:=[vB s,Z,.slice none 0 0]) underlying29 wB I (qB underlying29) e6z (wY (A:=[]) (B:=[_]) (C:=[_,_]) (cs:=[_]) (off:=0) (size:=1) I I I I I (wY (A:=[_]) (B:=[_]) (C:=[_]) (cs:=[_]) (off:=1) (size:=1) I I I I D.cells (wY (A:=[_,_]) (B:=[_]) (C:=[]) (cs:=[_]) (off:=2) (size:=1) I I I I I jQ)))) I (wN (A:=[]) (r':=.var b6 29 [vB s,Z,.slice none 0 0]) (zN (k:=0) (cs:=[_,_,_]) (vs:=[_,_,_]) I I I (ocr I (ocu D (ocr I oc0))) yH (bL I)) I I I (go3 ?_));refine yW (λE S=>yE I (wS (cs:=[_,_,_]) mh0 underlying29 I yH I) E S) ?_;exact vO.fin1 ap ar D U
  refine go7 ?_;replace D:=D.mono bg;refine gv (wG (ps':=[(0,_),(1,_),(2,_)]) (vs:=[vB s,Z,ai]) underlying29 wB I (qB underlying29) e6z (wY (A:=[]) (B:=[_]) (C:=[_,_]) (cs:=[_]) (off:=0) (size:=1) I I I I I (wY (A:=[_]) (B:=[_]) (C:=[_]) (cs:=[_]) (off:=1) (size:=1) I I I I D.cells (wY (A:=[_,_]) (B:=[_]) (C:=[]) (cs:=[_]) (off:=2) (size:=1) I I I I H.cells jQ)))) I (wN (A:=[]) (r':=.var b6 29 [vB s,Z,ai]) (zN (k:=0) (cs:=[_,_,_]) (vs:=[_,_,_]) I I I (ocr I (ocu D (ocu H oc0))) yH (bL I)) I I I (go3 ?_));refine yW (λE S=>yE I (wS (cs:=[_,_,_]) mh0 underlying29 I yH I) E S) ?_;exact vO.fin ap ar D H U
 refine go5 ?_;replace hn:=hn.mono (aa.trans ae);refine cL (ev2 I I) call191 (λw hs=>dM hs hn (Us.nil _ _) zo2 zo2) λZ h4 am D=>?_
 try simp only[zD] at D
 have bb:=kJ (val (xs)) (val ([]));refine go1 ?_;replace hd:=hd.mono ((aa.trans ae).trans am);refine cL (ev2 I I) call191 (λw hs=>dM hs hd (Us.nil _ _) zo2 zo2) λai h5 aq H=>?_
 try simp only[zD] at H
 have ba:=kJ (val (ys)) (val ([]));refine uK ?_;refine gU 6 63 (vB (((↑(zB ((val (ys))+(val ([])))).length:Int)=(1:Int))/\(((zB ((val (ys))+(val ([])))).getD (0) 0)=(1:Nat)))) ?_ ?_
 ·
  refine zW ((↑(zB ((val (ys))+(val ([])))).length:Int)=(1:Int)) (λO=>?_) (λO=>?_)
  ·
   refine gT O I (go3 ?_);refine gv (zU (q:=0) (0) underlying27 sizeOf124 I I H I oM) I (go3 ?_);refine gv (fG (k:=.u32) (q:=1) I I) I (go2 ?_);refine gqU ?_;exact congrArg some (xH O)
  refine gF O I (go6 ?_);refine gqU ?_;exact congrArg some (xJ O)
 refine gc2 (λU=>?_) λU=>?_
 ·
  refine go9 ?_;replace D:=D.mono aq;refine gv (wG (ps':=[(0,_),(1,_),(2,_)]) (vs:=[vB s,Z,.slice none 0 0]) underlying29 wB I (qB underlying29) e6z (wY (A:=[]) (B:=[_]) (C:=[_,_]) (cs:=[_]) (off:=0) (size:=1) I I I I I (wY (A:=[_]) (B:=[_]) (C:=[_]) (cs:=[_]) (off:=1) (size:=1) I I I I D.cells (wY (A:=[_,_]) (B:=[_]) (C:=[]) (cs:=[_]) (off:=2) (size:=1) I I I I I jQ)))) I (wN (A:=[]) (r':=.var b6 29 [vB s,Z,.slice none 0 0]) (zN (k:=0) (cs:=[_,_,_]) (vs:=[_,_,_]) I I I (ocr I (ocu D (ocr I oc0))) yH (bL I)) I I I (go3 ?_));refine yW (λE S=>yE I (wS (cs:=[_,_,_]) mh0 underlying29 I yH I) E S) ?_;have ah:=zIU ao bh;exact vO.fin1 ap ar (by rw[ah,Nat.div_one];exact D) (by rw[ah,Nat.div_one];exact U)
 refine go7 ?_;replace D:=D.mono aq;refine gv (wG (ps':=[(0,_),(1,_),(2,_)]) (vs:=[vB s,Z,ai]) underlying29 wB I (qB underlying29) e6z (wY (A:=[]) (B:=[_]) (C:=[_,_]) (cs:=[_]) (off:=0) (size:=1) I I I I I (wY (A:=[_]) (B:=[_]) (C:=[_]) (cs:=[_]) (off:=1) (size:=1) I I I I D.cells (wY (A:=[_,_]) (B:=[_]) (C:=[]) (cs:=[_]) (off:=2) (size:=1) I I I I H.cells jQ)))) I (wN (A:=[]) (r':=.var b6 29 [vB s,Z,ai]) (zN (k:=0) (cs:=[_,_,_]) (vs:=[_,_,_]) I I I (ocr I (ocu D (ocu H oc0))) yH (bL I)) I I I (go3 ?_));refine yW (λE S=>yE I (wS (cs:=[_,_,_]) mh0 underlying29 I yH I) E S) ?_;have ah:=zIU ao bh;exact vO.fin ap ar (by rw[ah,Nat.div_one];exact D) (by rw[ah,Nat.div_one];exact H) (by rw[ah,Nat.div_one];exact U)
theorem s9{v v':Value}{xs ys:List Nat}(hv:Us .u32 h0 v xs)(hv':Us .u32 h0 v' ys):
 Calls Tryz.prog 193 #[v,v'] w0 (Ret w0 h0 (λ_ r=>r=vB (xs=ys))):=by
 have O:=hv.lt63;have M:=hv'.lt63;refine cb2 26 v v' func193 hs ?_;refine qI ?_;refine gv (vD underlying27 I hv') I (gc3 (λD=>?_) λD=>?_)
 ·
  refine go7 ?_;refine zC I I ?_;rw[yM (λe=>D (by rw[e]))]
 have J:xs.length=ys.length:=by omega
 refine qI ?_;refine gcL (ι:=Nat) (λ(i:(Nat))=>(i<=xs.length/\xs.take i=ys.take i,[(0,v),(1,v'),(12,vI ↑xs.length),(13,vI ↑i)],[],h0,xs.length-i)) 0 ?_ ?_
 · exact⟨by omega,by simp⟩
 rintro i ⟨hi,ht⟩
 refine xC ?_;refine gc6 (λH=>?_) λH=>?_
 ·
  refine qI ?_;refine zJ 9 _ [] [(0,.q),(1,.q),(2,.q),(3,.q),(4,.q),(5,.q),(6,.q),(7,.q),(8,.q)] yA nX zor nX (λr U=>U) (go2 ?_);refine w_q I (λh' L' hh hR=>zU (i) underlying27 sizeOf124 I I (hv.mono hh) oM oM) I (w_q I (λh' L' hh hR=>xY isAgg124 I (hv.mono hh) oM) I (go2 ?_));refine w_q I (λh' L' hh hR=>zU (i) underlying27 sizeOf124 I I (hv'.mono hh) oM oM) I (w_q I (λh' L' hh hR=>xY isAgg124 I (hv'.mono hh) oM) I (gc3 (λC=>?_) λC=>?_))
  ·
   refine qI ?_;refine zC I I ?_;rw[yM (λe=>C (by rw[e]))]
  refine go7 ?_;refine gqL (i+1) ?_ ?_ (he:=⟨I,I,I,?_,trivial⟩)
  ·
   refine⟨by omega,?_⟩;rw[iZ xs i oM,iZ ys i oM,ht];have e:=Classical.not_not.1 C;rw[e]
  · omega
  · exact congrArg some (congrArg vI oM)
 refine qI ?_;refine zC I I ?_;have Z:xs=ys:=by
  have e:i=xs.length:=by omega
  rw[e,List.take_length,J,List.take_length] at ht;exact ht
 rw[xT Z]
theorem zAI{qa:Rat}{vna vda:Value}(hna:Us .u32 h0 vna (zB qa.num.natAbs))(hda:Us .u32 h0 vda (zB (wO qa.den)))(hqa:lq qa<=100000000000):
 Calls Tryz.prog 122 #[.agg #[vB (qa.num<0),vna,vda]] w0 (Ret w0 h0 (λ_ r=>r=vI (yV qa))):=by
 have M:=vY qa;have O:=vX qa;have U:=vV qa;refine cb1 11 (.agg #[vB (qa.num<0),vna,vda]) func122 hs ?_;refine go2 ?_;refine zK (wT (cs:=[_,_,_]) I I) I I I ?_;intro v1 r1 J;obtain⟨b1,rfl,rfl⟩:=J;refine go9 ?_;refine cL (ev1 I) call162 (λw hs=>zAU hs hna oM) λv6 h1 Z H=>?_
 try simp only[zD] at H
 subst H;refine gc4 (λD=>?_) λD=>?_
 ·
  refine go8 ?_;refine zC I I ?_;rw[aM (zG5 D)]
 refine gc7 (λC=>?_) λC=>?_
 ·
  refine go8 ?_;refine zC I I ?_;rw[zAC C]
 refine go9 ?_;refine zC I I ?_;rw[zAB (λh=>D (zHF h)) C]
theorem zWI{qa:Rat}{vna vda:Value}(hna:Us .u32 h0 vna (zB qa.num.natAbs))(hda:Us .u32 h0 vda (zB (wO qa.den))){qb:Rat}{vnb vdb:Value}(hnb:Us .u32 h0 vnb (zB qb.num.natAbs))(hdb:Us .u32 h0 vdb (zB (wO qb.den)))(hqa:lq qa<=100000000000)(hqb:lq qb<=100000000000):
 Calls Tryz.prog 159 #[.agg #[vB (qa.num<0),vna,vda],.agg #[vB (qb.num<0),vnb,vdb]] w0 (Ret w0 h0 (λ_ r=>r=vB (qa=qb))):=by
 have ae:=vY qa;have ai:=vX qa;have ak:=vV qa;have ad:=vY qb;have ah:=vX qb;have aj:=vV qb;refine cb2 24 (.agg #[vB (qa.num<0),vna,vda]) (.agg #[vB (qb.num<0),vnb,vdb]) func159 hs ?_;refine go2 ?_;refine zK (wT (cs:=[_,_,_]) I I) I I I ?_;intro v2 r2 ac;obtain⟨b2,rfl,rfl⟩:=ac;refine zK (wT (cs:=[_,_,_]) I I) I I I ?_;intro v3 r3 ab;obtain⟨b3,rfl,rfl⟩:=ab;refine go9 ?_;refine gv (lD underlying4 I I) I ?_;refine uY (ι:=Mem) 7 (λJ=>MLe h0 J) (λ_=>[(16,vB (((qa.num<0)↔(qb.num<0))/\((zB qa.num.natAbs)=(zB qb.num.natAbs)))),(2,vP b2 0),(3,vP b3 0)]) (λ_=>[.var b3 29 [vB (qb.num<0),vnb,vdb],.var b2 29 [vB (qa.num<0),vna,vda]]) (λJ=>J) ?_ ?_
 ·
  refine zW ((qa.num<0)↔(qb.num<0)) (λH=>?_) (λH=>?_)
  ·
   refine gT H I (go9 ?_);refine cL (ev2 I I) call193 (λw hs=>s9 hs hna hnb) λan h1 M Z=>?_;subst Z;refine go2 ?_;refine zS h1 M ⟨?_,I,I,trivial⟩ I I;exact congrArg some (xH H)
  refine gF H I (go7 ?_);refine zS h0 (MLe.refl _) ⟨?_,I,I,trivial⟩ I I;exact congrArg some (xJ H)
 intro D C;refine tZ ?_;refine uY (ι:=Mem) 7 (λJ=>MLe D J) (λ_=>[(23,vB ((((qa.num<0)↔(qb.num<0))/\((zB qa.num.natAbs)=(zB qb.num.natAbs)))/\((zB (wO qa.den))=(zB (wO qb.den)))))]) (λ_=>[.var b3 29 [vB (qb.num<0),vnb,vdb],.var b2 29 [vB (qa.num<0),vna,vda]]) (λJ=>J) ?_ ?_
 ·
  refine zW (((qa.num<0)↔(qb.num<0))/\((zB qa.num.natAbs)=(zB qb.num.natAbs))) (λH=>?_) (λH=>?_)
  ·
   refine gT H I (go9 ?_);replace hda:=hda.mono C;replace hdb:=hdb.mono C;refine cL (ev2 I I) call193 (λw hs=>s9 hs hda hdb) λam h1 M U=>?_;subst U;refine go2 ?_;refine zS h1 M ⟨?_,trivial⟩ I I;exact congrArg some (xH H)
  refine gF H I (go7 ?_);refine zS D (MLe.refl _) ⟨?_,trivial⟩ I I;exact congrArg some (xJ H)
 intro aa O;refine tZ ?_;refine go4 ?_;refine zC I I ?_;exact kD zLF
theorem yBL{qa:Rat}{vna vda:Value}(hna:Us .u32 h0 vna (zB qa.num.natAbs))(hda:Us .u32 h0 vda (zB (wO qa.den))){qb:Rat}{vnb vdb:Value}(hnb:Us .u32 h0 vnb (zB qb.num.natAbs))(hdb:Us .u32 h0 vdb (zB (wO qb.den)))(hqa:lq qa<=100000000000)(hqb:lq qb<=100000000000):
 Calls Tryz.prog 182 #[.agg #[vB (qa.num<0),vna,vda],.agg #[vB (qb.num<0),vnb,vdb]] w0 (Ret w0 h0 (λ_ r=>r=vI (xS qa qb))):=by
 have bp:=vY qa;have br:=vX qa;have bt:=vV qa;have bo:=vY qb;have bq:=vX qb;have bs:=vV qb;refine cb2 80 (.agg #[vB (qa.num<0),vna,vda]) (.agg #[vB (qb.num<0),vnb,vdb]) func182 hs ?_;refine go2 ?_;refine zK (wT (cs:=[_,_,_]) I I) I I I ?_;intro v2 r2 bh;obtain⟨b2,rfl,rfl⟩:=bh;refine zK (wT (cs:=[_,_,_]) I I) I I I ?_;intro v3 r3 bg;obtain⟨b3,rfl,rfl⟩:=bg;refine go5 ?_;refine zJ 6 _ [] [(0,.q),(2,.q),(1,.c),(3,.c),(4,.q),(5,.q)] yA nX zor nX (λr hr=>hr) (go2 ?_);refine w_c I (sC (ev1 I) call122 (λw hs=>zAI hs hna hda oM) λcg h1 ah az=>?_);have bd:=xG qa;subst az;refine w_c I ?_;replace hnb:=hnb.mono ah;replace hdb:=hdb.mono ah;refine sC (ev1 I) call122 (λw hs=>zAI hs hnb hdb oM) λcf h2 O ay=>?_;have bc:=xG qb;subst ay;refine zCK (λM=>?_) λM=>?_
 ·
  refine gc8 (λaa=>?_) λaa=>?_
  ·
   refine go8 ?_;refine zC I I ?_;rw[zBH M,if_pos aa]
  refine go9 ?_;refine zC I I ?_;rw[zBH M,if_neg aa]
 have au:=zLA M;refine go7 ?_;refine jI (ι:=Mem) (λ(mc:(Mem))=>MLe h2 mc/\(True)) (λ(mc:(Mem))=>[(2,vP b2 0),(7,vI (cN qa qb))]) (λ(mc:(Mem))=>[.var b3 29 [vB (qb.num<0),vnb,vdb],.var b2 29 [vB (qa.num<0),vna,vda]]) (λ(mc:(Mem))=>mc) ?_ ?_
 ·
  refine go3 ?_;replace hna:=hna.mono (ah.trans O);replace hda:=hda.mono (ah.trans O);refine cL (ev1 I) call163 (λw hs=>pJ hs hna hda) λce h3 D ax=>?_;subst ax;refine pP ?_;replace hda:=hda.mono D;replace hdb:=hdb.mono (O.trans D);refine cL (ev2 I I) call193 (λw hs=>s9 hs hda hdb) λcd h4 C aw=>?_;subst aw;refine gc2 (λaq=>?_) λaq=>?_
  ·
   refine go5 ?_;replace hna:=hna.mono (D.trans C);replace hnb:=hnb.mono ((O.trans D).trans C);refine cL (ev2 I I) call204 (λw hs=>zDY hs hna hnb) λcc h5 H an=>?_
   try simp only[zD] at an
   subst an;refine go2 ?_;refine zS (h5) ?_ ⟨I,?_,trivial⟩ I I
   ·
    refine⟨((D.trans C).trans H),?_⟩
    trivial
   · exact congrArg some (congrArg vI ((yI5 aq).symm))
  refine go3 ?_;replace hnb:=hnb.mono ((O.trans D).trans C);replace hdb:=hdb.mono C;refine cL (ev1 I) call163 (λw hs=>pJ hs hnb hdb) λcb h5 H av=>?_;subst av;refine qE ?_;refine gU 3 49 (vB ((tT qa)/\(tT qb))) ?_ ?_
  ·
   refine zW (tT qa) (λhg=>?_) (λhg=>?_)
   ·
    refine gT hg I (go4 ?_);refine gqU ?_;exact congrArg some (xH hg)
   refine gF hg I (go3 ?_);refine gqU ?_;exact congrArg some (xJ hg)
  refine gc2 (λZ=>?_) λZ=>?_
  ·
   have ac:=Z.1;have ab:=Z.2;have bj:=fS ac;have bf:=fT ac;have bi:=fS ab;have be:=fT ab;have ci:=qW bj be;have ch:=qW bi bf;rw[zGZ ac,zG0 ac,zGZ ab,zG0 ab];refine zCK (λap=>?_) λap=>?_
   ·
    refine go3 ?_;refine zS (h5) ?_ ⟨I,?_,trivial⟩ I I
    ·
     refine⟨((D.trans C).trans H),?_⟩
     trivial
    · exact congrArg some (congrArg vI ((zBI ap).symm))
   refine zCK (λao=>?_) λao=>?_
   ·
    refine go3 ?_;refine zS (h5) ?_ ⟨I,?_,trivial⟩ I I
    ·
     refine⟨((D.trans C).trans H),?_⟩
     trivial
    · exact congrArg some (congrArg vI ((zBJ ao).symm))
   refine go1 ?_;refine zS (h5) ?_ ⟨I,?_,trivial⟩ I I
   ·
    refine⟨((D.trans C).trans H),?_⟩
    trivial
   · exact congrArg some (congrArg vI ((zCR.2 oM).symm))
  refine zJ 12 _ [] [(0,.q),(1,.q),(2,.q),(5,.q),(6,.q),(7,.q),(3,.c),(4,.c),(8,.c),(9,.c),(10,.c),(11,.q)] yA nX zor nX (λr hr=>hr) (go6 ?_);refine w_c I ?_;replace hnb:=hnb.mono H;replace hdb:=hdb.mono H;refine sC (ev1 I) call166 (λw hs=>tQ hs hnb hdb) λca h6 ae am=>?_;rw[uX] at am;refine w_c I ?_;replace hna:=hna.mono (((D.trans C).trans H).trans ae);refine sC (ev2 I I) call165 (λw hs=>sO hs hna am oM oM) λbz h7 ad J=>?_
  try simp only[zD] at J
  have bl:=yP ((qa.num.natAbs)) ((qb.den));refine w_c I ?_;replace hna:=hna.mono ad;replace hda:=hda.mono (((C.trans H).trans ae).trans ad);refine sC (ev1 I) call166 (λw hs=>tQ hs hna hda) λbx h8 ar ak=>?_;rw[uX] at ak;refine w_c I ?_;replace hnb:=hnb.mono ((ae.trans ad).trans ar);refine sC (ev2 I I) call165 (λw hs=>sO hs hnb ak oM oM) λbw h9 ba aj=>?_
  try simp only[zD] at aj
  have bk:=yP ((qb.num.natAbs)) ((qa.den));refine w_c I ?_;replace J:=J.mono (ar.trans ba);refine sC (ev2 I I) call204 (λw hs=>zDY hs J aj) λbv bm bb ai=>?_
  try simp only[zD] at ai
  subst ai;refine go2 ?_;refine zS (bm) ?_ e2z I I;refine⟨(((((((D.trans C).trans H).trans ae).trans ad).trans ar).trans ba).trans bb),?_⟩
  trivial
 rintro mc ⟨bn,bu⟩
 refine xC ?_;have cj:=zNJ qa qb;refine gc7 (λU=>?_) λU=>?_
 ·
  refine go3 ?_;refine gv (mJ I oM oM) I (go5 ?_);refine zC I I ?_;rw[zRW au U]
 refine go9 ?_;refine zC I I ?_;rw[zNE au U]
theorem yBJ{qa:Rat}{vna vda:Value}(hna:Us .u32 h0 vna (zB qa.num.natAbs))(hda:Us .u32 h0 vda (zB (wO qa.den))){qb:Rat}{vnb vdb:Value}(hnb:Us .u32 h0 vnb (zB qb.num.natAbs))(hdb:Us .u32 h0 vdb (zB (wO qb.den)))(hqa:lq qa<=100000000000)(hqb:lq qb<=100000000000):
 Calls Tryz.prog 153 #[.agg #[vB (qa.num<0),vna,vda],.agg #[vB (qb.num<0),vnb,vdb]] w0 (Ret w0 h0 (λh r=>vO h r (qa*qb))):=by
 have bn:=vY qa;have bp:=vX qa;have br:=vV qa;have bm:=vY qb;have bo:=vX qb;have bq:=vV qb;rw[<-zXP];refine cb2 64 (.agg #[vB (qa.num<0),vna,vda]) (.agg #[vB (qb.num<0),vnb,vdb]) func153 hs ?_;refine go2 ?_;refine zK (wT (cs:=[_,_,_]) I I) I I I ?_;intro v2 r2 bl;obtain⟨b2,rfl,rfl⟩:=bl;refine zK (wT (cs:=[_,_,_]) I I) I I I ?_;intro v3 r3 bk;obtain⟨b3,rfl,rfl⟩:=bk;refine zK (uG (cs:=[vB ((0:Rat).num<0),.slice none 0 0,.slice none 0 0]) wB I (by simp only[zb];rfl)) I I I ?_;intro v4 r4 bj;obtain⟨b4,rfl,rfl⟩:=bj;refine go9 ?_;refine gU 6 20 (vB (((↑(zB qa.num.natAbs).length:Int)=(0:Int))\/((↑(zB qb.num.natAbs).length:Int)=(0:Int)))) ?_ ?_
 ·
  refine zW ((↑(zB qa.num.natAbs).length:Int)=(0:Int)) (λhg=>?_) (λhg=>?_)
  ·
   refine gT hg I (go6 ?_);refine gqU ?_;exact congrArg some (vS hg)
  refine gF hg I (uK ?_);refine gqU ?_;exact congrArg some (vT hg)
 refine gc2 (λap=>?_) λap=>?_
 ·
  refine go2 ?_;refine gv (wG (ps':=[]) (vs:=[vB ((0:Rat).num<0),.slice none 0 0,.slice none 0 0]) underlying29 wB I (qB underlying29) trivial (by simp only[zb];exact jQ)) I (wN (A:=[]) (r':=.var b4 29 [vB ((0:Rat).num<0),.slice none 0 0,.slice none 0 0]) (zN (k:=0) (cs:=[_,_,_]) (vs:=[_,_,_]) I I I I yH (bL I)) I I I (go4 ?_));refine yW (λE S=>yE I (wS (cs:=[_,_,_]) mh0 underlying29 I yH I) E S) ?_
  rcases ap with h|h
  · rw[bT h,show(0:Rat).num.natAbs=0 from I,Nat.zero_mul,zAV];exact vO.zero _
  · rw[bT h,show(0:Rat).num.natAbs=0 from I,Nat.mul_zero,zAV];exact vO.zero _
 refine go6 ?_;refine cL (ev1 I) call163 (λw hs=>pJ hs hna hda) λbu h1 aa bb=>?_;subst bb;refine sG ?_;refine cnd (λao=>?_) λao=>?_
 ·
  have ai:=ao;have bc:=fS ai;have aq:=fT ai;refine go3 ?_;replace hnb:=hnb.mono aa;replace hdb:=hdb.mono aa;refine cL (ev1 I) call163 (λw hs=>pJ hs hnb hdb) λbt h2 J ba=>?_;subst ba;refine sG ?_;refine cnd (λan=>?_) λan=>?_
  ·
   have ah:=an;have ar:=fS ah;have ay:=fT ah;have ca:=qW bc ay;have bz:=qW ar aq;have bx:=qW aq ay;have bw:=qW bc ar;have bv:=qW aq ar;have cc:qa.den*qb.den≠0:=Nat.mul_ne_zero qa.den_nz qb.den_nz;simp only[zGZ ai,zG0 ai,zGZ ah,zG0 ah];refine go6 ?_;refine gv (tV underlying4 I I) I (go6 ?_);refine cL (ev3 I I I) call164 (λw hs=>aN hs oM oM oM) λbs h3 H az=>?_;obtain⟨aw,ax,rfl,ak,am⟩:=az;refine wN (A:=[]) (r':=.var b4 29 [vB ((mkRat (sg (¬((qa.num<0)↔(qb.num<0))) (qa.num.natAbs*qb.num.natAbs)) (qa.den*qb.den)).num<0),aw,ax]) (zN (k:=0) (cs:=[_,_,_]) (vs:=[_,_,_]) I I I (ocr I (ocu ak (ocu am oc0))) yH (bL I)) I I I (go4 ?_);refine yW (λE S=>yE I (wS (cs:=[_,_,_]) mh0 underlying29 I yH I) E S) ?_;exact⟨_,_,I,ak,am⟩
  refine go3 ?_;refine zJ 16 _ [] [(0,.q),(1,.q),(2,.q),(3,.q),(4,.q),(5,.q),(6,.q),(7,.q),(8,.q),(10,.q),(12,.q),(9,.c),(11,.c),(13,.c),(14,.c),(15,.c),(16,.t)] yA nX zor nX (λr hr=>hr) (go4 ?_);refine wC I (λ_ _=>tV underlying4 I I) I (go6 ?_);refine w_c I ?_;replace hna:=hna.mono (aa.trans J);replace hnb:=hnb.mono J;refine sC (ev2 I I) call165 (λw hs=>sO hs hna hnb oM oM) λbi h3 H D=>?_
  try simp only[zD] at D
  have av:=yP ((qa.num.natAbs)) ((qb.num.natAbs));refine w_c I ?_;replace hna:=hna.mono H;replace hda:=hda.mono ((aa.trans J).trans H);refine sC (ev1 I) call166 (λw hs=>tQ hs hna hda) λbh h4 ac C=>?_;rw[uX] at C;refine w_c I ?_;replace hnb:=hnb.mono (H.trans ac);replace hdb:=hdb.mono ((J.trans H).trans ac);refine sC (ev1 I) call166 (λw hs=>tQ hs hnb hdb) λbg h5 aj U=>?_;rw[uX] at U;refine w_c I ?_;replace C:=C.mono aj;refine sC (ev2 I I) call165 (λw hs=>sO hs C U oM oM) λbf h6 bd O=>?_
  try simp only[zD] at O
  have au:=yP ((qa.den)) ((qb.den));refine w_c I ?_;replace D:=D.mono ((ac.trans aj).trans bd);refine sC (ev3 I I I) call155 (λw hs=>kS hs D O oM oM) λbe h7 cb M=>?_
  try simp only[zD] at M
  obtain⟨ad,ae,rfl,Z,ab⟩:=M;refine bA (A:=[]) (q':=.var b4 29 [vB ((mkRat (sg (¬((qa.num<0)↔(qb.num<0))) (((((qa.num.natAbs))*((qb.num.natAbs)))))) (((((qa.den))*((qb.den)))))).num<0),ad,ae]) I (zN (k:=0) (cs:=[_,_,_]) (vs:=[_,_,_]) I I I (ocr I (ocu Z (ocu ab oc0))) yH (bL I)) I (go3 ?_);refine yW (λE S=>yE I (wS (cs:=[_,_,_]) mh0 underlying29 I yH I) E S) ?_;exact⟨_,_,I,Z,ab⟩
 refine go3 ?_;refine zJ 16 _ [] [(0,.q),(1,.q),(2,.q),(3,.q),(4,.q),(5,.q),(6,.q),(7,.q),(8,.q),(10,.q),(12,.q),(9,.c),(11,.c),(13,.c),(14,.c),(15,.c),(16,.t)] yA nX zor nX (λr hr=>hr) (go4 ?_);refine wC I (λ_ _=>tV underlying4 I I) I (go6 ?_);refine w_c I ?_;replace hna:=hna.mono aa;replace hnb:=hnb.mono aa;refine sC (ev2 I I) call165 (λw hs=>sO hs hna hnb oM oM) λbi h2 J D=>?_
 try simp only[zD] at D
 have av:=yP ((qa.num.natAbs)) ((qb.num.natAbs));refine w_c I ?_;replace hna:=hna.mono J;replace hda:=hda.mono (aa.trans J);refine sC (ev1 I) call166 (λw hs=>tQ hs hna hda) λbh h3 H C=>?_;rw[uX] at C;refine w_c I ?_;replace hnb:=hnb.mono (J.trans H);replace hdb:=hdb.mono ((aa.trans J).trans H);refine sC (ev1 I) call166 (λw hs=>tQ hs hnb hdb) λbg h4 ac U=>?_;rw[uX] at U;refine w_c I ?_;replace C:=C.mono ac;refine sC (ev2 I I) call165 (λw hs=>sO hs C U oM oM) λbf h5 aj O=>?_
 try simp only[zD] at O
 have au:=yP ((qa.den)) ((qb.den));refine w_c I ?_;replace D:=D.mono ((H.trans ac).trans aj);refine sC (ev3 I I I) call155 (λw hs=>kS hs D O oM oM) λbe h6 bd M=>?_
 try simp only[zD] at M
 obtain⟨ad,ae,rfl,Z,ab⟩:=M;refine bA (A:=[]) (q':=.var b4 29 [vB ((mkRat (sg (¬((qa.num<0)↔(qb.num<0))) (((((qa.num.natAbs))*((qb.num.natAbs)))))) (((((qa.den))*((qb.den)))))).num<0),ad,ae]) I (zN (k:=0) (cs:=[_,_,_]) (vs:=[_,_,_]) I I I (ocr I (ocu Z (ocu ab oc0))) yH (bL I)) I (go3 ?_);refine yW (λE S=>yE I (wS (cs:=[_,_,_]) mh0 underlying29 I yH I) E S) ?_;exact⟨_,_,I,Z,ab⟩
theorem yBI{qa:Rat}{vna vda:Value}(hna:Us .u32 h0 vna (zB qa.num.natAbs))(hda:Us .u32 h0 vda (zB (wO qa.den))){qb:Rat}{vnb vdb:Value}(hnb:Us .u32 h0 vnb (zB qb.num.natAbs))(hdb:Us .u32 h0 vdb (zB (wO qb.den)))(hqa:lq qa<=100000000000)(hqb:lq qb<=100000000000):
 Calls Tryz.prog 123 #[.agg #[vB (qa.num<0),vna,vda],.agg #[vB (qb.num<0),vnb,vdb]] w0 (Ret w0 h0 (λh r=>∃u,r=.tuple #[u,vI (if qb=0 then 3 else 0)]/\vO h u (if qb=0 then 0 else qa/qb))):=by
 have bs:=vY qa;have bu:=vX qa;have bw:=vV qa;have br:=vY qb;have bt:=vX qb;have bv:=vV qb;refine cb2 58 (.agg #[vB (qa.num<0),vna,vda]) (.agg #[vB (qb.num<0),vnb,vdb]) func123 hs ?_;refine go2 ?_;refine zK (wT (cs:=[_,_,_]) I I) I I I ?_;intro v2 r2 bp;obtain⟨b2,rfl,rfl⟩:=bp;refine zK (wT (cs:=[_,_,_]) I I) I I I ?_;intro v3 r3 bo;obtain⟨b3,rfl,rfl⟩:=bo;refine zK (uG (cs:=[vB ((0:Rat).num<0),.slice none 0 0,.slice none 0 0]) wB I (by simp only[zb];rfl)) I I I ?_;intro v4 r4 bn;obtain⟨b4,rfl,rfl⟩:=bn;refine go7 ?_;refine cL (ev1 I) call122 (λw hs=>zAI hs hnb hdb oM) λcb h1 ae be=>?_;have bm:=xG qb;subst be;refine gc3 (λaj=>?_) λaj=>?_
 ·
  have ac:=uF.1 aj;rw[if_pos ac,if_pos ac];refine go2 ?_;refine gv (wG (ps':=[]) (vs:=[vB ((0:Rat).num<0),.slice none 0 0,.slice none 0 0]) underlying29 wB I (qB underlying29) trivial (by simp only[zb];exact jQ)) I (wN (A:=[]) (r':=.var b4 29 [vB ((0:Rat).num<0),.slice none 0 0,.slice none 0 0]) (zN (k:=0) (cs:=[_,_,_]) (vs:=[_,_,_]) I I I I yH (bL I)) I I I (go5 ?_));refine yW (λE S=>jN I (wS (cs:=[_,_,_]) mh0 underlying29 I yH I) (tM I) E S) ?_;exact⟨_,I,vO.zero _⟩
 have ac:qb≠0:=λh=>aj (uF.2 h);rw[if_neg ac,if_neg ac,<-zWJ qa ac];have bq:=zFM.2 ac;refine go6 ?_;replace hna:=hna.mono ae;replace hda:=hda.mono ae;refine cL (ev1 I) call163 (λw hs=>pJ hs hna hda) λca h2 aa bd=>?_;subst bd;refine sG ?_;refine cnd (λar=>?_) λar=>?_
 ·
  have am:=ar;have bf:=fS am;have au:=fT am;refine go3 ?_;replace hnb:=hnb.mono (ae.trans aa);replace hdb:=hdb.mono (ae.trans aa);refine cL (ev1 I) call163 (λw hs=>pJ hs hnb hdb) λbz h3 Z bc=>?_;subst bc;refine sG ?_;refine cnd (λaq=>?_) λaq=>?_
  ·
   have ak:=aq;have av:=fS ak;have ba:=fT ak;have cg:=qW bf ba;have cf:=qW av au;have ce:=qW au ba;have cd:=qW bf av;have cc:=qW au av;have ci:qa.den*qb.num.natAbs≠0:=Nat.mul_ne_zero qa.den_nz bq;simp only[zGZ am,zG0 am,zGZ ak,zG0 ak];refine go6 ?_;refine gv (tV underlying4 I I) I (go6 ?_);refine cL (ev3 I I I) call164 (λw hs=>aN hs oM oM oM) λbx h4 U bb=>?_;obtain⟨ay,az,rfl,ao,ap⟩:=bb;refine wN (A:=[]) (r':=.var b4 29 [vB ((mkRat (sg (¬((qa.num<0)↔(qb.num<0))) (qa.num.natAbs*qb.den)) (qa.den*qb.num.natAbs)).num<0),ay,az]) (zN (k:=0) (cs:=[_,_,_]) (vs:=[_,_,_]) I I I (ocr I (ocu ao (ocu ap oc0))) yH (bL I)) I I I (go5 ?_);refine yW (λE S=>jN I (wS (cs:=[_,_,_]) mh0 underlying29 I yH I) (tM I) E S) ?_;exact⟨_,I,_,_,I,ao,ap⟩
  refine go3 ?_;refine zJ 16 _ [] [(0,.q),(1,.q),(2,.q),(3,.q),(4,.q),(5,.q),(6,.q),(7,.q),(10,.q),(12,.q),(13,.q),(8,.c),(9,.c),(11,.c),(14,.c),(15,.c),(16,.t),(17,.t)] yA nX zor nX (λr hr=>hr) (go4 ?_);refine wC I (λ_ _=>tV underlying4 I I) I (go6 ?_);refine w_c I ?_;replace hnb:=hnb.mono Z;replace hdb:=hdb.mono Z;refine sC (ev1 I) call166 (λw hs=>tQ hs hnb hdb) λbl h4 U M=>?_;rw[uX] at M;refine w_c I ?_;replace hna:=hna.mono ((aa.trans Z).trans U);refine sC (ev2 I I) call165 (λw hs=>sO hs hna M oM oM) λbk h5 ad C=>?_
  try simp only[zD] at C
  have ax:=yP ((qa.num.natAbs)) ((qb.den));refine w_c I ?_;replace hna:=hna.mono ad;replace hda:=hda.mono (((aa.trans Z).trans U).trans ad);refine sC (ev1 I) call166 (λw hs=>tQ hs hna hda) λbj h6 an J=>?_;rw[uX] at J;refine w_c I ?_;replace hnb:=hnb.mono ((U.trans ad).trans an);refine sC (ev2 I I) call165 (λw hs=>sO hs J hnb oM oM) λbi h7 bg H=>?_
  try simp only[zD] at H
  have aw:=yP ((qa.den)) ((qb.num.natAbs));refine w_c I ?_;replace C:=C.mono (an.trans bg);refine sC (ev3 I I I) call155 (λw hs=>kS hs C H oM oM) λbh h8 ch D=>?_
  try simp only[zD] at D
  obtain⟨ah,ai,rfl,O,ab⟩:=D;refine bA (A:=[]) (q':=.var b4 29 [vB ((mkRat (sg (¬((qa.num<0)↔(qb.num<0))) (((((qa.num.natAbs))*((qb.den)))))) (((((qa.den))*((qb.num.natAbs)))))).num<0),ah,ai]) I (zN (k:=0) (cs:=[_,_,_]) (vs:=[_,_,_]) I I I (ocr I (ocu O (ocu ab oc0))) yH (bL I)) I (zDQ I (pK (v:=vI (0)) I) I (go3 ?_));refine yW (λE S=>jN I (wS (cs:=[_,_,_]) mh0 underlying29 I yH I) (tM I) E S) ?_;exact⟨_,I,_,_,I,O,ab⟩
 refine go3 ?_;refine zJ 16 _ [] [(0,.q),(1,.q),(2,.q),(3,.q),(4,.q),(5,.q),(6,.q),(7,.q),(10,.q),(12,.q),(13,.q),(8,.c),(9,.c),(11,.c),(14,.c),(15,.c),(16,.t),(17,.t)] yA nX zor nX (λr hr=>hr) (go4 ?_);refine wC I (λ_ _=>tV underlying4 I I) I (go6 ?_);refine w_c I ?_;replace hnb:=hnb.mono (ae.trans aa);replace hdb:=hdb.mono (ae.trans aa);refine sC (ev1 I) call166 (λw hs=>tQ hs hnb hdb) λbl h3 Z M=>?_;rw[uX] at M;refine w_c I ?_;replace hna:=hna.mono (aa.trans Z);refine sC (ev2 I I) call165 (λw hs=>sO hs hna M oM oM) λbk h4 U C=>?_
 try simp only[zD] at C
 have ax:=yP ((qa.num.natAbs)) ((qb.den));refine w_c I ?_;replace hna:=hna.mono U;replace hda:=hda.mono ((aa.trans Z).trans U);refine sC (ev1 I) call166 (λw hs=>tQ hs hna hda) λbj h5 ad J=>?_;rw[uX] at J;refine w_c I ?_;replace hnb:=hnb.mono ((Z.trans U).trans ad);refine sC (ev2 I I) call165 (λw hs=>sO hs J hnb oM oM) λbi h6 an H=>?_
 try simp only[zD] at H
 have aw:=yP ((qa.den)) ((qb.num.natAbs));refine w_c I ?_;replace C:=C.mono (ad.trans an);refine sC (ev3 I I I) call155 (λw hs=>kS hs C H oM oM) λbh h7 bg D=>?_
 try simp only[zD] at D
 obtain⟨ah,ai,rfl,O,ab⟩:=D;refine bA (A:=[]) (q':=.var b4 29 [vB ((mkRat (sg (¬((qa.num<0)↔(qb.num<0))) (((((qa.num.natAbs))*((qb.den)))))) (((((qa.den))*((qb.num.natAbs)))))).num<0),ah,ai]) I (zN (k:=0) (cs:=[_,_,_]) (vs:=[_,_,_]) I I I (ocr I (ocu O (ocu ab oc0))) yH (bL I)) I (zDQ I (pK (v:=vI (0)) I) I (go3 ?_));refine yW (λE S=>jN I (wS (cs:=[_,_,_]) mh0 underlying29 I yH I) (tM I) E S) ?_;exact⟨_,I,_,_,I,O,ab⟩
theorem zLO{qa:Rat}{vna vda:Value}(hna:Us .u32 h0 vna (zB qa.num.natAbs))(hda:Us .u32 h0 vda (zB (wO qa.den))){qb:Rat}{vnb vdb:Value}(hnb:Us .u32 h0 vnb (zB qb.num.natAbs))(hdb:Us .u32 h0 vdb (zB (wO qb.den)))(hqa:lq qa<=100000000000)(hqb:lq qb<=100000000000){s:Prop}:
 Calls Tryz.prog 161 #[.agg #[vB (qa.num<0),vna,vda],.agg #[vB (qb.num<0),vnb,vdb],vB s] w0 (Ret w0 h0 (λh r=>vO h r (qa+sgd s qb))):=by
 have eb:=vY qa;have ed:=vX qa;have ef:=vV qa;have ea:=vY qb;have ec:=vX qb;have ee:=vV qb;refine cb3 152 (.agg #[vB (qa.num<0),vna,vda]) (.agg #[vB (qb.num<0),vnb,vdb]) (vB s) func161 hs ?_;refine go2 ?_;refine zK (wT (cs:=[_,_,_]) I I) I I I ?_;intro v3 r3 dq;obtain⟨b3,rfl,rfl⟩:=dq;refine zK (wT (cs:=[_,_,_]) I I) I I I ?_;intro v4 r4 dp;obtain⟨b4,rfl,rfl⟩:=dp;refine zK (uG (cs:=[vB ((0:Rat).num<0),.slice none 0 0,.slice none 0 0]) wB I (by simp only[zb];rfl)) I I I ?_;intro v6 r6 dn;obtain⟨b6,rfl,rfl⟩:=dn;refine go2 ?_;refine jI (ι:=Mem) (λ(mc:(Mem))=>MLe h0 mc/\(True)) (λ(mc:(Mem))=>[(2,vB s),(3,vP b3 0),(4,vP b4 0),(6,vP b6 0)]) (λ(mc:(Mem))=>[.var b6 29 [vB ((0:Rat).num<0),.slice none 0 0,.slice none 0 0],.var b4 29 [vB (qb.num<0),vnb,vdb],.var b3 29 [vB (qa.num<0),vna,vda]]) (λ(mc:(Mem))=>mc) ?_ ?_
 ·
  refine go3 ?_;refine cL (ev1 I) call163 (λw hs=>pJ hs hna hda) λem h1 aa dh=>?_;subst dh;refine sG ?_;refine cnd (λce=>?_) λce=>?_
  ·
   have br:=ce;have di:=fS br;have cg:=fT br;refine go3 ?_;replace hnb:=hnb.mono aa;replace hdb:=hdb.mono aa;refine cL (ev1 I) call163 (λw hs=>pJ hs hnb hdb) λel h2 U df=>?_;subst df;refine sG ?_;refine cnd (λcd=>?_) λcd=>?_
   ·
    have bq:=cd;have ci:=fS bq;have db:=fT bq;have er:=qW di db;have eq:=qW ci cg;have ep:=qW cg db;have eo:=qW di ci;have en:=qW cg ci;have es:qa.den*qb.den≠0:=Nat.mul_ne_zero qa.den_nz qb.den_nz;simp only[zGZ br,zG0 br,zGZ bq,zG0 bq];refine k7 ?_;refine gv (zWY (vs:=[_,_,vU .u64 0]) (yL3 _ _) e3z) I (pQ ?_);refine gv (lD underlying4 I I) I ?_;refine gU 4 56 (vB (((qa.num<0)↔(s))/\((((qa.num.natAbs*qb.den)+(qb.num.natAbs*qa.den))/18446744073709551616)=(0:Nat)))) ?_ ?_
    ·
     refine zW ((qa.num<0)↔(s)) (λhg=>?_) (λhg=>?_)
     ·
      refine gT hg I (go3 ?_);refine gv (fG (k:=.u64) (q:=0) I I) I (go2 ?_);refine gqU ?_;exact congrArg some (xH hg)
     refine gF hg I (go4 ?_);refine gqU ?_;exact congrArg some (xJ hg)
    refine gc3 (λcc=>?_) λcc=>?_
    ·
     obtain⟨cf,eu⟩:=cc;refine go7 ?_;refine cL (ev3 I I I) call164 (λw hs=>aN hs oM oM oM) λek h3 O de=>?_;obtain⟨cm,cp,rfl,bh,bm⟩:=de;refine wN (A:=[]) (r':=.var b6 29 [vB ((mkRat (sg (s) (((qa.num.natAbs*qb.den)+(qb.num.natAbs*qa.den))%18446744073709551616)) (qa.den*qb.den)).num<0),cm,cp]) (zN (k:=0) (cs:=[_,_,_]) (vs:=[_,_,_]) I I I (ocr I (ocu bh (ocu bm oc0))) yH (bL I)) I I I (go5 ?_);refine yW (λE S=>yE I (wS (cs:=[_,_,_]) mh0 underlying29 I yH I) E S) ?_;have e:=zoh (a:=qa.num.natAbs*qb.den+qb.num.natAbs*qa.den) (b:=18446744073709551616) oM;rw[e] at bh bm ⊢;rw[zD9 cf];exact⟨_,_,I,bh,bm⟩
    refine go5 ?_;refine gv (tV underlying4 I I) I ?_;refine gU 5 72 (vB ((¬((qa.num<0)↔(s)))/\((qb.num.natAbs*qa.den)<=(qa.num.natAbs*qb.den)))) ?_ ?_
    ·
     refine zW (¬((qa.num<0)↔(s))) (λhg=>?_) (λhg=>?_)
     ·
      refine gT hg I (go8 ?_);refine gqU ?_;exact congrArg some (xH hg)
     refine gF hg I (go5 ?_);refine gqU ?_;exact congrArg some (xJ hg)
    refine gc3 (λbo=>?_) λbo=>?_
    ·
     obtain⟨cf,bl⟩:=bo;refine go6 ?_;refine gv (aZ (k:=.u64) (W:=18446744073709551616) I I I I oM oM) I (go3 ?_);refine cL (ev3 I I I) call164 (λw hs=>aN hs oM oM oM) λej h3 O dd=>?_;obtain⟨cl,co,rfl,bz,cb⟩:=dd;refine wN (A:=[]) (r':=.var b6 29 [vB ((mkRat (sg (qa.num<0) ((qa.num.natAbs*qb.den)-(qb.num.natAbs*qa.den))) (qa.den*qb.den)).num<0),cl,co]) (zN (k:=0) (cs:=[_,_,_]) (vs:=[_,_,_]) I I I (ocr I (ocu bz (ocu cb oc0))) yH (bL I)) I I I (go5 ?_);refine yW (λE S=>yE I (wS (cs:=[_,_,_]) mh0 underlying29 I yH I) E S) ?_;rw[zDS cf bl];exact⟨_,_,I,bz,cb⟩
    refine go5 ?_;refine gv (tV underlying4 I I) I (gc3 (λbn=>?_) λbn=>?_)
    ·
     have bs:¬qb.num.natAbs*qa.den<=qa.num.natAbs*qb.den:=λh=>bo ⟨bn,h⟩;refine go5 ?_;refine gv (aZ (k:=.u64) (W:=18446744073709551616) I I I I oM oM) I (go3 ?_);refine cL (ev3 I I I) call164 (λw hs=>aN hs oM oM oM) λei h3 O dc=>?_;obtain⟨ck,cn,rfl,bx,ca⟩:=dc;refine wN (A:=[]) (r':=.var b6 29 [vB ((mkRat (sg (s) ((qb.num.natAbs*qa.den)-(qa.num.natAbs*qb.den))) (qa.den*qb.den)).num<0),ck,cn]) (zN (k:=0) (cs:=[_,_,_]) (vs:=[_,_,_]) I I I (ocr I (ocu bx (ocu ca oc0))) yH (bL I)) I I I (go5 ?_);refine yW (λE S=>yE I (wS (cs:=[_,_,_]) mh0 underlying29 I yH I) E S) ?_;rw[s8 bn oM];exact⟨_,_,I,bx,ca⟩
    refine go2 ?_;refine zS (h2) ?_ e4z I I;refine⟨(aa.trans U),?_⟩
    trivial
   refine go1 ?_;refine zS (h2) ?_ e4z I I;refine⟨(aa.trans U),?_⟩
   trivial
  refine go1 ?_;refine zS (h1) ?_ e4z I I;refine⟨aa,?_⟩
  trivial
 rintro mc ⟨aq,eh⟩
 refine xC ?_;refine go1 ?_;refine zJ 9 _ [] [(0,.q),(1,.q),(2,.q),(3,.q),(4,.q),(5,.c),(6,.q),(7,.q),(8,.q)] yA nX zor nX (λr hr=>hr) (go5 ?_);refine w_c I ?_;replace hna:=hna.mono aq;replace hda:=hda.mono aq;refine sC (ev1 I) call166 (λw hs=>tQ hs hna hda) λdz h1 aa C=>?_;rw[uX] at C;refine qE ?_;replace hda:=hda.mono aa;replace hdb:=hdb.mono (aq.trans aa);refine cL (ev2 I I) call193 (λw hs=>s9 hs hda hdb) λdy h2 U ch=>?_;subst ch;refine gc3 (λbp=>?_) λbp=>?_
 ·
  refine zJ 15 _ [] [(0,.q),(1,.q),(4,.q),(5,.q),(8,.q),(9,.q),(2,.c),(3,.c),(6,.c),(7,.c),(10,.c),(11,.c),(12,.q),(13,.q),(14,.q)] yA nX zor nX (λr hr=>hr) (go6 ?_);refine w_c I ?_;replace hnb:=hnb.mono ((aq.trans aa).trans U);replace hdb:=hdb.mono U;refine sC (ev1 I) call166 (λw hs=>tQ hs hnb hdb) λdx h3 O bg=>?_;rw[uX] at bg;refine w_c I ?_;replace hna:=hna.mono ((aa.trans U).trans O);refine sC (ev2 I I) call165 (λw hs=>sO hs hna bg oM oM) λdw h4 ar J=>?_
  try simp only[zD] at J
  have dm:=yP ((qa.num.natAbs)) ((qb.den));refine w_c I ?_;replace hna:=hna.mono ar;replace hda:=hda.mono ((U.trans O).trans ar);refine sC (ev1 I) call166 (λw hs=>tQ hs hna hda) λdv h5 bd bf=>?_;rw[uX] at bf;refine w_c I ?_;replace hnb:=hnb.mono ((O.trans ar).trans bd);refine sC (ev2 I I) call165 (λw hs=>sO hs hnb bf oM oM) λdu h6 bj H=>?_
  try simp only[zD] at H
  have dl:=yP ((qb.num.natAbs)) ((qa.den));refine w_c I ?_;replace hnb:=hnb.mono bj;replace hdb:=hdb.mono (((O.trans ar).trans bd).trans bj);refine sC (ev1 I) call166 (λw hs=>tQ hs hnb hdb) λdt h7 bi be=>?_;rw[uX] at be;refine w_c I ?_;replace C:=C.mono (((((U.trans O).trans ar).trans bd).trans bj).trans bi);refine sC (ev2 I I) call165 (λw hs=>sO hs C be oM oM) λdr h8 bw D=>?_
  try simp only[zD] at D
  have dk:=yP ((qa.den)) ((qb.den));refine qI ?_;refine gv (lD underlying4 I I) I (gc2 (λM=>?_) λM=>?_)
  ·
   refine go5 ?_;replace J:=J.mono (((bd.trans bj).trans bi).trans bw);replace H:=H.mono (bi.trans bw);refine cL (ev2 I I) call191 (λw hs=>dM hs J H oM oM) λcy h9 bc ai=>?_
   try simp only[zD] at ai
   have bv:=kJ (((((qa.num.natAbs))*((qb.den))))) (((((qb.num.natAbs))*((qa.den)))));refine go1 ?_;replace D:=D.mono bc;refine cL (ev3 I I I) call155 (λw hs=>kS hs ai D oM oM) λcw dj bk ah=>?_
   try simp only[zD] at ah
   obtain⟨aw,az,rfl,am,ap⟩:=ah;refine wN (A:=[]) (r':=.var b6 29 [vB ((mkRat (sg (s) ((((((((qa.num.natAbs))*((qb.den)))))+(((((qb.num.natAbs))*((qa.den))))))))) (((((qa.den))*((qb.den)))))).num<0),aw,az]) (zN (k:=0) (cs:=[_,_,_]) (vs:=[_,_,_]) I I I (ocr I (ocu am (ocu ap oc0))) yH (bL I)) I I I (go4 ?_);refine yW (λE S=>yE I (wS (cs:=[_,_,_]) mh0 underlying29 I yH I) E S) ?_;rw[zD9 M];exact⟨_,_,I,am,ap⟩
  refine go7 ?_;replace J:=J.mono (((bd.trans bj).trans bi).trans bw);replace H:=H.mono (bi.trans bw);refine cL (ev2 I I) call195 (λw hs=>zDW hs J H oM) λcv h9 bc bb=>?_;obtain⟨da,rfl,ac⟩:=bb
  try simp only[zD] at ac ⊢
  have bu:=yL (Nat.sub_le (((((qa.num.natAbs))*((qb.den))))) (((((qb.num.natAbs))*((qa.den))))));refine pQ ?_;refine cnd (λZ=>?_) λZ=>?_
  ·
   have bl:=zVG Z;rw[if_neg bl];refine go6 ?_;replace D:=D.mono bc;refine cL (ev3 I I I) call155 (λw hs=>kS hs ac D oM oM) λcu dj bk ae=>?_
   try simp only[zD] at ae
   obtain⟨av,ay,rfl,ak,ao⟩:=ae;refine wN (A:=[]) (r':=.var b6 29 [vB ((mkRat (sg (qa.num<0) ((((((((qa.num.natAbs))*((qb.den)))))-(((((qb.num.natAbs))*((qa.den))))))))) (((((qa.den))*((qb.den)))))).num<0),av,ay]) (zN (k:=0) (cs:=[_,_,_]) (vs:=[_,_,_]) I I I (ocr I (ocu ak (ocu ao oc0))) yH (bL I)) I I I (go4 ?_);refine yW (λE S=>yE I (wS (cs:=[_,_,_]) mh0 underlying29 I yH I) E S) ?_;rw[zDS M oM];exact⟨_,_,I,ak,ao⟩
  have bs:=zVH Z;rw[if_pos bs];refine go6 ?_;replace J:=J.mono bc;replace H:=H.mono bc;refine cL (ev2 I I) call195 (λw hs=>zDW hs H J oM) λct dj bk ba=>?_;obtain⟨cz,rfl,ab⟩:=ba
  try simp only[zD] at ab ⊢
  have bt:=yL (Nat.sub_le (((((qb.num.natAbs))*((qa.den))))) (((((qa.num.natAbs))*((qb.den))))));refine qE ?_;replace D:=D.mono (bc.trans bk);refine cL (ev3 I I I) call155 (λw hs=>kS hs ab D oM oM) λcq ev eg ad=>?_
  try simp only[zD] at ad
  obtain⟨au,ax,rfl,aj,an⟩:=ad;refine wN (A:=[]) (r':=.var b6 29 [vB ((mkRat (sg (s) ((((((((qb.num.natAbs))*((qa.den)))))-(((((qa.num.natAbs))*((qb.den))))))))) (((((qa.den))*((qb.den)))))).num<0),au,ax]) (zN (k:=0) (cs:=[_,_,_]) (vs:=[_,_,_]) I I I (ocr I (ocu aj (ocu an oc0))) yH (bL I)) I I I (go3 ?_);refine yW (λE S=>yE I (wS (cs:=[_,_,_]) mh0 underlying29 I yH I) E S) ?_;rw[s8 M oM];exact⟨_,_,I,aj,an⟩
 have cj:=zPZ.1 (Classical.not_not.1 bp);refine go8 ?_;refine gv (lD underlying4 I I) I (gc2 (λM=>?_) λM=>?_)
 ·
  refine go5 ?_;replace hna:=hna.mono (aa.trans U);replace hnb:=hnb.mono ((aq.trans aa).trans U);refine cL (ev2 I I) call191 (λw hs=>dM hs hna hnb oM oM) λcy h3 O ai=>?_
  try simp only[zD] at ai
  have bv:=kJ ((qa.num.natAbs)) ((qb.num.natAbs));refine go1 ?_;replace C:=C.mono (U.trans O);refine cL (ev3 I I I) call155 (λw hs=>kS hs ai C oM oM) λcw h4 ar ah=>?_
  try simp only[zD] at ah
  obtain⟨aw,az,rfl,am,ap⟩:=ah;refine wN (A:=[]) (r':=.var b6 29 [vB ((mkRat (sg (s) (((((qa.num.natAbs))+((qb.num.natAbs)))))) ((qa.den))).num<0),aw,az]) (zN (k:=0) (cs:=[_,_,_]) (vs:=[_,_,_]) I I I (ocr I (ocu am (ocu ap oc0))) yH (bL I)) I I I (go4 ?_);refine yW (λE S=>yE I (wS (cs:=[_,_,_]) mh0 underlying29 I yH I) E S) ?_;rw[zZ7 M cj];exact⟨_,_,I,am,ap⟩
 refine go7 ?_;replace hna:=hna.mono (aa.trans U);replace hnb:=hnb.mono ((aq.trans aa).trans U);refine cL (ev2 I I) call195 (λw hs=>zDW hs hna hnb oM) λcv h3 O bb=>?_;obtain⟨da,rfl,ac⟩:=bb
 try simp only[zD] at ac ⊢
 have bu:=yL (Nat.sub_le ((qa.num.natAbs)) ((qb.num.natAbs)));refine pQ ?_;refine cnd (λZ=>?_) λZ=>?_
 ·
  have bl:=zVG Z;rw[if_neg bl];refine go6 ?_;replace C:=C.mono (U.trans O);refine cL (ev3 I I I) call155 (λw hs=>kS hs ac C oM oM) λcu h4 ar ae=>?_
  try simp only[zD] at ae
  obtain⟨av,ay,rfl,ak,ao⟩:=ae;refine wN (A:=[]) (r':=.var b6 29 [vB ((mkRat (sg (qa.num<0) (((((qa.num.natAbs))-((qb.num.natAbs)))))) ((qa.den))).num<0),av,ay]) (zN (k:=0) (cs:=[_,_,_]) (vs:=[_,_,_]) I I I (ocr I (ocu ak (ocu ao oc0))) yH (bL I)) I I I (go4 ?_);refine yW (λE S=>yE I (wS (cs:=[_,_,_]) mh0 underlying29 I yH I) E S) ?_;rw[zVF M cj oM];exact⟨_,_,I,ak,ao⟩
 have bs:=zVH Z;rw[if_pos bs];refine go6 ?_;replace hna:=hna.mono O;replace hnb:=hnb.mono O;refine cL (ev2 I I) call195 (λw hs=>zDW hs hnb hna oM) λct h4 ar ba=>?_;obtain⟨cz,rfl,ab⟩:=ba
 try simp only[zD] at ab ⊢
 have bt:=yL (Nat.sub_le ((qb.num.natAbs)) ((qa.num.natAbs)));refine qE ?_;replace C:=C.mono ((U.trans O).trans ar);refine cL (ev3 I I I) call155 (λw hs=>kS hs ab C oM oM) λcq h5 bd ad=>?_
 try simp only[zD] at ad
 obtain⟨au,ax,rfl,aj,an⟩:=ad;refine wN (A:=[]) (r':=.var b6 29 [vB ((mkRat (sg (s) (((((qb.num.natAbs))-((qa.num.natAbs)))))) ((qa.den))).num<0),au,ax]) (zN (k:=0) (cs:=[_,_,_]) (vs:=[_,_,_]) I I I (ocr I (ocu aj (ocu an oc0))) yH (bL I)) I I I (go3 ?_);refine yW (λE S=>yE I (wS (cs:=[_,_,_]) mh0 underlying29 I yH I) E S) ?_;rw[zSL M cj oM];exact⟨_,_,I,aj,an⟩
theorem yBM{qa:Rat}{vna vda:Value}(hna:Us .u32 h0 vna (zB qa.num.natAbs))(hda:Us .u32 h0 vda (zB (wO qa.den))){qb:Rat}{vnb vdb:Value}(hnb:Us .u32 h0 vnb (zB qb.num.natAbs))(hdb:Us .u32 h0 vdb (zB (wO qb.den)))(hqa:lq qa<=100000000000)(hqb:lq qb<=100000000000):
 Calls Tryz.prog 160 #[.agg #[vB (qa.num<0),vna,vda],.agg #[vB (qb.num<0),vnb,vdb]] w0 (Ret w0 h0 (λh r=>vO h r (qa+qb))):=by
 have ad:=vY qa;have ah:=vX qa;have aj:=vV qa;have ac:=vY qb;have ae:=vX qb;have ai:=vV qb;refine cb2 10 (.agg #[vB (qa.num<0),vna,vda]) (.agg #[vB (qb.num<0),vnb,vdb]) func160 hs ?_;refine go2 ?_;refine zK (wT (cs:=[_,_,_]) I I) I I I ?_;intro v2 r2 Z;obtain⟨b2,rfl,rfl⟩:=Z;refine zK (wT (cs:=[_,_,_]) I I) I I I ?_;intro v3 r3 U;obtain⟨b3,rfl,rfl⟩:=U;refine zK (uG (cs:=[vB ((0:Rat).num<0),.slice none 0 0,.slice none 0 0]) wB I (by simp only[zb];rfl)) I I I ?_;intro v4 r4 O;obtain⟨b4,rfl,rfl⟩:=O;refine go8 ?_;refine cL (ev3 I I I) call161 (λw hs=>zLO hs hna hda hnb hdb oM oM) λv9 h1 ak M=>?_;obtain⟨H,J,rfl,C,D⟩:=M;have ab:=lH qa (sgd (qb.num<0) qb);have aa:=zXW (qb.num<0) qb;refine wN (A:=[]) (r':=.var b4 29 [vB ((qa+sgd (qb.num<0) qb).num<0),H,J]) (zN (k:=0) (cs:=[_,_,_]) (vs:=[_,_,_]) I I I (ocr I (ocu C (ocu D oc0))) yH (bL I)) I I I (go3 ?_);refine yW (λE S=>yE I (wS (cs:=[_,_,_]) mh0 underlying29 I yH I) E S) ?_;rw[zAD] at C D ⊢;exact⟨_,_,I,C,D⟩
theorem yBH{qa:Rat}{vna vda:Value}(hna:Us .u32 h0 vna (zB qa.num.natAbs))(hda:Us .u32 h0 vda (zB (wO qa.den))){qb:Rat}{vnb vdb:Value}(hnb:Us .u32 h0 vnb (zB qb.num.natAbs))(hdb:Us .u32 h0 vdb (zB (wO qb.den)))(hqa:lq qa<=100000000000)(hqb:lq qb<=100000000000):
 Calls Tryz.prog 121 #[.agg #[vB (qa.num<0),vna,vda],.agg #[vB (qb.num<0),vnb,vdb]] w0 (Ret w0 h0 (λh r=>vO h r (qa-qb))):=by
 have ad:=vY qa;have ah:=vX qa;have aj:=vV qa;have ac:=vY qb;have ae:=vX qb;have ai:=vV qb;refine cb2 11 (.agg #[vB (qa.num<0),vna,vda]) (.agg #[vB (qb.num<0),vnb,vdb]) func121 hs ?_;refine go2 ?_;refine zK (wT (cs:=[_,_,_]) I I) I I I ?_;intro v2 r2 Z;obtain⟨b2,rfl,rfl⟩:=Z;refine zK (wT (cs:=[_,_,_]) I I) I I I ?_;intro v3 r3 U;obtain⟨b3,rfl,rfl⟩:=U;refine zK (uG (cs:=[vB ((0:Rat).num<0),.slice none 0 0,.slice none 0 0]) wB I (by simp only[zb];rfl)) I I I ?_;intro v4 r4 O;obtain⟨b4,rfl,rfl⟩:=O;refine go9 ?_;refine cL (ev3 I I I) call161 (λw hs=>zLO hs hna hda hnb hdb oM oM) λak h1 am M=>?_;obtain⟨H,J,rfl,C,D⟩:=M;have ab:=lH qa (sgd (¬(qb.num<0)) qb);have aa:=zXW (¬(qb.num<0)) qb;refine wN (A:=[]) (r':=.var b4 29 [vB ((qa+sgd (¬(qb.num<0)) qb).num<0),H,J]) (zN (k:=0) (cs:=[_,_,_]) (vs:=[_,_,_]) I I I (ocr I (ocu C (ocu D oc0))) yH (bL I)) I I I (go3 ?_);refine yW (λE S=>yE I (wS (cs:=[_,_,_]) mh0 underlying29 I yH I) E S) ?_;rw[yA8,<-Rat.sub_eq_add_neg] at C D ⊢;exact⟨_,_,I,C,D⟩
theorem yBK{n:Int}(hn1:-9223372036854775808<=n)(hn2:n<9223372036854775808):
 Calls Tryz.prog 116 #[vI n] w0 (Ret w0 h0 (λh r=>vO h r (n:Rat))):=by
 refine cb1 9 (vI n) func116 hs ?_;refine go2 ?_;refine zK (uG (cs:=[vB ((0:Rat).num<0),.slice none 0 0,.slice none 0 0]) wB I (by simp only[zb];rfl)) I I I ?_;intro v2 r2 Z;obtain⟨b2,rfl,rfl⟩:=Z;refine go7 ?_;refine cL (ev1 I) call156 (λw hs=>zWH hs oM oM) λv6 h1 ae C=>?_;have ac:=gQ (n:=n) oM oM;refine cL (vs:=[]) trivial call157 (λw hs=>zQS hs) λv7 h2 aa M=>?_;rw[dL] at M;have ab:=zJ3;replace C:=C.mono aa;refine cL (ev3 I I I) call155 (λw hs=>kS hs C M oM oM) λv8 h3 ad J=>?_
 try simp only[zD] at J
 obtain⟨O,U,rfl,D,H⟩:=J;refine wN (A:=[]) (r':=.var b2 29 [vB ((mkRat (sg (n<(0:Int)) (((n).natAbs))) ((1))).num<0),O,U]) (zN (k:=0) (cs:=[_,_,_]) (vs:=[_,_,_]) I I I (ocr I (ocu D (ocu H oc0))) yH (bL I)) I I I (go3 ?_);refine yW (λE S=>yE I (wS (cs:=[_,_,_]) mh0 underlying29 I yH I) E S) ?_;rw[zJ7] at D H ⊢;exact⟨_,_,I,D,H⟩
theorem sW{sa:Prop}{ba vna vda:Value}{xa ya:List Nat}(hba:ba=vB sa)(hna:Us .u32 h0 vna xa)(hda:Us .u32 h0 vda ya):
 Calls Tryz.prog 51 #[.agg #[ba,vna,vda]] w0 (Ret w0 h0 (λh r=>Us .u32 h r (if ya=[] then[1] else ya))):=by
 subst hba;have M:=uU hna.lt;have J:=uU hda.lt;refine cb1 10 (.agg #[vB sa,vna,vda]) func51 hs ?_;refine go2 ?_;refine zK (wT (cs:=[_,_,_]) I I) I I I ?_;intro v1 r1 H;obtain⟨b1,rfl,rfl⟩:=H;refine zKJ (λC=>?_) λC=>?_
 ·
  refine go2 ?_;refine zK (rX (kd:=.u32) (p:=1) underlying27 uH I I I) I I I ?_;intro Z r7 D;obtain rfl:=D;refine yR (by intro z hz;simp only[List.mem_singleton] at hz;subst hz;decide) ?_;intro h1 O U;refine go5 ?_;refine zC I I ?_;rw[if_pos (zMR.1 C)];exact U
 refine uK ?_;refine zC I I ?_;rw[if_neg (λh=>C (zMR.2 h))];exact hda
end
end Go.Proofs.YtpkaegemlpaenaaGreat
