/- Texts that the proof needs, part 3. -/
import Derived.Test.YtpkaegemlpaenaaGreatKD2
set_option linter.unusedVariables false
set_option linter.unusedSimpArgs false
set_option linter.defProp false
namespace Bk
def y4i:=@Pc.here
def y4u:=@Pc.arr
def y4e:=@Pc.fst
def y5i:=@Pc.snd
def y5u:=@Pc.tx
def y5e:=@Pc.ty
def y6i:=@Pc.tz
end Bk
namespace Go.Proofs.YtpkaegemlpaenaaGreat
open Bk Go Tryz
set_option maxRecDepth 10000
set_option maxHeartbeats 1000000
attribute [local irreducible] GL GC GQ W OpV
section
variable{w0:World}{h0:Mem}(hs:MLe h0 (mem w0))
include hs
theorem jX{v:Value}{xs:List Nat}(hv:Us .u32 h0 v xs):
 Calls prog 196 #[v] w0 (Ret w0 h0 (λh r=>r=tB 1 v 0 (zB (val xs)).length/\Us .u32 h r (zB (val xs)))):=by
 have J:=hv.lt63;refine cb1 21 v func196 hs ?_;refine sS ?_;refine gcL (ι:=Nat) (λ(k:(Nat))=>(k<=xs.length/\∀i,k<=i->xs.getD i 0=0,[(0,v),(3,vI ↑k)],[],h0,k)) xs.length ?_ ?_
 · exact⟨zbe _,λi hi=>by rw[zoa,zru hi];rfl⟩
 rintro k ⟨hk,hz⟩
 refine xD ?_;refine go5 ?_;refine gU 8 15 (vB (((0:Int)<↑k)/\(xs.getD (k-1) 0=0))) ?_ ?_
 ·
  refine zY ((0:Int)<↑k) (λH=>?_) (λH=>?_)
  ·
   refine gT H I (go7 ?_);refine gv (zW (k-1) underlying27 sizeOf124 I I hv oM oM) I (go3 ?_);refine gv (fV (k:=.u32) (q:=0) I I) I (go2 ?_);refine gqU ?_;exact y3u (xL H)
  refine gF H I (go8 ?_);refine gqU ?_;exact y3u (xM H)
 refine gc2 (λC=>?_) λC=>?_
 ·
  refine go9 ?_;refine gqL (k-1) ?_ ?_ (he:=⟨I,?_,y3e⟩)
  ·
   exact⟨by omega,λi hi=>by
    by_cases e:i=k-1
    · rw[e];exact C.2
    · exact hz i oM⟩
  · have:=C.1;omega
  · exact y3u (zbi vI (by have:=C.1;omega))
 refine go9 ?_;refine gv (zAD _ underlying27 sizeOf124 I I hv.shape I oM) I ?_;have D:=hv.sub (lo:=0) (hi:=_) oM oM;refine go4 ?_;refine zC I I ?_;have e:(xs.drop 0).take (k-0)=zB (val xs):=zI2 hv.lt hk hz (by
  by_cases h0:k=0
  · exact .inl h0
  · exact .inr λh1=>C ⟨by omega,h1⟩)
 rw[e] at D;have M:(zB (val xs)).length=k:=by
  rw[<-e,zei,ziu];omega
 refine⟨?_,D⟩;rw[M]
theorem nat_of{n:Nat}(hn:n<18446744073709551616):
 Calls prog 192 #[vU .u64 n] w0 (Ret w0 h0 (λh r=>Us .u32 h r (zB n))):=by
 refine cb1 10 (vU .u64 n) func192 hs ?_;refine uY ?_;refine zH (zGV (kd:=.u32) underlying27 uP I I I I) I I I ?_;intro U Z D;obtain rfl:=D;refine yU (by intro x hx;simp only[zfu,zgu,or_false] at hx;simp only[ub];omega) ?_;intro h1 J M;refine cL (ev1 I) call196 (λw hs=>jX hs M) λO h2 H C=>?_;replace C:=C.2;refine go4 ?_;refine zC I I ?_;have e:val [n%4294967296,n/2^32%4294967296]=n:=by simp only[val];omega
 rw[e] at C;exact C
theorem zE6{v v':Value}{xs ys:List Nat}(hv:Us .u32 h0 v xs)(hv':Us .u32 h0 v' ys):
 Calls prog 204 #[v,v'] w0 (Ret w0 h0 (λ_ r=>r=vI (pO (val xs) (val ys)))):=by
 refine cb2 45 v v' func204 hs ?_;refine go8 ?_;refine cL (ev1 I) call196 (λw hs=>jX hs hv) λv7 h1 ab C=>?_;replace C:=C.2;refine go1 ?_;replace hv':=hv'.mono ab;refine cL (ev1 I) call196 (λw hs=>jX hs hv') λv9 h2 aa D=>?_;replace D:=D.2;replace C:=C.mono aa;generalize hA:zB (val xs)=AA at *;generalize hB:zB (val ys)=BB at *;have vA:val AA=val xs:=by rw[<-hA,zE]
 have M:val BB=val ys:=by rw[<-hB,zE]
 have fA:Fit AA:=C.lt;have fB:Fit BB:=D.lt;have lA:=C.lt63;have lB:=D.lt63;refine sS ?_;refine cnd (λZ=>?_) λZ=>?_
 ·
  refine zDP (λU=>?_) λU=>?_
  ·
   refine go8 ?_;refine zC I I ?_;rw[zCF (rV (by rw[hA,hB];omega))]
  refine go9 ?_;refine zC I I ?_;rw[zCG (rV (by rw[hA,hB];omega))]
 have hl:AA.length=BB.length:=by omega
 refine uY ?_;refine gcL (ι:=Nat) (λ(j:(Nat))=>(j<=AA.length/\AA.drop j=BB.drop j,[(0,v7),(1,v9),(5,vI (↑j-1))],[],h2,j)) AA.length ?_ ?_
 · exact⟨zbe _,by rw[zmu (zbe _),zmu oM]⟩
 rintro j ⟨hj,hd⟩
 refine xD ?_;refine gc7 (λO=>?_) λO=>?_
 ·
  refine go5 ?_;refine zL 9 _ [] (zai 0 9 []) yF nX zou nX (λr hr=>hr) (go2 ?_);refine w_q I (λh' L' hh hR=>zW (j-1) underlying27 sizeOf124 I I (C.mono hh) oM oM) I (w_q I (λh' L' hh hR=>wC isAgg124 I (C.mono hh) oM) I (go2 ?_));refine w_q I (λh' L' hh hR=>zW (j-1) underlying27 sizeOf124 I I (D.mono hh) oM oM) I (w_q I (λh' L' hh hR=>wC isAgg124 I (D.mono hh) oM) I (gc3 (λJ=>?_) λJ=>?_))
  ·
   refine go2 ?_;refine zL 9 _ [] (zai 0 9 []) yF nX zou nX (λr hr=>hr) (go2 ?_);refine w_q I (λh' L' hh hR=>zW (j-1) underlying27 sizeOf124 I I (C.mono hh) oM oM) I (w_q I (λh' L' hh hR=>wC isAgg124 I (C.mono hh) oM) I (go2 ?_));refine w_q I (λh' L' hh hR=>zW (j-1) underlying27 sizeOf124 I I (D.mono hh) oM oM) I (w_q I (λh' L' hh hR=>wC isAgg124 I (D.mono hh) oM) I (gc3 (λH=>?_) λH=>?_))
   ·
    refine uY ?_;refine zC I I ?_;rw[<-vA,<-M,zCF (zEW fA hl oM hj hd H)]
   refine pL ?_;refine zC I I ?_;rw[<-vA,<-M,zCG (zEW fB hl.symm oM oM hd.symm oM)]
  refine go8 ?_;refine gqL (j-1) ?_ ?_ (he:=⟨I,I,?_,y3e⟩)
  ·
   refine⟨by omega,?_⟩;rw[tN AA (j-1) oM,tN BB (j-1) oM];have e:j-1+1=j:=by omega
   rw[e,hd,zdi J]
  · omega
  · exact y3u (zbi vI oM)
 refine qK ?_;refine zC I I ?_;have h0:j=0:=by omega
 subst h0;simp only[yci] at hd;rw[<-vA,<-M,hd,zT6]
theorem zFW{v:Value}{xs:List Nat}(hv:Us .u32 h0 v xs)(hl:xs.length<=1099511627776):
 Calls prog 207 #[v] w0 (tO w0 h0 (λ_ r L=>L=[.us 124 .u32 r xs])):=by
 refine cb1 8 v func207 hs ?_;refine go9 ?_;refine gv (zQR underlying27 I (let ⟨a,c,hv⟩:=hv.one;⟨a,_,c,hv⟩)) I (gc2 (λC=>?_) λC=>?_)
 ·
  refine go3 ?_;refine zDN (E:=124) (k:=.u32) (go4 ?_);refine qP I I ?_;obtain⟨m,J,rfl⟩:=C;have hx:xs=[]:=hv.nil_of;subst hx
  rfl
 refine go4 ?_;refine zH (zGW (kd:=.u32) underlying27 uP I I) I I I ?_;intro O Z H;obtain rfl:=H;refine go1 ?_;refine xP (A:=[]) (fD (kd:=.u32) (bytes:=4) underlying27 uP I I I I I hv (by simp only[lN];omega) (by simp only[lN];omega)) I I I ?_;intro M U D;obtain rfl:=D;refine go4 ?_;refine qP I I ?_
 rfl
theorem y9{v v':Value}{xs ys:List Nat}(hv:Us .u32 h0 v xs)(hv':Us .u32 h0 v' ys)(hl:xs.length<=1099511627776)(hl':ys.length<=1099511627776):
 Calls prog 191 #[v,v'] w0 (Ret w0 h0 (λh r=>Us .u32 h r (zB (val xs+val ys)))):=by
 refine cb2 58 v v' func191 hs ?_;refine go5 ?_;refine jR (ι:=Value×List Nat×Value×List Nat) (λ(M,D,U,H)=>Us .u32 h0 M D/\Us .u32 h0 U H/\H.length<=D.length/\val D+val H=val xs+val ys/\D.length<=1099511627776) (λ(M,D,U,H)=>[(0,M),(1,U)]) (λ(M,D,U,H)=>[]) (λ(M,D,U,H)=>h0) ?_ ?_
 ·
  refine go5 ?_;refine gv (vS underlying27 I hv') I (gc3 (λae=>?_) λae=>?_)
  ·
   refine go6 ?_;refine zV (v',ys,v,xs) ?_ e2z I I;exact⟨hv',hv,by omega,by omega,hl'⟩
  refine go1 ?_;refine zV (v,xs,v',ys) ?_ e2z I I;exact⟨hv,hv',by omega,I,hl⟩
 rintro⟨M,D,U,H⟩ ⟨ha,hb,ao,zWG,ap⟩
 refine xD ?_;refine go5 ?_;refine jE (kd:=.u32) (by':=4) (D.length+1) underlying27 uP I I I I I oM oM oM oM I ?_;intro O;refine go5 ?_;refine asg (v:=vU .u64 0) I I (qK ?_);refine gO (ι:=List Nat×Nat) (λ(C,c)=>C.length<=D.length/\Fit C/\c<=1/\val C+4294967296^C.length*c=val (D.take C.length)+val (H.take C.length)) (λ(C,c)=>[(0,M),(1,U),(5,O),(6,vU .u64 c),(20,M),(21,vI ↑D.length),(22,vI ↑C.length)]) (λ(C,c)=>[.us 124 .u32 O (tY C (D.length+1))]) (λ(C,c)=>h0) (λ(C,c)=>D.length-C.length) ([],0) ?_ e7 I I ?_
 · exact⟨by simp,λx hx=>by simp at hx,by omega,by simp[val]⟩
 rintro⟨C,c⟩ ⟨an,ab,au,aa⟩
 refine xD ?_;refine gc6 (λad=>?_) λad=>?_
 ·
  refine go7 ?_;refine gv (zW _ underlying27 sizeOf124 I I ha I oM) I (go1 ?_);have am:=ha.get32 C.length;have ak:=hb.get32 C.length;refine pL ?_;refine jR (ι:=Unit) (λ(_u:(Unit))=>True) (λ(_u:(Unit))=>[(0,M),(1,U),(5,O),(6,vU .u64 (c+D.getD C.length 0+H.getD C.length 0)),(7,vI ↑C.length),(20,M),(21,vI ↑D.length),(22,vI ↑C.length)]) (λ(_u:(Unit))=>[.us 124 .u32 O (tY C (D.length+1))]) (λ(_u:(Unit))=>h0) ?_ ?_
  ·
   refine gc8 (λac=>?_) λac=>?_
   ·
    refine go4 ?_;refine gv (zW _ underlying27 sizeOf124 I I hb I oM) I (go5 ?_);refine zV (()) ?_ e8 I I
    trivial
   refine go1 ?_;refine zV (()) ?_ ⟨I,I,I,?_,I,I,I,I,y3e⟩ I I
   · trivial
   · exact y3u (zbi (vU .u64) (by rw[sU (xs:=H) oM];omega))
  rintro _u ai
  refine xD ?_;refine go6 ?_;refine gv (xH (A:=[]) _ underlying27 sizeOf124 I I I (by rw[uM oM];omega)) I (wY sizeOf124 I I (by rw[uM oM];omega) (pL ?_));refine jZ (C++[(c+D.getD C.length 0+H.getD C.length 0)%4294967296],(c+D.getD C.length 0+H.getD C.length 0)/2^32) ?_ ?_ ⟨I,I,I,I,I,I,?_,y3e⟩ ?_ I
  ·
   have ah:C.length<D.length:=by omega
   refine⟨by simp;omega,uR ab (aP oM),by omega,?_⟩;rw[lAz,zki,uW D _ ah,uL H,rH,zmi];have e:=z7e (c+D.getD C.length 0+H.getD C.length 0) 4294967296;have e2:(2:Nat)^32=4294967296:=I;rw[e2];generalize (c+D.getD C.length 0+H.getD C.length 0)/4294967296=q at *;generalize (c+D.getD C.length 0+H.getD C.length 0)%4294967296=r at *;grind
  ·
   dsimp only;simp;omega
  · exact y3u (zbi vI zo2)
  try dsimp only[List.nil_append,List.cons_append]
  rw[pM oM]
 refine uY ?_;refine gv (xH (A:=[]) (D.length) underlying27 sizeOf124 I I zo3 (by rw[uM oM];omega)) I (wY sizeOf124 I I (by rw[uM oM];omega) (go5 ?_));have hk:C.length=D.length:=by omega
 have Z:(tY C (D.length+1)).set D.length (c%4294967296)=C++[c%4294967296]:=by
  rw[<-hk,pM oM,aD zo2]
 refine yU (by rw[Z];exact uR ab (aP oM)) ?_;intro h1 ar ho;refine cL (ev1 I) call196 (λw hs=>jX hs ho) λaj h2 aq J=>?_;replace J:=J.2;refine go4 ?_;refine zC I I ?_;have e:val (C++[c%4294967296])=val xs+val ys:=by
  rw[rH,zoh oM,aa,wG oM,wG oM];exact zWG
 rw[Z,e] at J;exact J
theorem zE4{v v':Value}{xs ys:List Nat}(hv:Us .u32 h0 v xs)(hv':Us .u32 h0 v' ys)(hl:xs.length<=1099511627776):
 Calls prog 195 #[v,v'] w0 (Ret w0 h0 (λh r=>∃u,r=.tuple #[u,vI (if val xs<val ys then 7 else 0)]/\Us .u32 h u (zB (val xs-val ys)))):=by
 refine cb2 54 v v' func195 hs ?_;refine qK ?_;refine cL (ev2 I I) call204 (λw hs=>zE6 hs hv hv') λao h1 ac ab=>?_;subst ab;refine gc3 (λJ=>?_) λJ=>?_
 ·
  have O:=rS.1 J;refine go8 ?_;refine wU I I I ?_;rw[zau O,Nat.sub_eq_zero_of_le (yku O),xO];exact⟨_,I,Us.nil _ _⟩
 have ak:val ys<=val xs:=yfi λhc=>J (rS.2 hc);refine go5 ?_;replace hv':=hv'.mono ac;refine cL (ev1 I) call196 (λw hs=>jX hs hv') λZ h2 aj H=>?_;replace H:=H.2;replace hv:=hv.mono (ac.trans aj);refine go7 ?_;refine jE (kd:=.u32) (by':=4) _ underlying27 uP I I I I I I I oM oM I ?_;intro M;refine go5 ?_;refine asg (v:=vU .u64 0) I I (qK ?_);refine gO (ι:=List Nat×Nat) (λ(C,c)=>C.length<=xs.length/\Fit C/\c<=1/\val C+val ((zB (val ys)).take C.length)=val (xs.take C.length)+4294967296^C.length*c) (λ(C,c)=>[(1,Z),(6,M),(7,vU .u64 c),(21,v),(22,vI ↑xs.length),(23,vI ↑C.length)]) (λ(C,c)=>[.us 124 .u32 M (tY C xs.length)]) (λ(C,c)=>h2) (λ(C,c)=>xs.length-C.length) ([],0) ?_ e6z I I ?_
 · exact⟨by simp,λx hx=>by simp at hx,by omega,by simp[val]⟩
 rintro⟨C,c⟩ ⟨ar,U,aw,aa⟩
 refine xD ?_;refine gc6 (λae=>?_) λae=>?_
 ·
  refine go7 ?_;refine gv (zW _ underlying27 sizeOf124 I I hv I oM) I (go1 ?_);have aq:=hv.get32 C.length;have ap:=H.get32 C.length;refine uQ ?_;refine jR (ι:=Unit) (λ(_u:(Unit))=>True) (λ(_u:(Unit))=>[(1,Z),(6,M),(8,vI ↑C.length),(9,vU .u32 (xs.getD C.length 0)),(10,vU .u64 (c+(zB (val ys)).getD C.length 0)),(21,v),(22,vI ↑xs.length),(23,vI ↑C.length)]) (λ(_u:(Unit))=>[.us 124 .u32 M (tY C xs.length)]) (λ(_u:(Unit))=>h2) ?_ ?_
  ·
   refine gc8 (λad=>?_) λad=>?_
   ·
    refine go4 ?_;refine gv (zW _ underlying27 sizeOf124 I I H I oM) I (go5 ?_);refine zV (()) ?_ e8 I I
    trivial
   refine go1 ?_;refine zV (()) ?_ ⟨I,I,I,I,?_,I,I,I,y3e⟩ I I
   · trivial
   · exact y3u (zbi (vU .u64) (by rw[sU (xs:=zB (val ys)) oM];omega))
  rintro _u am
  refine xD ?_;refine go5 ?_;refine gv (mS (k:=.u64) (W:=18446744073709551616) I I I I oM) I (go9 ?_);refine gv (xH (A:=[]) _ underlying27 sizeOf124 I I I (by rw[uM oM];omega)) I (wY sizeOf124 I I (by rw[uM oM];omega) (go4 ?_));refine gv (fT (k:=.u64) (s:=63) (yk:=.u64) I I I (by simp only[ub];omega)) I (go8 ?_);generalize hX:xs.getD C.length 0=X at *;generalize hY:(zB (val ys)).getD C.length 0=Y at *;refine jZ (C++[(X+18446744073709551616-(c+Y))%18446744073709551616%4294967296],(X+18446744073709551616-(c+Y))%18446744073709551616/2^63) ?_ ?_ ⟨I,I,I,I,I,?_,y3e⟩ ?_ I
  ·
   have O:C.length<xs.length:=by omega
   refine⟨by simp;omega,uR U (aP oM),by omega,?_⟩;rw[lAz,zki,uW xs _ O,uL (zB (val ys)),rH,zmi,hX,hY];have e:(X+18446744073709551616-(c+Y))%18446744073709551616%4294967296+c+Y=X+4294967296*((X+18446744073709551616-(c+Y))%18446744073709551616/2^63):=by omega
   generalize (X+18446744073709551616-(c+Y))%18446744073709551616/2^63=q at *;generalize (X+18446744073709551616-(c+Y))%18446744073709551616%4294967296=r at *;grind
  ·
   dsimp only;simp;omega
  · exact y3u (zbi vI zo2)
  try dsimp only[List.nil_append,List.cons_append]
  rw[pM oM]
 refine go8 ?_;have hk:C.length=xs.length:=by omega
 rw[aD hk];refine yU (by exact U) ?_;intro h3 ai ho;refine cL (ev1 I) call196 (λw hs=>jX hs ho) λan h4 ah D=>?_;replace D:=D.2;refine go5 ?_;refine wU I I I ?_;replace hv:=hv.mono (ai.trans ah);rw[zae oM];refine⟨_,I,?_⟩;have e:val C=val xs-val ys:=by
  have av:(zB (val ys)).length<=xs.length:=zci (yL ak) (qA hv.lt);rw[wG oM,zE,wG oM] at aa;have h1:=gE U;have h2:c=0:=zdu λau=>by
   have:c=1:=by omega
   subst this;omega
  subst h2;omega
 rw[e] at D;exact D
theorem rA{v v':Value}{xs ys:List Nat}(hv:Us .u32 h0 v xs)(hv':Us .u32 h0 v' ys)(hl:xs.length<=1099511627776)(hl':ys.length<=1099511627776):
 Calls prog 165 #[v,v'] w0 (Ret w0 h0 (λh r=>Us .u32 h r (zB (val xs*val ys)))):=by
 have aw:Fit xs:=hv.lt;have av:Fit ys:=hv'.lt;refine cb2 69 v v' func165 hs ?_;refine uQ ?_;refine gv (vS underlying27 I hv') I (go1 ?_);refine jE (kd:=.u32) (by':=4) (xs.length+ys.length) underlying27 uP I I I I I oM oM oM oM I ?_;intro J;refine uY ?_;refine gcL (ι:=Nat×List Nat) (λ(k,M)=>(k<=xs.length/\M.length=xs.length+ys.length/\Fit M/\val M=val (xs.take k)*val ys/\∀i,k+ys.length<=i->M.getD i 0=0,[(1,v'),(5,J),(17,v),(18,vI ↑xs.length),(19,vI ↑k)],[.us 124 .u32 J M],h0,xs.length-k)) (0,List.replicate (xs.length+ys.length) 0) ?_ ?_
 · exact⟨zui _,by simp,kK _,by rw[bJ];simp[val],λi _=>dP _ _⟩
 rintro⟨k,M⟩ ⟨hk,ae,aa,O,hz⟩
 refine xD ?_;refine gc6 (λai=>?_) λai=>?_
 ·
  refine go7 ?_;refine gv (zW _ underlying27 sizeOf124 I I hv I oM) I (go1 ?_);have aq:=hv.get32 k;refine go8 ?_;refine gv (fV (k:=.u32) (q:=0) I I) I (gc2 (λH=>?_) λH=>?_)
  ·
   have ab:xs.getD k 0=0:=H;refine go8 ?_;refine gqL (k+1,M) ?_ ?_
   · exact⟨by omega,ae,aa,by rw[O,uW xs k oM,ab];simp,λi hi=>hz i oM⟩
   omega
  have ab:xs.getD k 0≠0:=H;refine go4 ?_;refine asg (v:=vU .u64 0) I I (go6 ?_);refine gv (vS underlying27 I hv') I (go4 ?_);refine gcL (ι:=Nat×List Nat×Nat) (λ(j,C,c)=>(j<=ys.length/\C.length=xs.length+ys.length/\Fit C/\c<4294967296/\val C+4294967296^(k+j)*c=val M+4294967296^k*(xs.getD k 0*val (ys.take j))/\∀i,k+ys.length<=i->C.getD i 0=0,[(1,v'),(5,J),(6,vI ↑k),(7,vU .u32 (xs.getD k 0)),(8,vU .u64 c),(17,v),(18,vI ↑xs.length),(19,vI ↑k),(26,v'),(27,vI ↑ys.length),(28,vI ↑j)],[.us 124 .u32 J C],h0,ys.length-j)) (0,M,0) ?_ ?_
  · exact⟨zui _,ae,aa,by omega,by simp[val],hz⟩
  rintro⟨j,C,c⟩ ⟨hj,ad,Z,ak,ac,U⟩
  refine xD ?_;refine gc6 (λah=>?_) λah=>?_
  ·
   refine go7 ?_;refine gv (zW _ underlying27 sizeOf124 I I hv' I oM) I (gv (wC isAgg124 I hv' oM) I ?_);have ap:=hv'.get32 j;have ao:=jB Z (k+j);have an:xs.getD k 0*ys.getD j 0<=4294967295*4294967295:=z7i oM oM;refine zAQ ?_;refine gv (xH (A:=[]) (k+j) underlying27 sizeOf124 I I oM oM) I (gv (tC (A:=[]) isAgg124 I oM) I (sS ?_));refine gv (xH (A:=[]) (k+j) underlying27 sizeOf124 I I oM oM) I (wY sizeOf124 I I oM (pL ?_));refine gqL (j+1,C.set (k+j) ((c+(xs.getD k 0*ys.getD j 0+C.getD (k+j) 0))%4294967296),(c+(xs.getD k 0*ys.getD j 0+C.getD (k+j) 0))/2^32) ?_ ?_
   ·
    refine⟨by omega,by simp[ad],nZ Z _ oM,by omega,?_,λi hi=>?_⟩
    · have h1:=nI (xs:=C) (i:=k+j) oM ((c+(xs.getD k 0*ys.getD j 0+C.getD (k+j) 0))%4294967296)
      have e:=z7e (c+(xs.getD k 0*ys.getD j 0+C.getD (k+j) 0)) 4294967296;have e2:(2:Nat)^32=4294967296:=I;rw[uW ys j oM,e2];have ep:(4294967296:Nat)^(k+(j+1))=4294967296^k*4294967296^j*4294967296:=by rw[<-z3e,zmi,zni]
      rw[ep];rw[zni] at h1 ac;generalize (c+(xs.getD k 0*ys.getD j 0+C.getD (k+j) 0))/4294967296=q at *;generalize (c+(xs.getD k 0*ys.getD j 0+C.getD (k+j) 0))%4294967296=r at *;grind
    · rw[jQ oM];exact U i hi
   omega
  refine go9 ?_;refine gv (vS underlying27 I hv') I (go3 ?_);refine gv (xH (A:=[]) (k+ys.length) underlying27 sizeOf124 I I oM oM) I (wY sizeOf124 I I oM (go7 ?_));refine gqL (k+1,C.set (k+ys.length) (c%4294967296)) ?_ ?_
  ·
   have hj:j=ys.length:=by omega
   subst hj;refine⟨by omega,by simp[ad],nZ Z _ oM,?_,λi hi=>?_⟩
   · have h1:=nI (xs:=C) (i:=k+ys.length) oM (c%4294967296)
     rw[U _ (zbe _)] at h1;rw[wG (zbe _)] at ac;rw[zoh ak] at h1 ⊢;rw[uW xs k oM];grind
   · rw[jQ oM];exact U i oM
  omega
 refine go8 ?_;refine yU (by exact aa) ?_;intro h1 au ho;refine cL (ev1 I) call196 (λw hs=>jX hs ho) λam h2 ar D=>?_;replace D:=D.2;refine go4 ?_;refine zC I I ?_;have aj:k=xs.length:=by omega
 rw[O,aj,wG (zbe _)] at D;exact D
end
set_option maxRecDepth 100000 in
section
variable{w0:World}{h0:Mem}(hs:MLe h0 (mem w0))
include hs
theorem zH5{x:Nat}(hx:x<4294967296):
 Calls prog 197 #[vU .u32 x] w0 (Ret w0 h0 (λ_ r=>r=vI ↑(uS x))):=by
 refine cb1 19 (vU .u32 x) func197 hs ?_;refine go5 ?_;refine jR (ι:=Nat×Nat) (λ(D,H)=>D<65536/\H<=16/\uS x=uS D+H) (λ(D,H)=>[(0,vU .u32 D),(2,vI ↑H)]) (λ(D,H)=>[]) (λ(D,H)=>h0) ?_ ?_
 ·
  refine go3 ?_;refine gv (cG (k:=.u32) (q:=65536) I I) I (gc2 (λO=>?_) λO=>?_)
  ·
   refine go3 ?_;refine gv (fT (k:=.u32) (s:=16) (yk:=.u64) I I I (by simp only[ub];omega)) I (go6 ?_);refine zV (x/2^16,16) ?_ e2z I I;exact⟨by omega,by omega,zD0 O⟩
  refine go1 ?_;refine zV (x,0) ?_ e2z I I;exact⟨by omega,by omega,I⟩
 rintro⟨D,H⟩ ⟨aa,ac,U⟩
 refine xD ?_;refine jR (ι:=Nat×Nat) (λ(C,J)=>C<256/\J<=24/\uS x=uS C+J) (λ(C,J)=>[(0,vU .u32 C),(2,vI ↑J)]) (λ(C,J)=>[]) (λ(C,J)=>h0) ?_ ?_
 ·
  refine go3 ?_;refine gv (cG (k:=.u32) (q:=256) I I) I (gc2 (λM=>?_) λM=>?_)
  ·
   refine go3 ?_;refine gv (fT (k:=.u32) (s:=8) (yk:=.u64) I I I (by simp only[ub];omega)) I (go8 ?_);refine zV (D/2^8,H+8) ?_ ⟨I,?_,y3e⟩ I I
   · exact⟨by omega,by omega,by rw[U,zD0 (k:=8) M];omega⟩
   · exact y3u (zbi vI oM)
  refine go1 ?_;refine zV (D,H) ?_ e2z I I;exact⟨by omega,by omega,U⟩
 rintro⟨C,J⟩ ⟨Z,ab,ae⟩
 refine xD ?_;refine go4 ?_;refine gv (tI (k:=.u32) (k':=.u8) (W:=256) underlying124 underlying5 I I I) I ?_;have ad:uS C<=8:=oI (k:=8) oM;refine eQ (zK2 (λi=>uS i) (C%256) underlying9 I I I (by decide +kernel) (by show C%256<256;omega)) I I I ?_;rw[zoh Z];refine gv (zGG (k:=.u8) underlying5 underlying3 I oM) I (go5 ?_);refine zC I I ?_;exact zbi vI oM
theorem zWY{x:Nat}(hx:x<4294967296):
 Calls prog 210 #[vU .u32 x] w0 (Ret w0 h0 (λ_ r=>r=vI ↑(32-uS x))):=by
 refine cb1 6 (vU .u32 x) func210 hs ?_;refine go8 ?_;refine cL (ev1 I) call197 (λw hs=>zH5 hs oM) λv4 h1 D C=>?_;subst C;have H:uS x<=32:=oI (k:=32) oM;refine gv (vJ (p:=32) I I oM oM) I (go4 ?_);refine zC I I ?_;exact zbi vI oM
theorem zBT{v:Value}{xs:List Nat}(hv:Us .u32 h0 v xs)(hl:xs.length<=1099511627776):
 Calls prog 162 #[v] w0 (Ret w0 h0 (λ_ r=>r=vI ↑(uS (val xs)))):=by
 refine cb1 20 v func162 hs ?_;refine go8 ?_;refine cL (ev1 I) call196 (λw hs=>jX hs hv) λv4 h1 J C=>?_;replace C:=C.2;replace hv:=hv.mono J;have ab:=qA hv.lt;generalize hA:zB (val xs)=AA at *;have O:val AA=val xs:=by rw[<-hA,zE]
 have U:Fit AA:=C.lt;refine zDO (λM=>?_) λM=>?_
 ·
  refine go7 ?_;refine zC I I ?_;have h0:AA=[]:=zof oM;rw[<-O,h0];rfl
 refine go6 ?_;have H:0<AA.length:=by omega
 refine go1 ?_;refine gv (gX (p:=32) I I oM oM) I (go4 ?_);refine gv (zW (AA.length-1) underlying27 sizeOf124 I I C oM oM) I (go1 ?_);have aa:=jB U (AA.length-1);have hb:=oI (n:=AA.getD (AA.length-1) 0) (k:=32) oM;refine cL (ev1 I) call197 (λw hs=>zH5 hs oM) λZ h2 ac D=>?_;subst D;refine go5 ?_;refine zC I I ?_;rw[<-O,zDZ U (k:=AA.length-1) oM (by rw[<-hA];exact rB (by rw[hA];exact H))];exact zbi vI oM
theorem zOC{v:Value}{xs:List Nat}(hv:Us .u32 h0 v xs)(hl:xs.length<=2):
 Calls prog 208 #[v] w0 (Ret w0 h0 (λ_ r=>r=vU .u64 (val xs))):=by
 have hf:Fit xs:=hv.lt;refine cb1 21 v func208 hs ?_;refine go2 ?_;refine asg (v:=vU .u64 0) I I (go4 ?_);refine asg (v:=vU .u64 0) I I (uY ?_);have D:val (xs.drop xs.length)=0:=by rw[zmu (zbe _)];rfl
 refine gO (ι:=Nat) (λ(j:(Nat))=>j<=xs.length) (λ(j:(Nat))=>[(0,v),(3,vU .u64 (val (xs.drop j))),(4,vI (↑j-1))]) (λ(j:(Nat))=>[]) (λ(j:(Nat))=>h0) (λ(j:(Nat))=>j) xs.length ?_ ⟨?_,?_,?_,y3e⟩ I I ?_
 · exact zbe _
 · exact I
 · exact y3u (zbi (vU .u64) D.symm)
 · exact I
 rintro j J
 refine xD ?_;refine gc7 (λH=>?_) λH=>?_
 ·
  refine go6 ?_;refine gv (fU (k:=.u64) (s:=32) (yk:=.u64) (W:=18446744073709551616) I I I I) I (go2 ?_);refine gv (zW (j-1) underlying27 sizeOf124 I I hv oM oM) I (go1 ?_);have C:=hv.get32 (j-1);refine go1 ?_;refine gv (rU (k:=.u64) I I I (by simp only[ub];omega) (by simp only[ub];omega)) I ?_;rw[cH (by
   have h2:=gE (dQ hf j);rw[ziu] at h2;have h3:(4294967296:Nat)^(xs.length-j)<=4294967296^1:=zji oM oM;omega) C]
  refine go9 ?_;refine jZ (j-1) ?_ ?_ ⟨I,?_,?_,y3e⟩ I I
  · omega
  · omega
  ·
   rw[kM xs (j-1) oM];exact y3u (zbi (vU .u64) (by rw[show j-1+1=j by omega];omega))
  · exact y3u (zbi vI oM)
 refine uY ?_;refine zC I I ?_;rw[show j=0 by omega];rfl
theorem zV4{v:Value}{xs:List Nat}{b:Nat}(hv:Us .u32 h0 v xs)(hb:0<b)(hb':b<4294967296)(hl:xs.length<=1099511627776):
 Calls prog 209 #[v,vU .u32 b] w0 (Ret w0 h0 (λh r=>∃u,r=.tuple #[u,vU .u32 (val xs%b)]/\Us .u32 h u (zB (val xs/b)))):=by
 have hf:Fit xs:=hv.lt;refine cb2 43 v (vU .u32 b) func209 hs ?_;refine go3 ?_;refine asg (v:=vU .u32 0) I I (go6 ?_);refine jE (kd:=.u32) (by':=4) _ underlying27 uP I I I I I I I oM oM I ?_;intro J;refine go5 ?_;refine asg (v:=vU .u64 0) I I (uY ?_);refine gO (ι:=Nat×List Nat×Nat) (λ(j,D,r)=>j<=xs.length/\D.length=xs.length-j/\Fit D/\r<b/\val (xs.drop j)=b*val D+r) (λ(j,D,r)=>[(0,v),(1,vU .u32 b),(6,J),(7,vU .u64 r),(8,vI (↑j-1))]) (λ(j,D,r)=>[.us 124 .u32 J (fK j D)]) (λ(j,D,r)=>h0) (λ(j,D,r)=>j) (xs.length,[],0) ?_ e5z ?_ I ?_
 · exact⟨zbe _,by simp,λx hx=>by simp at hx,hb,by rw[zmu (zbe _)];rfl⟩
 ·
  try dsimp only[List.nil_append,List.cons_append]
  exact zbi (λz=>[Res.us 124 .u32 J z]) (lV _)
 rintro⟨j,D,r⟩ ⟨hj,ac,M,Z,C⟩
 refine xD ?_;refine gc7 (λO=>?_) λO=>?_
 ·
  refine go7 ?_;refine gv (fU (k:=.u64) (s:=32) (yk:=.u64) (W:=18446744073709551616) I I I I) I (go2 ?_);refine gv (zW (j-1) underlying27 sizeOf124 I I hv oM oM) I (go1 ?_);have U:=hv.get32 (j-1);refine go1 ?_;refine gv (rU (k:=.u64) I I I (by simp only[ub];omega) (by simp only[ub];omega)) I ?_;rw[cH oM U];generalize ht:r*4294967296+xs.getD (j-1) 0=t at *;have hq:t/b<4294967296:=z3u (by rw[<-ht];have h1:(r+1)*4294967296<=b*4294967296:=zfe _ Z;omega);refine uQ ?_;refine gv (bX (k:=.u64) (W:=18446744073709551616) I I I I oM oM) I (gv (vT (k:=.u64) (k':=.u32) (W:=4294967296) underlying125 underlying124 I I I oM) I (gv (xH (A:=[]) (j-1) underlying27 sizeOf124 I I oM (by rw[jK];omega)) I (wY sizeOf124 I I (by rw[jK];omega) (go6 ?_))));refine gv (bW (k:=.u64) I I oM) I (go9 ?_);refine jZ (j-1,t/b::D,t%b) ?_ ?_ ⟨I,I,I,I,?_,y3e⟩ ?_ I
  ·
   refine⟨by omega,by simp only[lC];omega,rR.2 ⟨hq,M⟩,zcu _ hb,?_⟩;rw[kM xs (j-1) oM,show j-1+1=j by omega,val];exact zFV C ht.symm I I
  ·
   dsimp only;omega
  · exact y3u (zbi vI oM)
  try dsimp only[List.nil_append,List.cons_append]
  rw[lT oM]
 refine go8 ?_;have aa:j=0:=by omega
 subst aa;rw[aE];refine yU (by exact M) ?_;intro h1 ae ho;refine cL (ev1 I) call196 (λw hs=>jX hs ho) λab h2 ad H=>?_;replace H:=H.2;refine go1 ?_;refine gv (vT (k:=.u64) (k':=.u32) (W:=4294967296) underlying125 underlying124 I I I oM) I (go5 ?_);refine wU I I I ?_;simp only[yci] at C;have e1:val xs/b=val D:=by rw[C,Nat.mul_add_div hb,z0e Z];omega
 have e2:val xs%b=r:=by rw[C,Nat.mul_add_mod,zoh Z]
 rw[e1,e2];exact⟨_,I,H⟩
theorem zJS{v:Value}{xs:List Nat}{s:Nat}(hv:Us .u32 h0 v xs)(hs32:s<32)(hl:xs.length<=1099511627776):
 Calls prog 211 #[v,vI ↑s] w0 (tO w0 h0 (λ_ r L=>∃us,L=[.us 124 .u32 r us]/\us.length=xs.length+1/\Fit us/\val us=val xs*2^s)):=by
 have hf:Fit xs:=hv.lt;have hp:2^s<=2147483648:=zji (n:=2) oM (show s<=31 by omega);have O:0<2^s:=zwu oM;refine cb2 41 v (vI ↑s) func211 hs ?_;refine uQ ?_;refine jE (kd:=.u32) (by':=4) (xs.length+1) underlying27 uP I I I I I oM oM oM oM I ?_;intro D;refine go5 ?_;refine asg (v:=vU .u64 0) I I (qK ?_);refine gO (ι:=List Nat×Nat) (λ(C,c)=>C.length<=xs.length/\Fit C/\c<2^s/\val C+4294967296^C.length*c=val (xs.take C.length)*2^s) (λ(C,c)=>[(0,v),(1,vI ↑s),(5,D),(6,vU .u64 c),(13,v),(14,vI ↑xs.length),(15,vI ↑C.length)]) (λ(C,c)=>[.us 124 .u32 D (tY C (xs.length+1))]) (λ(C,c)=>h0) (λ(C,c)=>xs.length-C.length) ([],0) ?_ e7 I I ?_
 · exact⟨by simp,λx hx=>by simp at hx,O,by simp[val]⟩
 rintro⟨C,c⟩ ⟨aa,J,hc,H⟩
 refine xD ?_;refine gc6 (λM=>?_) λM=>?_
 ·
  refine go7 ?_;refine gv (zW _ underlying27 sizeOf124 I I hv I oM) I (go1 ?_);have Z:=hv.get32 C.length;have U:xs.getD C.length 0*2^s<18446744073709551616-4294967296:=by
   have:=z7i (show xs.getD C.length 0<=4294967295 by omega) hp;omega
  refine uQ ?_;refine gv (fU (k:=.u64) (s:=s) (yk:=.i64) (W:=18446744073709551616) I I I I) I ?_;rw[zoh oM];refine gv (rU (k:=.u64) I I I (by simp only[ub];omega) (by simp only[ub];omega)) I ?_;rw[zQT hc];refine go9 ?_;refine gv (xH (A:=[]) _ underlying27 sizeOf124 I I I (by rw[uM oM];omega)) I (wY sizeOf124 I I (by rw[uM oM];omega) (pL ?_));refine jZ (C++[(xs.getD C.length 0*2^s+c)%4294967296],(xs.getD C.length 0*2^s+c)/2^32) ?_ ?_ ⟨I,I,I,I,I,I,?_,y3e⟩ ?_ I
  ·
   refine⟨by simp;omega,uR J (aP oM),?_,?_⟩
   · refine z3u ?_
     have:=zfe (2^s) (show xs.getD C.length 0+1<=2^32 by omega);rw[z1e] at this;omega
   · have e:=z7e (xs.getD C.length 0*2^s+c) 4294967296
     have e2:(2:Nat)^32=4294967296:=I;rw[lAz,zki,uW xs _ oM,rH,zmi,e2];generalize (xs.getD C.length 0*2^s+c)/4294967296=q at *;generalize (xs.getD C.length 0*2^s+c)%4294967296=r at *;grind
  ·
   dsimp only;simp;omega
  · exact y3u (zbi vI zo2)
  try dsimp only[List.nil_append,List.cons_append]
  rw[pM oM]
 refine uY ?_;refine gv (xH (A:=[]) (xs.length) underlying27 sizeOf124 I I zo3 (by rw[uM oM];omega)) I (wY sizeOf124 I I (by rw[uM oM];omega) (go9 ?_));refine qP I I ?_;have hk:C.length=xs.length:=by omega
 refine⟨C++[c],?_,by simp[hk],uR J (aP oM),?_⟩
 · rw[<-hk,pM oM,aD zo2,zoh oM]
 · rw[rH,H,wG oM]
end
set_option maxHeartbeats 2000000 in
section
variable{w0:World}{h0:Mem}(hs:MLe h0 (mem w0))
include hs
theorem zE5{v v':Value}{xs ys:List Nat}(hv:Us .u32 h0 v xs)(hv':Us .u32 h0 v' ys)(hl:xs.length<=1099511627776)(hl':ys.length<=1099511627776):
 Calls prog 190 #[v,v'] w0 (Ret w0 h0 (λh z=>∃q r,z=.tuple #[q,r,vI (if val ys=0 then 3 else 0)]/\Us .u32 h q (zB (val xs/val ys))/\Us .u32 h r (zB (if val ys=0 then 0 else val xs%val ys)))):=by
 have er:Fit xs:=hv.lt;have eq:Fit ys:=hv'.lt;have gf:=qA er;have ge:=qA eq;refine cb2 300 v v' func190 hs ?_;refine zR (zF (asg I I (asg I I (asg (v:=vI (0)) I I (yA (zI (zR (zF (mv I I (cL (ev1 I) call196 (λw hs=>jX hs hv) λfu h1 en H=>?_))))))))));replace H:=H.2;refine mv I I ?_;replace hv':=hv'.mono en;refine cL (ev1 I) call196 (λw hs=>jX hs hv') λft h2 em D=>?_;replace D:=D.2;refine asg I I (asg I I (yA (zI (zR (uA (zR (zF (mv I I (gv (vS underlying27 I D) I (gv (bZ (q:=0) I I) I (asg I I (yA (vZ (e':=[(0,_),(1,_),(30,_)]) e3z ?_)))))))))))));refine zI ?_;refine cnd (λdu=>?_) λdu=>?_
 ·
  have ea:val ys=0:=zdu λej=>by have:=yR.2 ej;omega
  refine zR (zF (asg I I (asg I I (asg (v:=vI (3)) I I (yA (zI (lP (zTO (nW (qJ I I I I ?_))))))))));rw[ea,Nat.div_zero,zau I,zau I,xO];exact⟨_,_,I,Us.nil _ _,Us.nil _ _⟩
 have ay:val ys≠0:=yR.1 oM;refine zR (zF (mv I I (mv I I ?_)));replace H:=H.mono em;refine cL (ev2 I I) call204 (λw hs=>zE6 hs H D) λfs h3 bk de=>?_;subst de;rw[zE,zE];refine gv (yO (q:=0) I I) I (asg I I (yA (zI ?_)));refine cnd (λbf=>?_) λbf=>?_
 ·
  have di:=rS.1 bf;refine zR (zF (mv I I ?_));replace H:=H.mono bk;refine uX (vs:=[_]) I I I I call207 ⟨I,y3e⟩ (λw hs=>zFW hs H oM) ?_;intro fr h4 gx bj dd;obtain rfl:=dd;refine asg I I (asg I I (yU (by exact wM _) ?_));intro h5 bi ho;refine asg (v:=vI (0)) I I (yA (vZ (e':=[(4,_),(5,_),(6,_)]) e3z (zI (lP (zTO (nW (qJ I I I I ?_)))))));rw[z0e di,zoh di,zae oM,zae oM,xO];exact⟨_,_,I,Us.nil _ _,ho⟩
 have ep:val ys<=val xs:=yfi λhc=>bf (rS.2 hc);refine zR (zF (mv I I ?_));replace D:=D.mono bk;refine gv (vS underlying27 I D) I (gv (bZ (q:=1) I I) I (asg I I (yA (zI ?_))));refine cnd (λdt=>?_) λdt=>?_
 ·
  have bq:(zB (val ys)).length=1:=by omega
  have dv:(zB (val ys)).getD 0 0≠0:=by have:=rB (n:=val ys) oM;rwa [bq] at this
  have bs:=zAZ bq;rw[zE] at bs;refine zL6 (e':=[(0,_),(1,_)]) e2z (zR (zF (mv I I (mv I I (gv (zW (q:=0) (0) underlying27 sizeOf124 I I D I oM) I (gv (wC isAgg124 I D oM) I ?_))))));have cg:=D.get32 0;replace H:=H.mono bk;refine cL (ev2 I I) call209 (λw hs=>zV4 hs H oM oM oM) λfq h4 bj dc=>?_;obtain⟨fv,rfl,aq⟩:=dc;refine mv I I (gv (fF (vs:=[_,_]) I I) I (gv (fF (vs:=[_,_]) I I) I (asg I I (asg I I (yA (vZ (e':=[(7,_),(8,_)]) e2z (zI (zR (zF (mv I I (mv I I (zH (pG (kd:=.u32) underlying27 uP I I I) I I I ?_))))))))))));intro fp fw db;obtain rfl:=db;refine yU (by intro z hz;simp only[zte] at hz;subst hz;exact Nat.lt_trans (zcu _ oM) cg) ?_;intro h5 bi dp;refine cL (ev1 I) call196 (λw hs=>jX hs dp) λfo h6 dl ar=>?_;replace ar:=ar.2;refine asg I I (asg I I (asg (v:=vI (0)) I I (yA (zI (lP (zTO (nW (qJ I I I I ?_))))))));replace aq:=aq.mono (bi.trans dl);rw[zE,<-bs] at aq;rw[zAZ I,List.getD_cons_zero,zE,<-bs] at ar;rw[zae oM,zae oM];exact⟨_,_,I,aq,ar⟩
 have df:2<=(zB (val ys)).length:=by omega
 refine zL6 (e':=[(0,_),(1,_)]) e2z (qG (rO (zI (zR (zF (mv I I (mv I I (gv (vS underlying27 I D) I (gv (vJ (q:=1) I I oM oM) I (gv (zW ((zB (val ys)).length-1) underlying27 sizeOf124 I I D oM oM) I (gv (wC isAgg124 I D oM) I ?_)))))))))));have hgt:=D.get32 ((zB (val ys)).length-1);refine cL (ev1 I) call210 (λw hs=>zWY hs oM) λfm h4 bj da=>?_;subst da;obtain⟨s,cu⟩:∃s,s=32-uS ((zB (val ys)).getD ((zB (val ys)).length-1) 0):=⟨_,I⟩;rw[<-cu];obtain⟨ff,av,ee⟩:=zGT (k:=(zB (val ys)).length-1) ay oM cu;refine asg I I (yA (zI (zR (zF (mv I I (mv I I ?_))))));replace H:=H.mono (bk.trans bj);refine uX (vs:=[_,_]) I I I I call211 e2z (λw hs=>zJS hs H oM oM) ?_;intro O h5 gw bi cz;obtain⟨bn,rfl,bb,bc,ah⟩:=cz;refine mv I I (mv I I ?_);replace D:=D.mono (bj.trans bi);refine uX (vs:=[_,_]) I I I I call211 e2z (λw hs=>zJS hs D oM oM) ?_;intro fl h6 gu dl cy;obtain⟨fd,rfl,ef,bv,bu⟩:=cy;refine yU (by exact bv) ?_;intro h7 gi ed;refine cL (ev1 I) call196 (λw hs=>jX hs ed) λai h8 gh C=>?_;replace C:=C.2;rw[bu,zE] at C;refine asg I I (asg I I ?_);rw[zE] at ah;have fg:=yL ep;have br:=gE (wM (val xs));rw[zE] at br;have ev:=rD (n:=val ys) (k:=(zB (val ys)).length-1) oM;have bx:=zWS bc br ah (k:=(zB (val ys)).length-1) oM ev;rw[show(zB (val xs)).length-((zB (val ys)).length-1)=(zB (val xs)).length+1-(zB (val ys)).length by omega] at bx;have az:=zE (val ys*2^s);have bl:Fit (zB (val ys*2^s)):=wM _;replace av:(zB (val ys*2^s)).length=(zB (val ys)).length:=by omega
 generalize zB (val ys*2^s)=vs at *;generalize gc:(zB (val ys)).length=n at *;generalize fh:(zB (val xs)).length=la at *;obtain⟨V,hV⟩:∃V,V=val ys*2^s:=⟨_,I⟩;obtain⟨U,hU⟩:∃U,U=val xs*2^s:=⟨_,I⟩;rw[<-hV] at az bx;rw[<-hU] at ah;have ew:V<4294967296^n:=by rw[<-az,<-av];exact gE bl
 have ao:=zSI df av;rw[az] at ao;have ba:=gE (tA bl (n-2));rw[zei,zti oM] at ba;have bt:=jB bl (n-2);have cp:=jB bl (n-1);refine yA (vZ (e':=[(9,_),(10,_),(11,_)]) e3z (zI (zR (zF (mv I I (gv (vS underlying27 I C) I ?_))))));rw[av];refine asg I I (yA (zI (zR (zF (mv I I (gv (pE (A:=[]) underlying27 I) I ?_))))));rw[bb];refine mv I I (gv (vJ I I oM oM) I (jE (kd:=.u32) (by':=4) (la+1-n) underlying27 uP I I I I I oM oM oM oM I ?_));intro M;refine asg I I (yA (zI (zR (zR (zF (mv I I (gv (pE (A:=[]) underlying27 I) I ?_)))))));rw[lR];refine gv (vJ (q:=1) I I oM oM) I (asg I I (yA (vZ (e':=[(9,_),(10,_),(11,_),(12,_),(4,_),(13,_)]) e6z (zI (uA ?_)))));refine gO (ι:=Nat×List Nat×List Nat) (λ(J,us,qs)=>J<=la+1-n/\qs.length=la+1-n-J/\Fit qs/\us.length=la+1/\Fit us/\val us+4294967296^J*(val qs*V)=U/\val (us.drop J)<V) (λ(J,us,qs)=>[(4,M),(9,vI ↑s),(10,O),(11,ai),(12,vI ↑n),(13,vI (↑J-1))]) (λ(J,us,qs)=>[.us 124 .u32 M (fK J qs),.us 124 .u32 O us]) (λ(J,us,qs)=>h8) (λ(J,us,qs)=>J) (la+1-n,bn,[]) ?_ e6z ?_ I ?_
 · exact⟨zbe _,by simp,λx hx=>by simp at hx,bb,bc,by rw[ah];simp[val],bx⟩
 ·
  try dsimp only[List.nil_append,List.cons_append]
  exact zbi (λz=>[Res.us 124 .u32 M z,Res.us 124 .u32 O bn]) (lV _)
 rintro⟨J,us,qs⟩ ⟨fk,ga,dq,eg,aa,ap,ca⟩
 refine xD ?_;refine zR (zR (zF (mv I I (gv (rN (q:=0) I I) I (yA (zI ?_))))));refine cnd (λdr=>?_) λdr=>?_
 ·
  refine qG (zI (zR (uA (zR ?_))));have hJ:1<=J:=by omega
  have ci:∀i,J+n<=i->us.getD i 0=0:=λi hi=>iE (zFK aa (Nat.lt_trans ca ew)) hi;obtain⟨wr,hW,cn⟩:=zIZ (j:=J-1) df (λi hi=>ci i oM) aa;have go:=jB aa (J-1+n);have gn:=jB aa (J-1+n-1);have eu:=jB aa (J-1+n-2);have gq:=jB aa (J-1);have dw:val (us.drop (J-1))<4294967296*V:=by
   rw[kM us (J-1) oM,zzi hJ];omega
  refine zL 18 _ [] (zai 0 18 []) yF nX zou nX (λr hr=>hr) (qV I I I (qV I I I (qV I I I (xY I (λ_ _=>zU I I oM oM) I (w_q I (λh' L' hh hR=>fE (hR _ mh1) (J-1+n) underlying27 sizeOf124 I I oM oM) I (w_q I (λh' L' hh hR=>sY (hR _ mh1) isAgg124 I oM) I (xY I (λ_ _=>vT (k:=.u32) (k':=.u64) (W:=18446744073709551616) underlying124 underlying125 I I I oM) I (xY I (λ_ _=>fU (k:=.u64) (s:=32) (yk:=.u64) (W:=18446744073709551616) I I I I) I (qV I I I (qV I I I (qV I I I (xY I (λ_ _=>zU I I oM oM) I (xY I (λ_ _=>vJ (q:=1) I I oM oM) I ?_)))))))))))));refine w_q I (λh' L' hh hR=>fE (hR _ mh1) (J-1+n-1) underlying27 sizeOf124 I I oM oM) I (w_q I (λh' L' hh hR=>sY (hR _ mh1) isAgg124 I oM) I (xY I (λ_ _=>vT (k:=.u32) (k':=.u64) (W:=18446744073709551616) underlying124 underlying125 I I I oM) I (xY I (λ_ _=>rU (k:=.u64) I I I (by simp only[ub];omega) (by simp only[ub];omega)) I ?_)));rw[cH oM oM];obtain⟨top,bo⟩:∃t,t=us.getD (J-1+n) 0*4294967296+us.getD (J-1+n-1) 0:=⟨_,I⟩;rw[<-bo];rw[<-bo] at hW;have am:=yFT ao hW ba bt dw;refine zMS I I I (cV (vZ (e':=[(4,_),(9,_),(10,_),(11,_),(12,_),(13,_),(14,_)]) e7 (zI (zR ?_))));refine zL 18 _ [] (zai 0 18 []) yF nX zou nX (λr hr=>hr) (qV I I I (qV I I I (qV I I I (xY I (λ_ _=>vJ (q:=1) I I oM oM) I (w_q I (λh' L' hh hR=>zW (n-1) underlying27 sizeOf124 I I (C.mono hh) oM oM) I (w_q I (λh' L' hh hR=>wC isAgg124 I (C.mono hh) oM) I (xY I (λ_ _=>vT (k:=.u32) (k':=.u64) (W:=18446744073709551616) underlying124 underlying125 I I I oM) I (xY I (λ_ _=>bX (k:=.u64) (W:=18446744073709551616) I I I I oM oM) I (qV I I I (qV I I I (qV I I I (xY I (λ_ _=>vJ (q:=1) I I oM oM) I (w_q I (λh' L' hh hR=>zW (n-1) underlying27 sizeOf124 I I (C.mono hh) oM oM) I ?_)))))))))))));refine w_q I (λh' L' hh hR=>wC isAgg124 I (C.mono hh) oM) I (xY I (λ_ _=>vT (k:=.u32) (k':=.u64) (W:=18446744073709551616) underlying124 underlying125 I I I oM) I (xY I (λ_ _=>bW (k:=.u64) I I oM) I (zMS I I I (zMS I I I (cV (vZ (e':=[(4,_),(9,_),(10,_),(11,_),(12,_),(13,_),(15,_),(16,_)]) e8 (zI ?_)))))));refine jR (ι:=Nat) (λ(x1:(Nat))=>x1<4294967296/\val (us.drop (J-1))<(x1+1)*V/\x1*V<val (us.drop (J-1))+V) (λ(x1:(Nat))=>[(4,M),(9,vI ↑s),(10,O),(11,ai),(12,vI ↑n),(13,vI (↑J-1)),(15,vU .u64 x1)]) (λ(x1:(Nat))=>[.us 124 .u32 M (fK J qs),.us 124 .u32 O us]) (λ(x1:(Nat))=>h8) ?_ ?_
  ·
   refine uA ?_;refine gcL (ι:=Nat×Nat) (λ(x,r)=>(x*vs.getD (n-1) 0+r=top/\val (us.drop (J-1))<(x+1)*V/\r<4294967296,[(4,M),(9,vI ↑s),(10,O),(11,ai),(12,vI ↑n),(13,vI (↑J-1)),(15,vU .u64 x),(16,vU .u64 r)],[.us 124 .u32 M (fK J qs),.us 124 .u32 O us],h8,x)) (top/vs.getD (n-1) 0,top%vs.getD (n-1) 0) ?_ ?_
   · exact⟨by rw[zyu];exact z7e _ _,zOZ ao hW eu cn oM,Nat.lt_trans (zcu _ oM) cp⟩
   rintro⟨x,r⟩ ⟨ak,eb,fz⟩
   refine xD ?_;have ec:=yLJ ak am ee;have fy:x*vs.getD (n-2) 0<=4294967297*4294967295:=z7i ec oM;refine zR (zR ?_);refine yBL (4294967296<=x) (λhg=>?_) (λhg=>?_)
   ·
    have ae:1<=x:=by omega
    have aj:val (us.drop (J-1))<x*V:=zlu dw (zfe _ hg);refine zL 24 _ [] (zai 0 24 []) yF nX zou nX (λr hr=>hr) (qV I I I (xY I (λ_ _=>cG (k:=.u64) (q:=4294967296) I I) I (xY I (λ_ _=>xG (v:=.bool true) (y3u (wA hg))) I (uD I I I I I (uD I I I I I (uD I I I I I (uD I I I I I (uD I I I I I (uD I I I I I (uD I I I I I (uD I I I I I (uD I I I I I (uD I I I I I ?_)))))))))))));refine uD I I I I I (uD I I I I I (uD I I I I I (uD I I I I I (uD I I I I I (uD I I I I I (uD I I I I I (uD I I I I I (uD I I I I I (uD I I I I I (xY I (λ_ _=>bA I I) I (cV (vZ (e':=[(4,_),(9,_),(10,_),(11,_),(12,_),(13,_),(15,_),(16,_),(141,_)]) ⟨I,I,I,I,I,I,I,I,I,y3e⟩ (zI ?_)))))))))))));refine zJZ I (qG (zI (uA (zR (zF (mv I I (gv (lJ (k:=.u64) (q:=1) (W:=18446744073709551616) I I I I oM oM) I (asg I I (yA (zI (zR (zF (mv I I ?_)))))))))))));refine mv I I (mv I I (gv (vJ (q:=1) I I oM oM) I (gv (zW (n-1) underlying27 sizeOf124 I I C oM oM) I (gv (wC isAgg124 I C oM) I (gv (vT (k:=.u32) (k':=.u64) (W:=18446744073709551616) underlying124 underlying125 I I I oM) I (gv (sK (k:=.u64) (W:=18446744073709551616) I I I I oM) I (asg I I (yA (vZ (e':=[(4,_),(9,_),(10,_),(11,_),(12,_),(13,_),(15,_),(16,_)]) e8 (zI (zR (zF (mv I I ?_)))))))))))));refine gv (cG (k:=.u64) (q:=4294967296) I I) I (yA (zI ?_));refine cnd (λad=>?_) λad=>?_
    ·
     refine fO (zL0 I (qB (fN ?_)));refine zV (x-1) ?_ e7 I I;obtain⟨b1,b2⟩:=zJ3 (x:=x-1) ao hW ba bt (zCB ak ae) ad am oM;exact⟨b1,by rw[zzi ae];exact aj,by omega⟩
    refine qG (rO ?_);refine gqL (x-1,r+vs.getD (n-1) 0) ?_ ?_
    · exact⟨zCB ak ae,by rw[zzi ae];exact aj,by omega⟩
    omega
   refine zL 24 _ [] (zai 0 24 []) yF nX zou nX (λr hr=>hr) (qV I I I (xY I (λ_ _=>cG (k:=.u64) (q:=4294967296) I I) I (xY I (λ_ _=>xG (v:=.bool false) (y3u (yN hg))) I (yV I I I (λh' L' hh hR=>xG I) I (yV I I I (λh' L' hh hR=>xG I) I (yV I I I (λh' L' hh hR=>xG I) I (yV I I I (λh' L' hh hR=>vJ (q:=2) I I oM oM) I (yV I I I (λh' L' hh hR=>zW (n-2) underlying27 sizeOf124 I I (C.mono hh) oM oM) I (yV I I I (λh' L' hh hR=>wC isAgg124 I (C.mono hh) oM) I (yV I I I (λh' L' hh hR=>vT (k:=.u32) (k':=.u64) (W:=18446744073709551616) underlying124 underlying125 I I I oM) I (yV I I I (λh' L' hh hR=>iY (k:=.u64) (W:=18446744073709551616) I I I I oM) I (yV I I I (λh' L' hh hR=>xG I) I (yV I I I (λh' L' hh hR=>fU (k:=.u64) (s:=32) (yk:=.u64) (W:=18446744073709551616) I I I I) I ?_)))))))))))));refine yV I I I (λh' L' hh hR=>xG I) I (yV I I I (λh' L' hh hR=>xG I) I (yV I I I (λh' L' hh hR=>xG I) I (yV I I I (λh' L' hh hR=>zU I I oM oM) I (yV I I I (λh' L' hh hR=>vJ (q:=2) I I oM oM) I (yV I I I (λh' L' hh hR=>fE (hR _ mh1) (J-1+n-2) underlying27 sizeOf124 I I oM oM) I (yV I I I (λh' L' hh hR=>sY (hR _ mh1) isAgg124 I oM) I (yV I I I (λh' L' hh hR=>vT (k:=.u32) (k':=.u64) (W:=18446744073709551616) underlying124 underlying125 I I I oM) I (yV I I I (λh' L' hh hR=>rU (k:=.u64) I I I (by simp only[ub];omega) (by simp only[ub];omega)) I ?_))))))));rw[cH oM oM];refine yV I I I (λh' L' hh hR=>mU (k:=.u64) I I) I (xY I (λ_ _=>bC I I) I (cV (vZ (e':=[(4,_),(9,_),(10,_),(11,_),(12,_),(13,_),(15,_),(16,_),(141,_)]) ⟨I,I,I,I,I,I,I,I,I,y3e⟩ (zI ?_))));refine cnd (λan=>?_) λan=>?_
   ·
    have ae:1<=x:=zii λh0=>by rw[h0,zwe] at an;omega
    have aj:val (us.drop (J-1))<x*V:=yFU ao hW cn ak an;refine qG (zI (uA (zR (zF (mv I I (gv (lJ (k:=.u64) (q:=1) (W:=18446744073709551616) I I I I oM oM) I (asg I I (yA (zI (zR (zF (mv I I (mv I I ?_)))))))))))));refine mv I I (gv (vJ (q:=1) I I oM oM) I (gv (zW (n-1) underlying27 sizeOf124 I I C oM oM) I (gv (wC isAgg124 I C oM) I (gv (vT (k:=.u32) (k':=.u64) (W:=18446744073709551616) underlying124 underlying125 I I I oM) I (gv (sK (k:=.u64) (W:=18446744073709551616) I I I I oM) I (asg I I (yA (vZ (e':=[(4,_),(9,_),(10,_),(11,_),(12,_),(13,_),(15,_),(16,_)]) e8 (zI (zR (zF (mv I I (gv (cG (k:=.u64) (q:=4294967296) I I) I ?_)))))))))))));refine yA (zI ?_);refine cnd (λad=>?_) λad=>?_
    ·
     refine fO (zL0 I (qB (fN ?_)));refine zV (x-1) ?_ e7 I I;obtain⟨b1,b2⟩:=zJ3 (x:=x-1) ao hW ba bt (zCB ak ae) ad am oM;exact⟨b1,by rw[zzi ae];exact aj,by omega⟩
    refine qG (rO ?_);refine gqL (x-1,r+vs.getD (n-1) 0) ?_ ?_
    · exact⟨zCB ak ae,by rw[zzi ae];exact aj,by omega⟩
    omega
   refine fO (qB (qB (fN ?_)));refine zV (x) ?_ e7 I I;exact⟨by omega,eb,yBX ao hW ba oM ak oM oM⟩
  rintro x1 ⟨cm,cj,ck⟩
  refine xD ?_;refine zR (zF (asg (v:=vU .u64 0) I I (asg (v:=vU .u64 0) I I (yA (zI (zR (zR (zF (mv I I (gv (vS underlying27 I C) I ?_))))))))));rw[av];refine mv (v:=vI (0)) I I (yA (zI (uA ?_)));refine gO (ι:=Nat×List Nat×Nat×Nat) (λ(i,ts,b,c)=>i<=n/\ts.length=la+1/\Fit ts/\c<4294967296/\b<=1/\val ts+4294967296^(J-1)*(x1*val (vs.take i))=val us+4294967296^(J-1+i)*(c+b)/\∀k,J-1+i<=k->ts.getD k 0=us.getD k 0) (λ(i,ts,b,c)=>[(4,M),(9,vI ↑s),(10,O),(11,ai),(12,vI ↑n),(13,vI (↑J-1)),(15,vU .u64 x1),(17,vU .u64 b),(18,vU .u64 c),(154,ai),(155,vI ↑n),(156,vI ↑i)]) (λ(i,ts,b,c)=>[.us 124 .u32 M (fK J qs),.us 124 .u32 O ts]) (λ(i,ts,b,c)=>h8) (λ(i,ts,b,c)=>n-i) (0,us,0,0) ?_ e12 I I ?_
  · exact⟨by omega,eg,aa,by omega,by omega,by simp[val],λ_ _=>I⟩
  rintro⟨i,ts,b,c⟩ ⟨dk,cq,bm,gj,gm,bd,ct⟩
  refine xD ?_;refine zR (zF (gv (yO I I) I (yA (zI (zR ?_)))));refine cnd (λcf=>?_) λcf=>?_
  ·
   refine qG (zI (zR (uA (zR (zF (mv I I (gv (zW _ underlying27 sizeOf124 I I C I oM) I (gv (wC isAgg124 I C oM) I ?_))))))));have dz:=C.get32 i;have fx:x1*vs.getD i 0<=4294967295*4294967295:=z7i oM oM;refine asg I I (asg I I (yA (zI (zR (zF (mv I I (mv I I (mv I I (gv (vT (k:=.u32) (k':=.u64) (W:=18446744073709551616) underlying124 underlying125 I I I oM) I (gv (iY (k:=.u64) (W:=18446744073709551616) I I I I oM) I (gv (sK (k:=.u64) (W:=18446744073709551616) I I I I oM) I (asg I I (yA ?_)))))))))))));refine vZ (e':=[(4,_),(9,_),(10,_),(11,_),(12,_),(13,_),(15,_),(17,_),(154,_),(155,_),(156,_),(19,_),(18,_)]) ⟨I,I,I,I,I,I,I,I,I,I,I,I,I,y3e⟩ (zI (zR (zF (mv I I (mv I I (mv I I (gv (zU I I oM oM) I (gv (xH (A:=[_]) (J-1+i) underlying27 sizeOf124 I I oM oM) I (gv (tC (A:=[_]) isAgg124 I oM) I ?_)))))))));have bw:=jB bm (J-1+i);refine gv (vT (k:=.u32) (k':=.u64) (W:=18446744073709551616) underlying124 underlying125 I I I oM) I (mv I I (gv (zZC (k:=.u64) (q:=4294967295) I I I (by simp only[ub];omega) (by simp only[ub];omega)) I ?_));rw[yC2];refine gv (mS (k:=.u64) (W:=18446744073709551616) I I I I oM) I (mv I I (gv (mS (k:=.u64) (W:=18446744073709551616) I I I I oM) I (asg I I (yA (vZ (e':=[(4,_),(9,_),(10,_),(11,_),(12,_),(13,_),(15,_),(154,_),(155,_),(156,_),(19,_),(18,_),(21,_)]) ⟨I,I,I,I,I,I,I,I,I,I,I,I,I,y3e⟩ (zI (zR (zF (mv I I (mv I I (mv I I (gv (zU I I oM oM) I (mv I I ?_)))))))))))));refine gv (tI (k:=.u64) (k':=.u32) (W:=4294967296) underlying125 underlying124 I I I) I (gv (xH (A:=[_]) (J-1+i) underlying27 sizeOf124 I I oM oM) I (rQ sizeOf124 I I oM (yA (zI (zR (zF (mv I I (gv (fT (k:=.u64) (s:=63) (yk:=.u64) I I I (by simp only[ub];omega)) I (asg I I (yA (vZ (e':=[(4,_),(9,_),(10,_),(11,_),(12,_),(13,_),(15,_),(154,_),(155,_),(156,_),(18,_),(17,_)]) e12 (zI (zF ?_)))))))))))));refine mv I I (gv (fT (k:=.u64) (s:=32) (yk:=.u64) I I I (by simp only[ub];omega)) I (asg I I (yA (rO (zI (zF (gv (zU (q:=1) I I oM oM) I (mv I I (yA ?_)))))))));generalize hX:ts.getD (J-1+i) 0=X at *;generalize hY:vs.getD i 0=Y at *;refine jZ (i+1,ts.set (J-1+i) (((X+18446744073709551616-(c+x1*Y)%4294967296)%18446744073709551616+18446744073709551616-b)%18446744073709551616%4294967296),((X+18446744073709551616-(c+x1*Y)%4294967296)%18446744073709551616+18446744073709551616-b)%18446744073709551616/2^63,(c+x1*Y)/2^32) ?_ ?_ e12 I I
   ·
    refine⟨by omega,by simp[cq],nZ bm _ oM,by omega,by omega,?_,λk hk=>?_⟩
    · have h1:=nI (xs:=ts) (i:=J-1+i) oM (((X+18446744073709551616-(c+x1*Y)%4294967296)%18446744073709551616+18446744073709551616-b)%18446744073709551616%4294967296)
      rw[hX] at h1;rw[uW vs i oM,hY,<-z3e (J-1),zmi,zni];rw[zni] at h1 bd;exact yE3 (l:=(c+x1*Y)%4294967296) bd h1 oM oM
    · rw[jQ oM];exact ct k oM
   dsimp only;omega
  refine fO (qB (qB (fN (zI (zR (zF (mv I I (mv I I (mv I I (gv (zU I I oM oM) I (gv (xH (A:=[_]) (J-1+n) underlying27 sizeOf124 I I oM oM) I (gv (tC (A:=[_]) isAgg124 I oM) I ?_))))))))))));have bw:=jB bm (J-1+n);refine gv (vT (k:=.u32) (k':=.u64) (W:=18446744073709551616) underlying124 underlying125 I I I oM) I (mv I I (gv (mS (k:=.u64) (W:=18446744073709551616) I I I I oM) I (mv I I (gv (mS (k:=.u64) (W:=18446744073709551616) I I I I oM) I ?_))));obtain⟨d2,es⟩:∃d,d=((ts.getD (J-1+n) 0+18446744073709551616-c)%18446744073709551616+18446744073709551616-b)%18446744073709551616:=⟨_,I⟩;rw[<-es];refine asg I I (yA (vZ (e':=[(4,_),(9,_),(10,_),(11,_),(12,_),(13,_),(15,_),(22,_)]) e8 (zI (zR (zF (mv I I (mv I I (mv I I (gv (zU I I oM oM) I (mv I I (gv (tI (k:=.u64) (k':=.u32) (W:=4294967296) underlying125 underlying124 I I I) I (gv (xH (A:=[_]) (J-1+n) underlying27 sizeOf124 I I oM oM) I (rQ sizeOf124 I I oM ?_)))))))))))));have dk:i=n:=by omega
  rw[dk,wG oM,az] at bd;have co:=nI (xs:=ts) (i:=J-1+n) oM (d2%4294967296);have bp:(ts.set (J-1+n) (d2%4294967296)).length=la+1:=by simp[cq]
  have au:Fit (ts.set (J-1+n) (d2%4294967296)):=nZ bm _ oM;have ch:∀k,J-1+n+1<=k->(ts.set (J-1+n) (d2%4294967296)).getD k 0=0:=λk hk=>by rw[jQ oM,ct k oM];exact ci k oM
  generalize ts.set (J-1+n) (d2%4294967296)=ts2 at *;have ab:val ts2+4294967296^(J-1)*(x1*V)=val us+4294967296^(J-1+n+1)*(d2/2^63):=by
   rw[zmi,zni];rw[zni] at co bd;exact yKA bd co oM
  have dh:=iM au ch;refine yA (zI ?_);refine jR (ι:=Nat×List Nat) (λ(x2,rs)=>x2<4294967296/\rs.length=la+1/\Fit rs/\val rs+4294967296^(J-1)*(x2*V)=val us/\val (rs.drop (J-1))<V) (λ(x2,rs)=>[(4,M),(9,vI ↑s),(10,O),(11,ai),(12,vI ↑n),(13,vI (↑J-1)),(15,vU .u64 x2)]) (λ(x2,rs)=>[.us 124 .u32 M (fK J qs),.us 124 .u32 O rs]) (λ(x2,rs)=>h8) ?_ ?_
  ·
   refine zR (zF (mv I I (gv (fT (k:=.u64) (s:=63) (yk:=.u64) I I I (by simp only[ub];omega)) I (gv (tS (k:=.u64) (q:=0) I I) I (yA (vZ (e':=[(4,_),(9,_),(10,_),(11,_),(12,_),(13,_),(15,_),(211,_)]) e8 (zI ?_)))))));refine cnd (λce=>?_) λce=>?_
   ·
    have fe:1<=x1:=zii λh0=>by
     have cg:d2/2^63=1:=by omega
     rw[h0,cg,zwe,z8u,z6u] at ab;omega
    refine zR (zF (mv I I (gv (lJ (k:=.u64) (q:=1) (W:=18446744073709551616) I I I I oM oM) I (asg I I (yA (zI (zR (zF (asg (v:=vU .u64 0) I I (yA (zI (zR (zR ?_)))))))))))));refine zF (mv I I (gv (vS underlying27 I C) I ?_));rw[av];refine mv (v:=vI (0)) I I (yA (zI (uA ?_)));refine gcL (ι:=Nat×List Nat×Nat) (λ(i2,rs,c2)=>(i2<=n/\rs.length=la+1/\Fit rs/\c2<=1/\val rs+4294967296^(J-1+i2)*c2=val ts2+4294967296^(J-1)*val (vs.take i2)/\∀k,J-1+i2<=k->rs.getD k 0=ts2.getD k 0,[(4,M),(9,vI ↑s),(10,O),(11,ai),(12,vI ↑n),(13,vI (↑J-1)),(15,vU .u64 (x1-1)),(18,vU .u64 c2),(214,ai),(215,vI ↑n),(216,vI ↑i2)],[.us 124 .u32 M (fK J qs),.us 124 .u32 O rs],h8,n-i2)) (0,ts2,0) ?_ ?_
    · exact⟨by omega,bp,au,by omega,by simp[val],λ_ _=>I⟩
    rintro⟨i2,rs,c2⟩ ⟨hi2,bh,aw,gk,bg,cv⟩
    refine xD ?_;refine zR (zF (gv (yO I I) I (yA (zI (zR ?_)))));refine cnd (λcd=>?_) λcd=>?_
    ·
     refine qG (zI (zR (uA (zR (zF (mv I I (gv (zW _ underlying27 sizeOf124 I I C I oM) I (gv (wC isAgg124 I C oM) I ?_))))))));have dz:=C.get32 i2;refine asg I I (asg I I (yA (zI (zR (zF (mv I I (mv I I (mv I I (mv I I (gv (zU I I oM oM) I (gv (xH (A:=[_]) (J-1+i2) underlying27 sizeOf124 I I oM oM) I (gv (tC (A:=[_]) isAgg124 I oM) I ?_))))))))))));have bw:=jB aw (J-1+i2);refine gv (vT (k:=.u32) (k':=.u64) (W:=18446744073709551616) underlying124 underlying125 I I I oM) I (mv I I (gv (vT (k:=.u32) (k':=.u64) (W:=18446744073709551616) underlying124 underlying125 I I I oM) I (gv (sK (k:=.u64) (W:=18446744073709551616) I I I I oM) I (gv (sK (k:=.u64) (W:=18446744073709551616) I I I I oM) I (asg I I (yA (vZ (e':=[(4,_),(9,_),(10,_),(11,_),(12,_),(13,_),(15,_),(214,_),(215,_),(216,_),(23,_),(18,_)]) e12 (zI (zR (zF (mv I I (mv I I (mv I I ?_)))))))))))));refine gv (zU I I oM oM) I (mv I I (gv (tI (k:=.u64) (k':=.u32) (W:=4294967296) underlying125 underlying124 I I I) I (gv (xH (A:=[_]) (J-1+i2) underlying27 sizeOf124 I I oM oM) I (rQ sizeOf124 I I oM (yA (zI (zF (mv I I (gv (fT (k:=.u64) (s:=32) (yk:=.u64) I I I (by simp only[ub];omega)) I (asg I I (yA (rO (vZ (e':=[(4,_),(9,_),(10,_),(11,_),(12,_),(13,_),(15,_),(214,_),(215,_),(216,_),(18,_)]) ⟨I,I,I,I,I,I,I,I,I,I,I,y3e⟩ ?_)))))))))))));refine zI (zF (gv (zU (q:=1) I I oM oM) I (mv I I (yA ?_))));generalize hX:rs.getD (J-1+i2) 0=X at *;generalize hY:vs.getD i2 0=Y at *;refine gqL (i2+1,rs.set (J-1+i2) ((c2+(X+Y))%4294967296),(c2+(X+Y))/2^32) ?_ ?_
     ·
      refine⟨by omega,by simp[bh],nZ aw _ oM,by omega,?_,λk hk=>?_⟩
      · have h1:=nI (xs:=rs) (i:=J-1+i2) oM ((c2+(X+Y))%4294967296)
        rw[hX] at h1;rw[uW vs i2 oM,hY,<-z3e (J-1),zmi,zni];rw[zni] at h1 bg;exact yGC bg h1 oM
      · rw[jQ oM];exact cv k oM
     omega
    refine fO (qB (qB (fN (zI (zF (mv I I (mv I I (mv I I (gv (zU I I oM oM) I (gv (xH (A:=[_]) (J-1+n) underlying27 sizeOf124 I I oM oM) I (gv (tC (A:=[_]) isAgg124 I oM) I (mv I I (gv (tI (k:=.u64) (k':=.u32) (W:=4294967296) underlying125 underlying124 I I I) I ?_)))))))))))));have bw:=jB aw (J-1+n);refine gv (zVJ (k:=.u32) (W:=4294967296) I I I I) I (gv (xH (A:=[_]) (J-1+n) underlying27 sizeOf124 I I oM oM) I (rQ sizeOf124 I I oM (yA ?_)));generalize hX:rs.getD (J-1+n) 0=X at *;refine zV (x1-1,rs.set (J-1+n) ((X+c2%4294967296)%4294967296)) ?_ e7 I I;have dj:i2=n:=by omega
    rw[dj,wG oM,az] at bg;have h1:=nI (xs:=rs) (i:=J-1+n) oM ((X+c2%4294967296)%4294967296);rw[hX] at h1;have be:Fit (rs.set (J-1+n) ((X+c2%4294967296)%4294967296)):=nZ aw _ oM;have dy:∀k,J-1+n+1<=k->(rs.set (J-1+n) ((X+c2%4294967296)%4294967296)).getD k 0=0:=λk hk=>by
     rw[jQ oM,cv k oM];exact ch k hk
    have ho:val (rs.set (J-1+n) ((X+c2%4294967296)%4294967296))+4294967296^(J-1+n+1)*((X+c2)/4294967296)=val ts2+4294967296^(J-1)*V:=by
     rw[zmi,zni];rw[zni] at h1 bg;exact yM1 bg h1 oM
    obtain⟨z1,z2,z3⟩:=zU7 aa be dh (iM be dy) (b:=d2/2^63) oM ab ck ho oM;exact⟨by omega,by simp[bh],be,z2,z3⟩
   refine qG ?_;refine zV (x1,ts2) ?_ e7 I I;have dv:d2/2^63=0:=by omega
   rw[dv,z8u,zke] at ab;exact⟨cm,bp,au,ab,zF0 aa au ab cj⟩
  rintro⟨x2,rs⟩ ⟨cl,bh,aw,eh,cw⟩
  refine xD ?_;refine zF (mv I I (mv I I (mv I I (gv (vT (k:=.u64) (k':=.u32) (W:=4294967296) underlying125 underlying124 I I I oM) I (gv (xH (A:=[]) (J-1) underlying27 sizeOf124 I I oM (by rw[jK];omega)) I (wY sizeOf124 I I (by rw[jK];omega) (yA (rO (zI (zF (mv I I (gv (vJ (q:=1) I I oM oM) I (asg I I ?_)))))))))))));refine yA ?_;refine jZ (J-1,rs,x2::qs) ?_ ?_ ⟨I,I,I,I,I,?_,y3e⟩ ?_ I
  ·
   refine⟨by omega,by simp only[lC];omega,rR.2 ⟨cl,dq⟩,bh,aw,?_,cw⟩;have eJ:(4294967296:Nat)^J=4294967296^(J-1)*4294967296:=by rw[<-zmi,Nat.succ_eq_add_one,zzi hJ]
   rw[eJ] at ap;exact yJU ap eh
  ·
   dsimp only;omega
  · exact y3u (zbi vI oM)
  try dsimp only[List.nil_append,List.cons_append]
  rw[lT oM]
 refine fO (qB (qB (fN (zI (zR ?_)))));have ez:J=0:=by omega
 subst ez;rw[aE];rw[yci] at ca;rw[y1u,yni] at ap;have ek:(zB (val us)).length<=us.length:=qA aa;refine zF (mv I I ?_);refine zL3 (R:=λh r=>r=tB 1 O 0 (zB (val us)).length/\Us .u32 h r (zB (val us))) (vs:=[_]) I I I I call196 ⟨I,y3e⟩ (λw hw=>jX (MLe.refl _) (hw.own_us (A:=[_]) aa)) ?_
 rintro fc ⟨_,dx,_⟩
 subst dx;refine zWJ (A:=[_]) (zB (val us)).length ek ?_;rw[zFS aa];generalize tB 1 O 0 (zB (val us)).length=vr;have ax:=wM (val us);have ey:=zE (val us);generalize zB (val us)=Rs at *;refine asg I I (yA (zI (zR (zR (zF (mv I I (gv (pE (A:=[_]) underlying27 I) I (mv (v:=vI (0)) I I (yA (zI (uA ?_)))))))))));refine gO (ι:=Nat) (λ(k:(Nat))=>k<=Rs.length) (λ(k:(Nat))=>[(4,M),(5,vr),(9,vI ↑s),(261,vI ↑Rs.length),(262,vI ↑k)]) (λ(k:(Nat))=>[.us 124 .u32 M qs,.us 124 .u32 vr (zAA s Rs k)]) (λ(k:(Nat))=>h8) (λ(k:(Nat))=>Rs.length-k) 0 ?_ e5z ?_ I ?_
 · exact zui _
 ·
  try dsimp only[List.nil_append,List.cons_append]
  exact zbi (λz=>[Res.us 124 .u32 M qs,Res.us 124 .u32 vr z]) (zUZ s Rs)
 rintro k hk
 refine xD ?_;refine zR (zF (gv (yO I I) I (yA (zI (zR ?_)))));refine cnd (λcc=>?_) λcc=>?_
 ·
  refine qG (zI ?_);refine jR (ι:=Unit) (λ(_u:(Unit))=>True) (λ(_u:(Unit))=>[(4,M),(5,vr),(9,vI ↑s),(261,vI ↑Rs.length),(262,vI ↑k)]) (λ(_u:(Unit))=>[.us 124 .u32 M qs,.us 124 .u32 vr (zAA s Rs (k+1))]) (λ(_u:(Unit))=>h8) ?_ ?_
  ·
   refine uA (zR (zF (mv I I (asg I I (yA (zI (zR (zF (mv I I (mv I I (gv (xH (A:=[_]) (k) underlying27 sizeOf124 I I oM (by rw[tQ oM];omega)) I (gv (tC (A:=[_]) isAgg124 I (by rw[tQ oM];omega)) I ?_))))))))))));rw[zM3 (zbe _)];have eo:=jB ax k;refine mv I I (gv (fT (k:=.u32) (s:=s) (yk:=.i64) I I I (by simp only[ub];omega)) I ?_);have gb:Rs.getD k 0/2^s<4294967296:=yqi (zse _ _) eo;refine gv (xH (A:=[_]) (k) underlying27 sizeOf124 I I oM (by rw[tQ oM];omega)) I (rQ sizeOf124 I I (by rw[tQ oM];omega) (yA (zI (zR (zF (mv I I (gv (mV (q:=0) I I) I ?_)))))));refine gU 7 280 (vB (((0:Int)<↑s)/\((↑k:Int)+1<↑Rs.length))) ?_ ?_
   ·
    refine zY ((0:Int)<↑s) (λhg=>?_) (λhg=>?_)
    ·
     refine gT hg I (t8 I I I (mv I I (t8 I I I (gv (zU (q:=1) I I oM oM) I (t8 I I I (mv I I (t8 I I I (gv (pE (A:=[_]) underlying27 I) I ?_))))))));rw[lS,tQ oM];refine t8 I I I (gv (yO I I) I (gv (bA I I) I (yA (gqU ?_))));exact y3u (xL hg)
    refine gF hg I (mG I I I I I I (mG I I I I I I (mG I I I I I I (mG I I I I I I (mG I I I I I I (gv (bC I I) I (yA (gqU ?_))))))));exact y3u (xM hg)
   refine yA (zI ?_);refine cnd (λcb=>?_) λcb=>?_
   ·
    refine zL 14 _ [] (zai 0 14 [(14,.t)]) yF nX zou nX (λr hr=>hr) (qV I I I (qV I I I (w_q I (λh' L' hh hR=>fE (hR _ mh1) (k) underlying27 sizeOf124 I I oM (by rw[lS,tQ oM];omega)) I (w_q I (λh' L' hh hR=>sY (hR _ mh1) isAgg124 I (by rw[lS,tQ oM];omega)) I ?_))));rw[zIR (by rw[tQ oM];omega)];refine qV I I I (qV I I I (xY I (λ_ _=>zU (q:=1) I I oM oM) I (w_q I (λh' L' hh hR=>fE (hR _ mh1) (k+1) underlying27 sizeOf124 I I oM (by rw[lS,tQ oM];omega)) I (w_q I (λh' L' hh hR=>sY (hR _ mh1) isAgg124 I (by rw[lS,tQ oM];omega)) I ?_))));rw[jQ oM,zM3 oM];refine qV I I I (xY I (λ_ _=>vJ (p:=32) I I oM oM) I ?_);rw[show((32:Int)-↑s)=↑(32-s) by omega];refine xY I (λ_ _=>fU (k:=.u32) (s:=32-s) (yk:=.i64) (W:=4294967296) I I I I) I (xY I (λ_ _=>rU (k:=.u32) I I I (by simp only[ub];omega) (by simp only[ub];omega)) I ?_);rw[yD7 ax oM oM];refine w_q I (λh' L' hh hR=>fE (hR _ mh1) (k) underlying27 sizeOf124 I I oM (by rw[lS,tQ oM];omega)) I (cC (A:=[_]) I (j4 sizeOf124 I I (by rw[lS,tQ oM];omega)) I (cV (rO ?_)));refine zV (()) ?_ e5z ?_ I
    · trivial
    try dsimp only[List.nil_append,List.cons_append]
    rw[List.set_set,zM2 oM];try rfl
   refine qG (rO ?_);have bz:Rs.getD k 0/2^s=iR s Rs k:=by
    by_cases h0:s=0
    · rw[h0,zU0 ax oM,y1u,z4i]
    · exact(zU2 ax oM).symm
   refine zV (()) ?_ e5z ?_ I
   · trivial
   try dsimp only[List.nil_append,List.cons_append]
   rw[bz,zM2 oM]
  rintro _u fj
  refine xD ?_;refine zF (gv (zU (q:=1) I I oM oM) I (mv I I (yA ?_)));refine jZ (k+1) ?_ ?_ e5z I I
  · omega
  omega
 refine fO (qB (qB (fN (zI (zR (zF (mv I I (yU (by exact dq) ?_))))))));intro h9 gg hq;refine cL (ev1 I) call196 (λw hs=>jX hs hq) λfb gt fi Z=>?_;replace Z:=Z.2;refine mv I I (yU (by exact yBT ax) ?_);intro gs dn ei;refine cL (ev1 I) call196 (λw hs=>jX hs ei) λfa gr dm ac=>?_;replace ac:=ac.2;refine asg I I (asg I I (asg (v:=vI (0)) I I (yA (zI (lP (qJ I I I I ?_))))));replace Z:=Z.mono (dn.trans dm);have el:k=Rs.length:=by omega
 rw[el,zXD ax,ey] at ac;obtain⟨e1,e2⟩:=zT3 (X:=val xs) (Y:=val ys) (s:=s) (u:=val us) (q:=val qs) oM (by rw[<-hV,<-hU];exact ap) (by rw[<-hV];exact ca);rw[e1] at Z;rw[e2] at ac;rw[zae ay,zae ay];exact⟨_,_,I,Z,ac⟩
theorem tR{v:Value}{xs:List Nat}(hv:Us .u32 h0 v xs)(hl:xs.length<=17592186044416):
 Calls prog 92 #[v] w0 (Ret w0 h0 (λh r=>Us .u32 h r (zB (val xs)))):=by
 refine cb1 23 v func92 hs ?_;refine sS ?_;refine gcL (ι:=Nat) (λ(k:(Nat))=>(k<=xs.length/\∀i,k<=i->xs.getD i 0=0,[(0,v),(3,vI ↑k)],[],h0,k)) xs.length ?_ ?_
 · exact⟨zbe _,λi hi=>by rw[zoa,zru hi];rfl⟩
 rintro k ⟨hk,hz⟩
 refine xD ?_;refine go5 ?_;refine gU 8 15 (vB (((0:Int)<↑k)/\(xs.getD (k-1) 0=0))) ?_ ?_
 ·
  refine zY ((0:Int)<↑k) (λM=>?_) (λM=>?_)
  ·
   refine gT M I (go7 ?_);refine gv (zW (k-1) underlying27 sizeOf124 I I hv oM oM) I (go3 ?_);refine gv (fV (k:=.u32) (q:=0) I I) I (go2 ?_);refine gqU ?_;exact y3u (xL M)
  refine gF M I (go8 ?_);refine gqU ?_;exact y3u (xM M)
 refine gc2 (λC=>?_) λC=>?_
 ·
  refine go9 ?_;refine gqL (k-1) ?_ ?_ (he:=⟨I,?_,y3e⟩)
  ·
   exact⟨by omega,λi hi=>by
    by_cases e:i=k-1
    · rw[e];exact C.2
    · exact hz i oM⟩
  · have:=C.1;omega
  · exact y3u (zbi vI (by have:=C.1;omega))
 refine go7 ?_;refine zH (zGW (kd:=.u32) underlying27 uP I I) I I I ?_;intro Z ab J;obtain rfl:=J;refine go2 ?_;refine gv (zAD _ underlying27 sizeOf124 I I hv.shape I oM) I ?_;have D:=hv.sub (lo:=0) (hi:=_) oM oM;refine xP (A:=[]) (fD (kd:=.u32) (bytes:=4) underlying27 uP I I I I I D (by simp;omega) (by simp;omega)) I I I ?_;intro U aa H;obtain rfl:=H;rw[zhe,yci,ydi];refine yU (by exact tA hv.lt k) ?_;intro h1 O ho;refine go4 ?_;refine zC I I ?_;replace hv:=hv.mono O;have e:xs.take k=zB (val xs):=zI2 hv.lt hk hz (by
  by_cases h0:k=0
  · exact .inl h0
  · exact .inr λh1=>C ⟨by omega,h1⟩)
 rw[<-e];exact ho
theorem yE2{v v':Value}{xs ys:List Nat}(hv:Us .u32 h0 v xs)(hv':Us .u32 h0 v' ys)(hl:xs.length<=1099511627776)(hl':ys.length<=1099511627776):
 Calls prog 189 #[v,v'] w0 (Ret w0 h0 (λh r=>Us .u32 h r (zB (Nat.gcd (val xs) (val ys))))):=by
 have bx:=qA hv.lt;have bw:=qA hv'.lt;obtain⟨G,hG⟩:∃G,G=Nat.gcd (val xs) (val ys):=⟨_,I⟩;rw[<-hG];refine cb2 61 v v' func189 hs ?_;refine go8 ?_;refine cL (ev1 I) call196 (λw hs=>jX hs hv) λbt h1 bg Z=>?_;replace Z:=Z.2;refine uX (vs:=[_]) I I I I call207 ⟨I,y3e⟩ (λw hs=>zFW hs Z oM) ?_;intro ar h2 ch bf aj;obtain rfl:=aj;refine yU (by exact wM _) ?_;intro h3 be bj;refine go1 ?_;replace hv':=hv'.mono ((bg.trans bf).trans be);refine cL (ev1 I) call196 (λw hs=>jX hs hv') λbs h4 cf U=>?_;replace U:=U.2;refine uX (vs:=[_]) I I I I call207 ⟨I,y3e⟩ (λw hs=>zFW hs U oM) ?_;intro aq h5 cg ce ai;obtain rfl:=ai;refine yU (by exact wM _) ?_;intro h6 cd bi;refine go6 ?_;refine gcL (ι:=Value×Nat×Value×Nat×Mem) (λ(vx,X,vy,Y,k1)=>(MLe h6 k1/\(Us .u32 k1 vx (zB X)/\Us .u32 k1 vy (zB Y)/\Nat.gcd X Y=G/\(zB X).length<=1099511627776/\(zB Y).length<=1099511627776),[(5,vx),(6,vy)],[],k1,Y)) (ar,val xs,aq,val ys,h6) ?_ ?_
 · exact⟨mle,bj.up,bi,hG.symm,by omega,by omega⟩
 rintro⟨vx,X,vy,Y,k1⟩ ⟨bm,⟨ha,hb,hg,ca,bd⟩⟩
 refine xD ?_;refine gc8 (λap=>?_) λap=>?_
 ·
  refine go7 ?_;have H:Y≠0:=yR.1 oM;refine cL (ev2 I I) call190 (λw hs=>zE5 hs ha hb oM oM) λbr h7 aa D=>?_;obtain⟨bv,av,rfl,am,D⟩:=D;simp only[zE] at am D;rw[zae H] at D;have bc:=yL (yku (zcu X (zii H)));refine zAQ ?_;refine gqL (vy,Y,av,X%Y,h7) ?_ ?_
  · exact⟨mle,hb.up,D,by rw[mZ];exact hg,bd,by omega⟩
  exact zcu _ (zii H)
 refine pL ?_;refine cnd (λao=>?_) λao=>?_
 ·
  have H:Y=0:=zdu λba=>by have:=yR.2 ba;omega
  refine go8 ?_;refine zC I I ?_;rw[H,yhe] at hg;rw[<-hg];exact ha
 have H:Y≠0:=yR.1 oM;refine go2 ?_;refine jR (ι:=Value×Nat×Value×Nat×Mem) (λ(O,X2,M,Y2,k2)=>MLe k1 k2/\(Us .u32 k2 O (zB X2)/\Us .u32 k2 M (zB Y2)/\Nat.gcd X2 Y2=G/\(zB X2).length<=2/\(zB Y2).length<=2)) (λ(O,X2,M,Y2,k2)=>[(5,O),(6,M)]) (λ(O,X2,M,Y2,k2)=>[]) (λ(O,X2,M,Y2,k2)=>k2) ?_ ?_
 ·
  refine gc7 (λan=>?_) λan=>?_
  ·
   refine go4 ?_;refine cL (ev2 I I) call190 (λw hs=>zE5 hs ha hb oM oM) λbq h7 aa C=>?_;obtain⟨bu,au,rfl,ak,C⟩:=C;simp only[zE] at ak C;rw[zae H] at C;have bc:=yL (yku (zcu X (zii H)));refine pX ?_;refine zV (vy,Y,au,X%Y,h7) ?_ e2z I I;refine⟨aa,?_⟩;replace hb:=hb.mono aa;exact⟨hb,C,by rw[mZ];exact hg,by omega,by omega⟩
  refine go1 ?_;refine zV (vx,X,vy,Y,k1) ?_ e2z I I;refine⟨MLe.refl _,?_⟩;exact⟨ha,hb,hg,by omega,by omega⟩
 rintro⟨O,X2,M,Y2,k2⟩ ⟨bl,⟨bk,ac,bh,ax,aw⟩⟩
 refine xD ?_;refine go3 ?_;refine cL (ev1 I) call208 (λw hs=>zOC hs bk oM) λbp h7 aa ah=>?_;subst ah;rw[zE];have az:=nR ax;refine go1 ?_;replace ac:=ac.mono aa;refine cL (ev1 I) call208 (λw hs=>zOC hs ac oM) λbo h8 cc ae=>?_;subst ae;rw[zE];have ay:=nR aw;refine go6 ?_;refine gcL (ι:=Nat×Nat) (λ(m,n)=>(Nat.gcd m n=G/\m<18446744073709551616/\n<18446744073709551616,[(13,vU .u64 m),(14,vU .u64 n)],[],h8,n)) (X2,Y2) ?_ ?_
 · exact⟨bh,az,ay⟩
 rintro⟨m,n⟩ ⟨ab,hm,hn⟩
 refine xD ?_;refine go4 ?_;refine gv (tS (k:=.u64) (q:=0) I I) I (gc2 (λJ=>?_) λJ=>?_)
 ·
  refine go3 ?_;refine zL 6 _ [] (zai 0 6 []) yF nX zou nX (λr hr=>hr) (go3 ?_);refine xY I (λ_ _=>bW (k:=.u64) I I oM) I (go4 ?_);refine gqL (n,m%n) ?_ ?_
  ·
   have bz:=zcu m (zii J);exact⟨by rw[mZ];exact ab,hn,by omega⟩
  exact zcu _ (zii J)
 refine go8 ?_;refine cL (ev1 I) call192 (λw hs=>nat_of hs oM) λbn h9 cb ad=>(go4 ?_);refine zC I I ?_;have bb:n=0:=zdi J;rw[bb,yhe] at ab;rw[<-ab];exact ad
theorem zAB{n:Nat}(hn:n<18446744073709551616):
 Calls prog 96 #[vU .u64 n] w0 (Ret w0 h0 (λh r=>Us .u32 h r (zB n))):=by
 refine cb1 10 (vU .u64 n) func96 hs ?_;refine uY ?_;refine zH (zGV (kd:=.u32) underlying27 uP I I I I) I I I ?_;intro U Z D;obtain rfl:=D;refine yU (by intro x hx;simp only[zfu,zgu,or_false] at hx;simp only[ub];omega) ?_;intro h1 J M;refine cL (ev1 I) call92 (λw hs=>tR hs M zo2) λO h2 H C=>(go4 ?_);refine zC I I ?_;have e:val [n%4294967296,n/2^32%4294967296]=n:=by simp only[val];omega
 rw[e] at C;exact C
theorem oS{v v':Value}{X Y:Nat}(hv:Us .u32 h0 v (zB X))(hv':Us .u32 h0 v' (zB Y)):
 Calls prog 49 #[v,v'] w0 (Ret w0 h0 (λ_ r=>r=vI (pO X Y))):=by
 have U:=zE X;have D:=zE Y;generalize hA:zB X=AA at *;generalize hB:zB Y=BB at *;have fA:Fit AA:=hv.lt;have fB:Fit BB:=hv'.lt;have lA:=hv.lt63;have lB:=hv'.lt63;refine cb2 41 v v' func49 hs ?_;refine qK ?_;refine gv (vS underlying27 I hv') I (gc3 (λO=>?_) λO=>?_)
 ·
  refine go6 ?_;refine gv (vS underlying27 I hv') I (gc3 (λM=>?_) λM=>?_)
  ·
   refine go8 ?_;refine zC I I ?_;rw[zCF (rV (by rw[hA,hB];omega))]
  refine go9 ?_;refine zC I I ?_;rw[zCG (rV (by rw[hA,hB];omega))]
 have hl:AA.length=BB.length:=by omega
 refine uY ?_;refine gcL (ι:=Nat) (λ(j:(Nat))=>(j<=AA.length/\AA.drop j=BB.drop j,[(0,v),(1,v'),(5,vI (↑j-1))],[],h0,j)) AA.length ?_ ?_
 · exact⟨zbe _,by rw[zmu (zbe _),zmu oM]⟩
 rintro j ⟨hj,hd⟩
 refine xD ?_;refine gc7 (λJ=>?_) λJ=>?_
 ·
  refine go6 ?_;refine zL 9 _ [] (zai 0 9 []) yF nX zou nX (λr Z=>Z) (go2 ?_);refine w_q I (λh' L' hh hR=>zW (j-1) underlying27 sizeOf124 I I (hv.mono hh) oM oM) I (w_q I (λh' L' hh hR=>wC isAgg124 I (hv.mono hh) oM) I (go2 ?_));refine w_q I (λh' L' hh hR=>zW (j-1) underlying27 sizeOf124 I I (hv'.mono hh) oM oM) I (w_q I (λh' L' hh hR=>wC isAgg124 I (hv'.mono hh) oM) I (gc3 (λC=>?_) λC=>?_))
  ·
   refine uY ?_;refine zC I I ?_;rw[<-U,<-D,zCF (zEW fA hl oM hj hd C)]
  refine go3 ?_;refine zL 9 _ [] (zai 0 9 []) yF nX zou nX (λr Z=>Z) (go2 ?_);refine w_q I (λh' L' hh hR=>zW (j-1) underlying27 sizeOf124 I I (hv.mono hh) oM oM) I (w_q I (λh' L' hh hR=>wC isAgg124 I (hv.mono hh) oM) I (go2 ?_));refine w_q I (λh' L' hh hR=>zW (j-1) underlying27 sizeOf124 I I (hv'.mono hh) oM oM) I (w_q I (λh' L' hh hR=>wC isAgg124 I (hv'.mono hh) oM) I (gc3 (λH=>?_) λH=>?_))
  ·
   refine qK ?_;refine zC I I ?_;rw[<-U,<-D,zCG (zEW fB hl.symm oM oM hd.symm oM)]
  refine go8 ?_;refine gqL (j-1) ?_ ?_ (he:=⟨I,I,?_,y3e⟩)
  ·
   refine⟨by omega,?_⟩;rw[tN AA (j-1) oM,tN BB (j-1) oM];have e:j-1+1=j:=by omega
   rw[e,hd,zdi (show ¬¬AA.getD (j-1) 0=BB.getD (j-1) 0 by omega)]
  · omega
  · exact y3u (zbi vI oM)
 refine qK ?_;refine zC I I ?_;have h0:j=0:=by omega
 subst h0;simp only[yci] at hd;rw[<-U,<-D,hd,zT6]
theorem zYO{v:Value}{X:Nat}(hv:Us .u32 h0 v (zB X))(hl:(zB X).length<=1099511627776):
 Calls prog 169 #[v] w0 (Ret w0 h0 (λ_ r=>r=vI ↑(uS X))):=by
 refine cb1 25 v func169 hs ?_;refine pL ?_;refine cnd (λU=>?_) λU=>?_
 ·
  refine go7 ?_;refine zC I I ?_;have h0:X=0:=zdu λO=>by have:=yR.2 O;omega
  rw[h0];rfl
 have H:0<(zB X).length:=by omega
 have hb:=zDZ (wM X) (k:=(zB X).length-1) oM (rB H);rw[zE] at hb;refine go7 ?_;refine gv (gX (p:=32) I I oM oM) I (uQ ?_);refine gv (zW ((zB X).length-1) underlying27 sizeOf124 I I hv oM oM) I (go1 ?_);have D:=hv.get32 ((zB X).length-1);refine go4 ?_;refine gcL (ι:=Nat×Nat) (λ(c,x)=>(x<4294967296/\uS ((zB X).getD ((zB X).length-1) 0)=c+uS x/\c<=32,[(3,vI (32*(↑(zB X).length-1)+↑c)),(4,vU .u32 x)],[],h0,x)) (0,(zB X).getD ((zB X).length-1) 0) ?_ ?_ (he:=⟨y3u (zbi vI oM),I,y3e⟩)
 · exact⟨D,by omega,by omega⟩
 rintro⟨c,x⟩ ⟨hx,J,Z⟩
 refine xD ?_;have aa:=oI (n:=(zB X).getD ((zB X).length-1) 0) (k:=32) D;refine go4 ?_;refine gv (tS (k:=.u32) (q:=0) I I) I (gc2 (λC=>?_) λC=>?_)
 ·
  refine pL ?_;refine gv (fT (k:=.u32) (s:=1) (yk:=.u64) I I I (by simp only[ub];omega)) I (go2 ?_);refine gqL (c+1,x/2^1) ?_ ?_ (he:=⟨y3u (zbi vI oM),I,y3e⟩)
  ·
   have h1:=zR9 C;exact⟨by omega,by rw[J,h1,show x/2^1=x/2 from I];omega,by omega⟩
  omega
 refine uY ?_;refine zC I I ?_;have M:x=0:=zdi C;rw[M,zR8] at J;exact zbi vI oM
theorem yEG{v v':Value}{X Y:Nat}(hv:Us .u32 h0 v (zB X))(hv':Us .u32 h0 v' (zB Y))(hl:(zB X).length<=1099511627776)(hl':(zB Y).length<=1099511627776):
 Calls prog 83 #[v,v'] w0 (Ret w0 h0 (λh r=>Us .u32 h r (zB (X+Y)))):=by
 have ay:=yL (Nat.le_add_right X Y);have ax:=yL (Nat.le_add_left Y X);have aw:=gA X Y;refine cb2 54 v v' func83 hs ?_;refine go7 ?_;refine eQ (pS (v:=.slice none 0 0) I) I I I (zDN (E:=124) (k:=.u32) (go4 ?_));refine asg (v:=vU .u64 0) I I (go9 ?_);refine gcL (ι:=Value×List Nat×Nat×Mem) (λ(U,C,c,k1)=>(MLe h0 k1/\(C.length<=(zB (X+Y)).length/\Fit C/\c<=1/\val C+4294967296^C.length*c=val ((zB X).take C.length)+val ((zB Y).take C.length)),[(0,v),(1,v'),(5,U),(6,vU .u64 c),(7,vI ↑C.length)],[.us 124 .u32 U C],k1,(zB (X+Y)).length-C.length)) (.slice none 0 0,[],0,h0) ?_ ?_
 · exact⟨mle,by simp,λx hx=>by simp at hx,by omega,by simp[val]⟩
 rintro⟨U,C,c,k1⟩ ⟨H,⟨aj,Z,az,O⟩⟩
 refine xD ?_;replace hv:=hv.mono H;replace hv':=hv'.mono H;have av:=hv.get32 C.length;have au:=hv'.get32 C.length;refine go7 ?_;refine gU 6 17 (vB (((↑C.length:Int)<↑(zB X).length)\/((↑C.length:Int)<↑(zB Y).length))) ?_ ?_
 ·
  refine zY ((↑C.length:Int)<↑(zB X).length) (λJ=>?_) (λJ=>?_)
  ·
   refine gT J I (go6 ?_);refine gqU ?_;exact y3u (vV J)
  refine gF J I (go5 ?_);refine gv (vS underlying27 I hv') I (go4 ?_);refine gqU ?_;exact y3u (vW J)
 refine gU 4 21 (vB (((↑C.length:Int)<↑(zB X).length\/(↑C.length:Int)<↑(zB Y).length)\/(c≠0))) ?_ ?_
 ·
  refine zY ((↑C.length:Int)<↑(zB X).length\/(↑C.length:Int)<↑(zB Y).length) (λJ=>?_) (λJ=>?_)
  ·
   refine gT J I (go4 ?_);refine gqU ?_;exact y3u (vV J)
  refine gF J I (go3 ?_);refine gv (tS (k:=.u64) (q:=0) I I) I (go2 ?_);refine gqU ?_;exact y3u (vW J)
 refine gc2 (λD=>?_) λD=>?_
 ·
  refine go4 ?_;refine jR (ι:=Unit) (λ(M:(Unit))=>True) (λ(M:(Unit))=>[(0,v),(1,v'),(5,U),(6,vU .u64 (c+(zB X).getD C.length 0)),(7,vI ↑C.length)]) (λ(M:(Unit))=>[.us 124 .u32 U C]) (λ(M:(Unit))=>k1) ?_ ?_
  ·
   refine gc8 (λah=>?_) λah=>?_
   ·
    refine go4 ?_;refine gv (zW (C.length) underlying27 sizeOf124 I I hv oM oM) I (go5 ?_);refine zV (()) ?_ e5z I I
    trivial
   refine go1 ?_;refine zV (()) ?_ ⟨I,I,I,?_,I,y3e⟩ I I
   · trivial
   · exact y3u (zbi (vU .u64) (by rw[sU (xs:=zB X) oM];omega))
  rintro M ad
  refine xD ?_;refine jR (ι:=Unit) (λ(M:(Unit))=>True) (λ(M:(Unit))=>[(0,v),(1,v'),(5,U),(6,vU .u64 (c+(zB X).getD C.length 0+(zB Y).getD C.length 0)),(7,vI ↑C.length)]) (λ(M:(Unit))=>[.us 124 .u32 U C]) (λ(M:(Unit))=>k1) ?_ ?_
  ·
   refine go4 ?_;refine gv (vS underlying27 I hv') I (gc3 (λae=>?_) λae=>?_)
   ·
    refine go4 ?_;refine gv (zW (C.length) underlying27 sizeOf124 I I hv' oM oM) I (gv (wC isAgg124 I hv' oM) I (go4 ?_));refine zV (()) ?_ e5z I I
    trivial
   refine go1 ?_;refine zV (()) ?_ ⟨I,I,I,?_,I,y3e⟩ I I
   · trivial
   · exact y3u (zbi (vU .u64) (by rw[sU (xs:=zB Y) oM];omega))
  rintro M ad
  refine xD ?_;refine go5 ?_;refine zH (pG (kd:=.u32) underlying27 uP I I I) I I I ?_;intro ap ar ab;obtain rfl:=ab;refine yU (by intro z hz;simp only[zte] at hz;subst hz;simp only[ub];omega) ?_;intro h1 ac am;refine xP (A:=[]) (fD (kd:=.u32) (bytes:=4) underlying27 uP I I I I I am zo8 zo8) I I I ?_;intro ai aq aa;obtain rfl:=aa;refine pX ?_;generalize ao:(zB X).getD C.length 0=p at *;generalize an:(zB Y).getD C.length 0=q at *;have ak:C.length<(zB (X+Y)).length:=by
   rcases D with(h|h)|h
   · omega
   · omega
   · by_cases h1:C.length<(zB X).length
     · omega
     · by_cases h2:C.length<(zB Y).length
       · omega
       · rw[wG oM,wG oM,zE,zE] at O
         refine zB2 ?_;have:=Nat.le_mul_of_pos_right (4294967296^C.length) (zii h);omega
  refine gqL (ai,C++[(c+p+q)%4294967296],(c+p+q)/2^32,h1) ?_ ?_ (he:=⟨I,I,I,I,y3u (zbi vI zo2),y3e⟩)
  ·
   refine⟨(H.trans ac),?_⟩;refine⟨by simp;omega,uR Z (aP oM),by omega,?_⟩;rw[lAz,zki,uL,uL,ao,an,rH,zmi];have e:=z7e (c+p+q) 4294967296;rw[show(2:Nat)^32=4294967296 from I];generalize (c+p+q)/4294967296=s at *;generalize (c+p+q)%4294967296=r at *;grind
  simp;omega
 refine go8 ?_;refine yU (by exact Z) ?_;intro h1 ac ho;refine go4 ?_;refine zC I I ?_;have h1:¬C.length<(zB X).length:=λh=>D (.inl (.inl oM));have h2:¬C.length<(zB Y).length:=λh=>D (.inl (.inr oM));have h3:c=0:=zdu λh=>D (.inr h);rw[wG oM,wG oM,zE,zE,h3] at O;have e:val C=X+Y:=by omega
 rw[<-e,zOL Z (by rw[e];exact aj)];exact ho
theorem zC1{v v':Value}{X Y:Nat}(hv:Us .u32 h0 v (zB X))(hv':Us .u32 h0 v' (zB Y))(hle:Y<=X)(hl:(zB X).length<=1099511627776):
 Calls prog 128 #[v,v'] w0 (Ret w0 h0 (λh r=>Us .u32 h r (zB (X-Y)))):=by
 have am:=yL hle;refine cb2 50 v v' func128 hs ?_;refine go9 ?_;refine jE (kd:=.u32) (by':=4) _ underlying27 uP I I I I I I I oM oM I ?_;intro D;refine go5 ?_;refine asg (v:=vU .u64 0) I I (go9 ?_);refine gO (ι:=List Nat×Nat) (λ(C,c)=>C.length<=(zB X).length/\Fit C/\c<=1/\val C+val ((zB Y).take C.length)=val ((zB X).take C.length)+4294967296^C.length*c) (λ(C,c)=>[(0,v),(1,v'),(5,D),(6,vU .u64 c),(7,vI ↑C.length)]) (λ(C,c)=>[.us 124 .u32 D (tY C (zB X).length)]) (λ(C,c)=>h0) (λ(C,c)=>(zB X).length-C.length) ([],0) ?_ e5z I I ?_
 · exact⟨by simp,λx hx=>by simp at hx,by omega,by simp[val]⟩
 rintro⟨C,c⟩ ⟨aj,J,ar,M⟩
 refine xD ?_;have ai:=hv.get32 C.length;have ah:=hv'.get32 C.length;refine gc9 (λZ=>?_) λZ=>?_
 ·
  refine uQ ?_;refine jR (ι:=Unit) (λ(_u:(Unit))=>True) (λ(_u:(Unit))=>[(0,v),(1,v'),(5,D),(7,vI ↑C.length),(8,vU .u64 (c+(zB Y).getD C.length 0))]) (λ(_u:(Unit))=>[.us 124 .u32 D (tY C (zB X).length)]) (λ(_u:(Unit))=>h0) ?_ ?_
  ·
   refine go4 ?_;refine gv (vS underlying27 I hv') I (gc3 (λU=>?_) λU=>?_)
   ·
    refine go4 ?_;refine gv (zW (C.length) underlying27 sizeOf124 I I hv' oM oM) I (gv (wC isAgg124 I hv' oM) I (go4 ?_));refine zV (()) ?_ e5z I I
    trivial
   refine go1 ?_;refine zV (()) ?_ ⟨I,I,I,I,?_,y3e⟩ I I
   · trivial
   · exact y3u (zbi (vU .u64) (by rw[sU (xs:=zB Y) oM];omega))
  rintro _u ad
  refine xD ?_;refine go4 ?_;refine gv (zW (C.length) underlying27 sizeOf124 I I hv oM oM) I (go7 ?_);refine asg (v:=vU .u64 0) I I (go2 ?_);refine jR (ι:=Nat) (λ(d:(Nat))=>d<=1/\c+(zB Y).getD C.length 0<=(zB X).getD C.length 0+4294967296*d/\(zB X).getD C.length 0+4294967296*d<c+(zB Y).getD C.length 0+4294967296) (λ(d:(Nat))=>[(0,v),(1,v'),(5,D),(6,vU .u64 d),(7,vI ↑C.length),(8,vU .u64 (c+(zB Y).getD C.length 0)),(9,vU .u64 ((zB X).getD C.length 0+4294967296*d))]) (λ(d:(Nat))=>[.us 124 .u32 D (tY C (zB X).length)]) (λ(d:(Nat))=>h0) ?_ ?_
  ·
   refine gc7 (λO=>?_) λO=>?_
   ·
    refine go3 ?_;refine gv (sK (k:=.u64) (q:=4294967296) (W:=18446744073709551616) I I I I oM) I (go4 ?_);refine asg (v:=vU .u64 1) I I (go1 ?_);refine zV (1) ?_ e7 I I;exact⟨by omega,by omega,by omega⟩
   refine go1 ?_;refine zV (0) ?_ e7 I I;exact⟨by omega,by omega,by omega⟩
  rintro d ⟨aa,aq,ap⟩
  refine xD ?_;refine go5 ?_;refine gv (lJ (k:=.u64) (W:=18446744073709551616) I I I I oM oM) I (gv (vT (k:=.u64) (k':=.u32) (W:=4294967296) underlying125 underlying124 I I I oM) I (gv (xH (A:=[]) (C.length) underlying27 sizeOf124 I I oM (by rw[uM oM];omega)) I (wY sizeOf124 I I (by rw[uM oM];omega) (go8 ?_))));generalize ac:(zB X).getD C.length 0=p at *;generalize ab:(zB Y).getD C.length 0=q at *;refine jZ (C++[p+4294967296*d-(c+q)],d) ?_ ?_ ⟨I,I,I,I,?_,y3e⟩ ?_ I
  ·
   refine⟨by simp;omega,uR J (aP oM),aa,?_⟩;rw[lAz,zki,uL,uL,ac,ab,rH,zmi];have e:p+4294967296*d-(c+q)+c+q=p+4294967296*d:=by omega
   generalize p+4294967296*d-(c+q)=r at *;grind
  ·
   dsimp only;simp;omega
  · exact y3u (zbi vI zo2)
  try dsimp only[List.nil_append,List.cons_append]
  rw[pM oM]
 refine go8 ?_;have hk:C.length=(zB X).length:=by omega
 rw[aD hk];refine yU (by exact J) ?_;intro h1 ao ho;refine cL (ev1 I) call92 (λw hs=>tR hs ho oM) λae h2 an H=>(go4 ?_);refine zC I I ?_;have hk:C.length=(zB X).length:=by omega
 rw[wG oM,wG oM,zE,zE] at M;have h1:=gE J;have h2:c=0:=zdu λak=>by
  have:c=1:=by omega
  subst this;omega
 subst h2;have e:val C=X-Y:=by omega
 rw[e] at H;exact H
theorem zSU{v v':Value}{X Y:Nat}(hv:Us .u32 h0 v (zB X))(hv':Us .u32 h0 v' (zB Y))(hl:(zB X).length<=1099511627776):
 Calls prog 84 #[v,v'] w0 (Ret w0 h0 (λh r=>∃u,r=.tuple #[u,vI (if X<Y then 7 else 0)]/\Us .u32 h u (zB (X-Y)))):=by
 refine cb2 13 v v' func84 hs ?_;refine qK ?_;refine cL (ev2 I I) call49 (λw hs=>oS hs hv hv') λv8 h1 J M=>?_;subst M;refine gc3 (λC=>?_) λC=>?_
 ·
  have H:=rS.1 C;refine go8 ?_;refine wU I I I ?_;rw[zau H,Nat.sub_eq_zero_of_le (yku H),xO];exact⟨_,I,Us.nil _ _⟩
 have Z:Y<=X:=yfi λhc=>C (rS.2 hc);refine go6 ?_;replace hv:=hv.mono J;replace hv':=hv'.mono J;refine cL (ev2 I I) call128 (λw hs=>zC1 hs hv hv' oM oM) λO h2 U D=>(go5 ?_);refine wU I I I ?_;rw[zae oM];exact⟨_,I,D⟩
theorem bK{v v':Value}{xs ys:List Nat}(hv:Us .u32 h0 v xs)(hv':Us .u32 h0 v' ys)(hl:xs.length<=1099511627776)(hl':ys.length<=1099511627776):
 Calls prog 50 #[v,v'] w0 (Ret w0 h0 (λh r=>Us .u32 h r (zB (val xs*val ys)))):=by
 have ar:Fit xs:=hv.lt;have aq:Fit ys:=hv'.lt;refine cb2 67 v v' func50 hs ?_;refine uQ ?_;refine gv (vS underlying27 I hv') I (go1 ?_);refine jE (kd:=.u32) (by':=4) (xs.length+ys.length) underlying27 uP I I I I I oM oM oM oM I ?_;intro D;refine uQ ?_;refine gcL (ι:=Nat×List Nat) (λ(k,H)=>(k<=xs.length/\H.length=xs.length+ys.length/\Fit H/\val H=val (xs.take k)*val ys/\∀i,k+ys.length<=i->H.getD i 0=0,[(0,v),(1,v'),(5,D),(6,vI ↑k)],[.us 124 .u32 D H],h0,xs.length-k)) (0,List.replicate (xs.length+ys.length) 0) ?_ ?_
 · exact⟨zui _,by simp,kK _,by rw[bJ];simp[val],λi _=>dP _ _⟩
 rintro⟨k,H⟩ ⟨hk,ae,ab,U,hz⟩
 refine xD ?_;refine gc9 (λad=>?_) λad=>?_
 ·
  refine go6 ?_;refine asg (v:=vU .u64 0) I I (go9 ?_);refine gcL (ι:=Nat×List Nat×Nat) (λ(j,C,c)=>(j<=ys.length/\C.length=xs.length+ys.length/\Fit C/\c<4294967296/\val C+4294967296^(k+j)*c=val H+4294967296^k*(xs.getD k 0*val (ys.take j))/\∀i,k+ys.length<=i->C.getD i 0=0,[(0,v),(1,v'),(5,D),(6,vI ↑k),(7,vU .u64 c),(8,vI ↑j)],[.us 124 .u32 D C],h0,ys.length-j)) (0,H,0) ?_ ?_
  · exact⟨zui _,ae,ab,by omega,by simp[val],hz⟩
  rintro⟨j,C,c⟩ ⟨hj,aa,O,ah,Z,M⟩
  refine xD ?_;have an:=hv.get32 k;have am:=hv'.get32 j;have ak:=jB O (k+j);have aj:xs.getD k 0*ys.getD j 0<=4294967295*4294967295:=z7i oM oM;refine go5 ?_;refine gv (vS underlying27 I hv') I (gc3 (λac=>?_) λac=>?_)
  ·
   refine go5 ?_;refine zL 22 _ [] (zai 0 22 []) yF nX zou nX (λr hr=>hr) (go3 ?_);refine w_q I (λh' L' hh hR=>zW (k) underlying27 sizeOf124 I I (hv.mono hh) oM oM) I (w_q I (λh' L' hh hR=>wC isAgg124 I (hv.mono hh) oM) I (go3 ?_));refine w_q I (λh' L' hh hR=>zW (j) underlying27 sizeOf124 I I (hv'.mono hh) oM oM) I (w_q I (λh' L' hh hR=>wC isAgg124 I (hv'.mono hh) oM) I (go6 ?_));refine w_q I (λh' L' hh hR=>fE (hR _ mh0) (k+j) underlying27 sizeOf124 I I oM oM) I (w_q I (λh' L' hh hR=>sY (hR _ mh0) isAgg124 I oM) I (sS ?_));refine gv (xH (A:=[]) (k+j) underlying27 sizeOf124 I I oM oM) I (wY sizeOf124 I I oM (sS ?_));refine gqL (j+1,C.set (k+j) ((c+(xs.getD k 0*ys.getD j 0+C.getD (k+j) 0))%4294967296),(c+(xs.getD k 0*ys.getD j 0+C.getD (k+j) 0))/2^32) ?_ ?_
   ·
    refine⟨by omega,by simp[aa],nZ O _ oM,by omega,?_,λi hi=>?_⟩
    · have h1:=nI (xs:=C) (i:=k+j) oM ((c+(xs.getD k 0*ys.getD j 0+C.getD (k+j) 0))%4294967296)
      have e:=z7e (c+(xs.getD k 0*ys.getD j 0+C.getD (k+j) 0)) 4294967296;have e2:(2:Nat)^32=4294967296:=I;rw[uW ys j oM,e2];have ep:(4294967296:Nat)^(k+(j+1))=4294967296^k*4294967296^j*4294967296:=by rw[<-z3e,zmi,zni]
      rw[ep];rw[zni] at h1 Z;generalize (c+(xs.getD k 0*ys.getD j 0+C.getD (k+j) 0))/4294967296=q at *;generalize (c+(xs.getD k 0*ys.getD j 0+C.getD (k+j) 0))%4294967296=r at *;grind
    · rw[jQ oM];exact M i hi
   omega
  refine go9 ?_;refine gv (vS underlying27 I hv') I (go3 ?_);refine gv (xH (A:=[]) (k+ys.length) underlying27 sizeOf124 I I oM oM) I (wY sizeOf124 I I oM (go8 ?_));refine gqL (k+1,C.set (k+ys.length) (c%4294967296)) ?_ ?_
  ·
   have hj:j=ys.length:=by omega
   subst hj;refine⟨by omega,by simp[aa],nZ O _ oM,?_,λi hi=>?_⟩
   · have h1:=nI (xs:=C) (i:=k+ys.length) oM (c%4294967296)
     rw[M _ (zbe _)] at h1;rw[wG (zbe _)] at Z;rw[zoh ah] at h1 ⊢;rw[uW xs k oM];grind
   · rw[jQ oM];exact M i oM
  omega
 refine go8 ?_;refine yU (by exact ab) ?_;intro h1 ap ho;refine cL (ev1 I) call92 (λw hs=>tR hs ho oM) λai h2 ao J=>(go4 ?_);refine zC I I ?_;rw[U,wG oM] at J;exact J
theorem zVA{v:Value}{X d:Nat}(hv:Us .u32 h0 v (zB X))(hd:d<4294967296)(hl:(zB X).length<=1099511627776):
 Calls prog 172 #[v,vU .u32 d] w0 (Ret w0 h0 (λh r=>Us .u32 h r (zB (X*d)))):=by
 refine cb2 10 v (vU .u32 d) func172 hs ?_;refine uQ ?_;refine cL (ev1 I) call96 (λw hs=>zAB hs oM) λU h1 H D=>?_;have M:=gL (n:=d) oM;replace hv:=hv.mono H;refine cL (ev2 I I) call50 (λw hs=>bK hs hv D oM oM) λO h2 J C=>?_;simp only[zE] at C;refine go4 ?_;refine zC I I ?_;exact C
theorem zF4{v:Value}{xs:List Nat}{b:Nat}(hv:Us .u32 h0 v xs)(hb:0<b)(hb':b<4294967296)(hl:xs.length<=1099511627776):
 Calls prog 168 #[v,vU .u32 b] w0 (Ret w0 h0 (λh r=>∃u,r=.tuple #[u,vU .u32 (val xs%b)]/\Us .u32 h u (zB (val xs/b)))):=by
 have hf:Fit xs:=hv.lt;refine cb2 43 v (vU .u32 b) func168 hs ?_;refine go3 ?_;refine asg (v:=vU .u32 0) I I (go6 ?_);refine jE (kd:=.u32) (by':=4) _ underlying27 uP I I I I I I I oM oM I ?_;intro H;refine go5 ?_;refine asg (v:=vU .u64 0) I I (uY ?_);refine gO (ι:=Nat×List Nat×Nat) (λ(j,D,r)=>j<=xs.length/\D.length=xs.length-j/\Fit D/\r<b/\val (xs.drop j)=b*val D+r) (λ(j,D,r)=>[(0,v),(1,vU .u32 b),(6,H),(7,vU .u64 r),(8,vI (↑j-1))]) (λ(j,D,r)=>[.us 124 .u32 H (fK j D)]) (λ(j,D,r)=>h0) (λ(j,D,r)=>j) (xs.length,[],0) ?_ e5z ?_ I ?_
 · exact⟨zbe _,by simp,λx hx=>by simp at hx,hb,by rw[zmu (zbe _)];rfl⟩
 ·
  try dsimp only[List.nil_append,List.cons_append]
  exact zbi (λz=>[Res.us 124 .u32 H z]) (lV _)
 rintro⟨j,D,r⟩ ⟨hj,ac,M,Z,C⟩
 refine xD ?_;refine gc7 (λO=>?_) λO=>?_
 ·
  refine go7 ?_;refine gv (fU (k:=.u64) (s:=32) (yk:=.u64) (W:=18446744073709551616) I I I I) I (go2 ?_);refine gv (zW (j-1) underlying27 sizeOf124 I I hv oM oM) I (go1 ?_);have U:=hv.get32 (j-1);refine go1 ?_;refine gv (rU (k:=.u64) I I I (by simp only[ub];omega) (by simp only[ub];omega)) I ?_;rw[cH oM U];generalize ht:r*4294967296+xs.getD (j-1) 0=t at *;have hq:t/b<4294967296:=z3u (by rw[<-ht];have h1:(r+1)*4294967296<=b*4294967296:=zfe _ Z;omega);refine uQ ?_;refine gv (bX (k:=.u64) (W:=18446744073709551616) I I I I oM oM) I (gv (vT (k:=.u64) (k':=.u32) (W:=4294967296) underlying125 underlying124 I I I oM) I (gv (xH (A:=[]) (j-1) underlying27 sizeOf124 I I oM (by rw[jK];omega)) I (wY sizeOf124 I I (by rw[jK];omega) (go6 ?_))));refine gv (bW (k:=.u64) I I oM) I (go9 ?_);refine jZ (j-1,t/b::D,t%b) ?_ ?_ ⟨I,I,I,I,?_,y3e⟩ ?_ I
  ·
   refine⟨by omega,by simp only[lC];omega,rR.2 ⟨hq,M⟩,zcu _ hb,?_⟩;rw[kM xs (j-1) oM,show j-1+1=j by omega,val];exact zFV C ht.symm I I
  ·
   dsimp only;omega
  · exact y3u (zbi vI oM)
  try dsimp only[List.nil_append,List.cons_append]
  rw[lT oM]
 refine go8 ?_;have aa:j=0:=by omega
 subst aa;rw[aE];refine yU (by exact M) ?_;intro h1 ae ho;refine cL (ev1 I) call92 (λw hs=>tR hs ho oM) λab h2 ad J=>(go1 ?_);refine gv (vT (k:=.u64) (k':=.u32) (W:=4294967296) underlying125 underlying124 I I I oM) I (go5 ?_);refine wU I I I ?_;simp only[yci] at C;have e1:val xs/b=val D:=by rw[C,Nat.mul_add_div hb,z0e Z];omega
 have e2:val xs%b=r:=by rw[C,Nat.mul_add_mod,zoh Z]
 rw[e1,e2];exact⟨_,I,J⟩
theorem zF3{v:Value}{X:Nat}(hv:Us .u32 h0 v (zB X))(hl:(zB X).length<=1099511627776):
 Calls prog 177 #[v] w0 (Ret w0 h0 (λ_ r=>r=.string (qT (txt X)))):=by
 have ar:=zPE (wM X);rw[zE] at ar;refine cb1 65 v func177 hs ?_;refine pL ?_;refine cnd (λav=>?_) λav=>?_
 ·
  have bi:(zB X).length=0:=by omega
  refine go7 ?_;refine zC I I ?_;have e:X=0:=zdu λaa=>by have:=yR.2 aa;omega
  rw[e];rfl
 have bk:(zB X).length≠0:=by omega
 refine go4 ?_;refine eQ (pS (v:=.slice none 0 0) I) I I I (zDN (E:=5) (k:=.u8) (go4 ?_));refine gO (ι:=Value×Nat×Value×List Nat×Mem) (λ(va,n,Z,ds,J)=>MLe h0 J/\(Us .u32 J va (zB n)/\n<=X/\ds++u6 n=u6 (X))) (λ(va,n,Z,ds,J)=>[(0,va),(3,Z)]) (λ(va,n,Z,ds,J)=>[.us 5 .u8 Z ds]) (λ(va,n,Z,ds,J)=>J) (λ(va,n,Z,ds,J)=>n) (v,X,.slice none 0 0,[],h0) ?_ e2z I I ?_
 ·
  refine⟨MLe.refl _,?_⟩;exact⟨hv,zbe _,I⟩
 rintro⟨va,n,Z,ds,J⟩ ⟨ai,⟨ha,ao,ab⟩⟩
 refine xD ?_;have bb:(zB n).length<=(zB X).length:=yL ao;refine gc8 (λad=>?_) λad=>?_
 ·
  refine go6 ?_;refine cL (vs:=[_,vU .u32 1000000000]) e2z call168 (λw hs=>zF4 hs ha oM oM oM) λbf h1 ap an=>?_;obtain⟨aj,rfl,D⟩:=an;rw[zE] at D ⊢;refine sS ?_;refine gO (ι:=Nat×Nat×Value×List Nat×Mem) (λ(i,x,M,C,O)=>MLe h1 O/\(i<=9/\x<10^(9-i)/\C++u6 (x+10^(9-i)*(n/1000000000))=u6 (X))) (λ(i,x,M,C,O)=>[(3,M),(4,aj),(5,vU .u32 x),(6,vI ↑i)]) (λ(i,x,M,C,O)=>[.us 5 .u8 M C]) (λ(i,x,M,C,O)=>O) (λ(i,x,M,C,O)=>9-i) (0,n%1000000000,Z,ds,h1) ?_ e4z I I ?_
  ·
   refine⟨MLe.refl _,?_⟩;exact⟨by omega,by omega,by rw[<-ab];congr 2;omega⟩
  rintro⟨i,x,M,C,O⟩ ⟨H,⟨hi,ah,U⟩⟩
  refine xD ?_;have bj:x<4294967296:=zlu ah (zci (zji oM (show 9-i<=9 by omega)) dC);refine go5 ?_;refine gU 9 30 (vB (((i:Int)<9)/\(0<x\/(0:Int)<↑(zB (n/1000000000)).length))) ?_ ?_
  ·
   refine zY ((i:Int)<9) (λhg=>?_) (λhg=>?_)
   ·
    refine gT hg I (go3 ?_);refine gv (mU (k:=.u32) (q:=0) I I) I ?_;refine gU 5 29 (vB ((0<x)\/((0:Int)<↑(zB (n/1000000000)).length))) ?_ ?_
    ·
     refine zY (0<x) (λhg=>?_) (λhg=>?_)
     ·
      refine go1 ?_;refine gT hg I (go6 ?_);refine gqU ?_;exact y3u (vV hg)
     refine go1 ?_;refine gF hg I ?_;replace D:=D.mono H;refine go9 ?_;refine gqU ?_;exact y3u (vW hg)
    refine go2 ?_;refine gqU ?_;exact y3u (xL hg)
   refine gF hg I (go9 ?_);refine gqU ?_;exact y3u (xM hg)
  refine gc2 (λac=>?_) λac=>?_
  ·
   have bc:C.length<=(u6 (X)).length:=by rw[<-U];simp
   refine go8 ?_;refine gv (bW (k:=.u32) (q:=10) I I oM) I (gv (sK (k:=.u32) (p:=48) (W:=4294967296) I I I I oM) I (gv (vT (k:=.u32) (k':=.u8) (W:=256) underlying124 underlying5 I I I oM) I (zH (pG (kd:=.u8) underlying215 zTL I I I) I I I ?_)));intro be bh am;obtain rfl:=am;refine yU (by intro z hz;simp only[zte] at hz;subst hz;simp only[ub];omega) ?_;intro h2 az ba;refine xP (A:=[]) (fD (kd:=.u8) (bytes:=1) underlying215 zTL I I I I I ba zo8 zo8) I I I ?_;intro aw bg ak;obtain rfl:=ak;refine go5 ?_;refine gv (bX (k:=.u32) (q:=10) (W:=4294967296) I I I I oM oM) I (go9 ?_);refine jZ (i+1,x/10,aw,C++[48+x%10],h2) ?_ ?_ e4z I I
   ·
    refine⟨(H.trans az),?_⟩;obtain⟨h9,hor⟩:=ac;obtain⟨k,hk⟩:∃k,9-i=k+1:=⟨8-i,by omega⟩;have bl:=yR (n:=n/1000000000);refine⟨by omega,?_,?_⟩
    · rw[show 9-(i+1)=k by omega]
      rw[hk,zmi] at ah;omega
    · rw[show 9-(i+1)=k by omega]
      rw[hk,zWW oM] at U;rw[zju];exact U
   dsimp only;omega
  refine uQ ?_;refine jZ (aj,n/1000000000,M,C,O) ?_ ?_ e2z I I
  ·
   refine⟨((ai.trans ap).trans H),?_⟩;replace D:=D.mono H;refine⟨D,by omega,?_⟩;rw[<-U]
   congr 2
   by_cases h9:i=9
   · subst h9;simp at ah ⊢;omega
   · have h1:¬(0<x\/(0:Int)<↑(zB (n/1000000000)).length):=λh=>ac ⟨by omega,h⟩
     have h2:n/1000000000=0:=zdu λaa=>h1 (.inr (by have:=yR.2 aa;omega));rw[h2,show x=0 by omega,z8u]
  dsimp only;have:=yR (n:=n);omega
 have ax:n=0:=zdu λaa=>ad (by have:=yR.2 aa;omega);subst ax;rw[zJ9,zqi] at ab;have bd:ds.length<=10*(zB X).length:=by rw[ab];exact ar
 refine go8 ?_;refine gv (pE (A:=[]) underlying215 I) I (jE (kd:=.u8) (by':=1) (ds.length) underlying215 zTL I I I I I oM oM oM oM I ?_);intro ae;refine uQ ?_;refine gO (ι:=Nat) (λ(k:(Nat))=>k<=ds.length) (λ(k:(Nat))=>[(3,Z),(7,ae),(8,vI ↑k)]) (λ(k:(Nat))=>[.us 5 .u8 ae (fK (ds.length-k) (ds.take k).reverse),.us 5 .u8 Z ds]) (λ(k:(Nat))=>J) (λ(k:(Nat))=>ds.length-k) 0 ?_ e3z ?_ I ?_
 · exact zui _
 ·
  try dsimp only[List.nil_append,List.cons_append]
  exact zbi (λz=>[Res.us 5 .u8 ae z,Res.us 5 .u8 Z ds]) (lV _)
 rintro k hk
 refine xD ?_;refine go5 ?_;refine gv (pE (A:=[_]) underlying215 I) I (gc3 (λau=>?_) λau=>?_)
 ·
  refine go7 ?_;refine gv (pE (A:=[_]) underlying215 I) I (go5 ?_);refine gv (xH (A:=[_]) (k) underlying215 sizeOf5 I I oM oM) I (gv (tC (A:=[_]) isAgg5 I oM) I (gv (xH (A:=[]) (ds.length-k-1) underlying215 sizeOf5 I I oM (by rw[jK,ywu,zei];omega)) I (wY sizeOf5 I I (by rw[jK,ywu,zei];omega) (go8 ?_))));refine jZ (k+1) ?_ ?_ e3z ?_ I
  · omega
  · omega
  try dsimp only[List.nil_append,List.cons_append]
  rw[lT oM,dW ds k oM,List.reverse_append,List.reverse_singleton,List.singleton_append,Nat.sub_sub]
 refine go8 ?_;have ay:k=ds.length:=by omega
 rw[ay,ytu,aE,z6i];refine yU (by intro z hz;rw[ab] at hz;exact zUB _ z (List.mem_reverse.1 hz)) ?_;intro h1 ap aq;refine gv (zK4 underlying215 underlying5 underlying9 I aq) I (go4 ?_);refine zC I I ?_;have e:X≠0:=yR.1 oM;rw[txt,zae e,<-ab]
theorem zYM{v:Value}{X n:Nat}(hv:Us .u32 h0 v (zB X))(hn:n<=16384)(hl:(zB X).length<=1099511627776):
 Calls prog 170 #[v,vI ↑n] w0 (Ret w0 h0 (λh r=>Us .u32 h r (zB (X*2^n)))):=by
 obtain⟨s,ba⟩:∃s,s=n%32:=⟨_,I⟩;have hp:2^s<=2147483648:=zji (n:=2) oM (show s<=31 by omega);have ak:0<2^s:=zwu oM;refine cb2 40 v (vI ↑n) func170 hs ?_;refine go8 ?_;refine gv (zGB (q:=32) I I oM oM oM) I (jE (kd:=.u32) (by':=4) (n/32) underlying27 uP I I I I I oM oM oM oM I ?_);intro aj;refine go5 ?_;refine asg (v:=vU .u64 0) I I (go9 ?_);refine gO (ι:=Value×List Nat×Nat×Mem) (λ(M,C,c,O)=>MLe h0 O/\(C.length<=(zB X).length/\Fit C/\c<2^s/\val C+4294967296^C.length*c=val ((zB X).take C.length)*2^s)) (λ(M,C,c,O)=>[(0,v),(1,vI ↑n),(5,M),(6,vU .u64 c),(7,vI ↑C.length)]) (λ(M,C,c,O)=>[.us 124 .u32 M (List.replicate (n/32) 0++C)]) (λ(M,C,c,O)=>O) (λ(M,C,c,O)=>(zB X).length-C.length) (aj,[],0,h0) ?_ e5z ?_ I ?_
 ·
  refine⟨MLe.refl _,?_⟩;exact⟨by simp,λx hx=>by simp at hx,ak,by simp[val]⟩
 ·
  try dsimp only[List.nil_append,List.cons_append]
  rw[zqi]
 rintro⟨M,C,c,O⟩ ⟨J,⟨az,ad,hc,D⟩⟩
 refine xD ?_;replace hv:=hv.mono J;refine gc9 (λah=>?_) λah=>?_
 ·
  refine go9 ?_;refine gv (zW (C.length) underlying27 sizeOf124 I I hv oM oM) I (go1 ?_);have ay:=hv.get32 C.length;have ax:(zB X).getD C.length 0*2^s<18446744073709551616-4294967296:=by
   have:=z7i (show(zB X).getD C.length 0<=4294967295 by omega) hp;omega
  refine go2 ?_;refine gv (wI (q:=32) I I oM oM) I ?_;rw[show(↑n:Int)%32=↑s by omega];refine gv (fU (k:=.u64) (s:=s) (yk:=.i64) (W:=18446744073709551616) I I I I) I ?_;rw[zoh oM];refine gv (rU (k:=.u64) I I I (by simp only[ub];omega) (by simp only[ub];omega)) I ?_;rw[zQT hc];refine go8 ?_;refine zH (pG (kd:=.u32) underlying27 uP I I I) I I I ?_;intro aq aw ab;obtain rfl:=ab;refine yU (by intro z hz;simp only[zte] at hz;subst hz;simp only[ub];omega) ?_;intro h1 ac am;refine xP (A:=[]) (fD (kd:=.u32) (bytes:=4) underlying27 uP I I I I I am zo7 zo7) I I I ?_;intro ai av aa;obtain rfl:=aa;refine pX ?_;refine jZ (ai,C++[((zB X).getD C.length 0*2^s+c)%4294967296],((zB X).getD C.length 0*2^s+c)/2^32,h1) ?_ ?_ ⟨I,I,I,I,?_,y3e⟩ ?_ I
  ·
   refine⟨(J.trans ac),?_⟩;refine⟨by simp;omega,uR ad (aP oM),?_,?_⟩
   · refine z3u ?_
     have:=zfe (2^s) (show(zB X).getD C.length 0+1<=2^32 by omega);rw[z1e] at this;omega
   · have e:=z7e ((zB X).getD C.length 0*2^s+c) 4294967296
     have e2:(2:Nat)^32=4294967296:=I;rw[lAz,zki,uW (zB X) _ oM,rH,zmi,e2];generalize ((zB X).getD C.length 0*2^s+c)/4294967296=q at *;generalize ((zB X).getD C.length 0*2^s+c)%4294967296=r at *;grind
  ·
   dsimp only;simp;omega
  · exact y3u (zbi vI zo2)
  try dsimp only[List.nil_append,List.cons_append]
  rw[zju]
 refine uQ ?_;refine zH (pG (kd:=.u32) underlying27 uP I I I) I I I ?_;intro ap au Z;obtain rfl:=Z;refine yU (by intro z hz;simp only[zte] at hz;subst hz;simp only[ub];omega) ?_;intro h1 ac ae;refine xP (A:=[]) (fD (kd:=.u32) (bytes:=4) underlying27 uP I I I I I ae zo7 zo7) I I I ?_;intro ao ar U;obtain rfl:=U;refine yU (by exact uR (uR (kK _) ad) (aP oM)) ?_;intro h2 bc ho;refine cL (ev1 I) call92 (λw hs=>tR hs ho (by simp;omega)) λan h3 bb H=>(go4 ?_);refine zC I I ?_;have hk:C.length=(zB X).length:=by omega
 rw[wG oM,zE] at D;rw[zoh oM,zju,lD,bJ,lR,rH,D,zIK,zyi,show 32*(n/32)+s=n by omega] at H;exact H
theorem zYN{v:Value}{X n:Nat}(hv:Us .u32 h0 v (zB X))(hn:n<9223372036854775808)(hl:(zB X).length<=1099511627776):
 Calls prog 173 #[v,vI ↑n] w0 (Ret w0 h0 (λh r=>Us .u32 h r (zB (X/2^n)))):=by
 obtain⟨s,ai⟩:∃s,s=n%32:=⟨_,I⟩;refine cb2 55 v (vI ↑n) func173 hs ?_;refine go9 ?_;refine gv (zGB (q:=32) I I oM oM oM) I (gc5 (λaa=>?_) λaa=>?_)
 ·
  refine go7 ?_;refine zC I I ?_;rw[show X/2^n=0 from zME oM,xO];exact Us.nil _ _
 refine go6 ?_;refine gv (zGB (q:=32) I I oM oM oM) I ?_;rw[show(↑n:Int)/32=↑(n/32) by omega];refine gv (jL (n/32) underlying27 sizeOf124 I I hv.shape oM oM) I ?_;have D:=hv.sub (lo:=n/32) (hi:=(zB X).length) oM oM;rw[zxe (by rw[ziu];omega)] at D;have ao:(List.drop (n/32) (zB X)).length=(zB X).length-n/32:=ziu;refine go1 ?_;have O:Fit (List.drop (n/32) (zB X)):=dQ (wM _) _;have ab:=kY (wM X) (n/32);rw[zE] at ab;obtain⟨vR,ac⟩:∃z,z=tB 1 v (n/32) (zB X).length:=⟨_,I⟩;rw[<-ac] at D ⊢;generalize List.drop (n/32) (zB X)=Rs at *;refine go6 ?_;refine jE (kd:=.u32) (by':=4) (Rs.length) underlying27 uP I I I I I oM oM oM oM I ?_;intro H;refine uQ ?_;refine gcL (ι:=List Nat) (λ(C:(List Nat))=>(C.length<=Rs.length/\C=(List.range C.length).map (iR s Rs),[(0,vR),(1,vI ↑n),(5,H),(6,vI ↑C.length)],[.us 124 .u32 H (tY C Rs.length)],h0,Rs.length-C.length)) [] ?_ ?_
 · exact⟨by simp,I⟩
 rintro C ⟨ah,M⟩
 refine xD ?_;refine gc9 (λZ=>?_) λZ=>?_
 ·
  refine go8 ?_;refine gv (zW (C.length) underlying27 sizeOf124 I I D oM oM) I (go1 ?_);have an:=jB O C.length;have am:=jB O (C.length+1);refine go4 ?_;refine jR (ι:=Unit) (λ(_u:(Unit))=>True) (λ(_u:(Unit))=>[(0,vR),(1,vI ↑n),(5,H),(6,vI ↑C.length),(7,vU .u64 (Rs.getD C.length 0+4294967296*Rs.getD (C.length+1) 0))]) (λ(_u:(Unit))=>[.us 124 .u32 H (tY C Rs.length)]) (λ(_u:(Unit))=>h0) ?_ ?_
  ·
   refine gc9 (λU=>?_) λU=>?_
   ·
    refine go5 ?_;refine gv (zW (C.length+1) underlying27 sizeOf124 I I D oM oM) I (go2 ?_);refine gv (fU (k:=.u64) (s:=32) (yk:=.u64) (W:=18446744073709551616) I I I I) I (gv (rU (k:=.u64) I I I (by simp only[ub];omega) (by simp only[ub];omega)) I ?_);rw[Nat.or_comm,cH oM oM];refine go2 ?_;refine zV (()) ?_ ⟨I,I,I,I,?_,y3e⟩ I I
    · trivial
    · exact y3u (zbi (vU .u64) oM)
   refine go1 ?_;refine zV (()) ?_ ⟨I,I,I,I,?_,y3e⟩ I I
   · trivial
   · exact y3u (zbi (vU .u64) (by rw[sU (xs:=Rs) (i:=C.length+1) oM];omega))
  rintro _u ad
  refine xD ?_;refine go5 ?_;refine gv (wI (q:=32) I I oM oM) I ?_;rw[show(↑n:Int)%32=↑s by omega];refine gv (fT (k:=.u64) (s:=s) (yk:=.i64) I I I (by simp only[ub];omega)) I (go1 ?_);rw[zX4 oM oM];refine gv (xH (A:=[]) (C.length) underlying27 sizeOf124 I I oM (by rw[uM oM];omega)) I (wY sizeOf124 I I (by rw[uM oM];omega) (go8 ?_));refine gqL (C++[iR s Rs C.length]) ?_ ?_ (he:=⟨I,I,I,?_,y3e⟩) (hL:=?_)
  ·
   refine⟨by simp;omega,?_⟩;rw[lAz,zki,yui,znu,List.map_singleton,<-M]
  · simp;omega
  · exact y3u (zbi vI zo2)
  try dsimp only[List.nil_append,List.cons_append]
  rw[pM oM]
 refine go8 ?_;have hk:C.length=Rs.length:=by omega
 rw[aD hk];refine yU (by rw[M];intro z hz;obtain⟨w,_,rfl⟩:=zle.1 hz;exact zSO s Rs w) ?_;intro h1 ak ho;refine cL (ev1 I) call92 (λw hs=>tR hs ho oM) λae h2 aj J=>(go4 ?_);refine zC I I ?_;rw[M,hk,zU1 O,ab,zIS,show 32*(n/32)+s=n by omega] at J;exact J
theorem y6{v:Value}{X:Nat}(hv:Us .u32 h0 v (zB X)):
 Calls prog 167 #[v] w0 (Ret w0 h0 (λ_ r=>r=.tuple #[vU .u64 (if(zB X).length<=2 then X else 0),vB ((zB X).length<=2)])):=by
 have Z:=hv.get32 0;have U:=hv.get32 1;have aa:=zE X;have O:=hv.lt63;refine cb1 26 v func167 hs ?_;refine go2 ?_;refine asg (v:=vU .u64 0) I I (mF ?_);refine cnd (λM=>?_) λM=>?_
 ·
  refine go2 ?_;refine asg (v:=vU .u64 0) I I (go6 ?_);refine wU I I I ?_;have h0:X=0:=zdu λH=>by have:=yR.2 H;omega
  rw[wA oM,zau oM,h0]
 refine gc6 (λJ=>?_) λJ=>?_
 ·
  have D:=zAZ (xs:=zB X) oM;refine go3 ?_;refine gv (zW (q:=0) (0) underlying27 sizeOf124 I I hv I oM) I (go9 ?_);refine wU I I I ?_;rw[wA oM,zau oM,<-D,zE]
 refine gc6 (λC=>?_) λC=>?_
 ·
  refine go1 ?_;refine zL 12 _ [] (zai 0 12 []) yF nX zou nX (λr hr=>hr) (go1 ?_);refine w_q I (λh' L' hh hR=>zW (q:=0) (0) underlying27 sizeOf124 I I (hv.mono hh) I oM) I (w_q I (λh' L' hh hR=>wC isAgg124 I (hv.mono hh) oM) I (go2 ?_));refine w_q I (λh' L' hh hR=>zW (q:=1) (1) underlying27 sizeOf124 I I (hv.mono hh) I oM) I (w_q I (λh' L' hh hR=>wC isAgg124 I (hv.mono hh) oM) I (go1 ?_));refine xY I (λ_ _=>fU (k:=.u64) (s:=32) (yk:=.u64) (W:=18446744073709551616) I I I I) I (xY I (λ_ _=>rU (k:=.u64) I I I (by simp only[ub];omega) (by simp only[ub];omega)) I ?_);rw[Nat.or_comm,cH oM oM];refine go7 ?_;refine wU I I I ?_;have h1:=uL (zB X) 1;have h2:=uL (zB X) 0;rw[wG oM,zE] at h1;rw[List.take_zero] at h2;simp only[val,zyi] at h2;rw[wA oM,zau oM];have e:(zB X).getD 1 0*4294967296+(zB X).getD 0 0=X:=by omega
  rw[e]
 refine go5 ?_;refine asg (v:=vU .u64 0) I I (go4 ?_);refine wU I I I ?_;rw[yN oM,zae oM]
theorem zEB{v:Value}{X k:Nat}(hv:Us .u32 h0 v (zB X))(hk:k<=4398046511104)(hl:(zB X).length<=4398046511104):
 Calls prog 171 #[v,vI ↑k] w0 (Ret w0 h0 (λh r=>Us .u32 h r (zB (X*4294967296^k)))):=by
 refine cb2 12 v (vI ↑k) func171 hs ?_;refine pL ?_;refine cnd (λH=>?_) λH=>?_
 ·
  have h0:X=0:=zdu λD=>by have:=yR.2 D;omega
  refine go7 ?_;refine zC I I ?_;rw[h0,zwe,xO];exact Us.nil _ _
 have h0:X≠0:=yR.1 oM;refine go5 ?_;refine jE (kd:=.u32) (by':=4) (k) underlying27 uP I I I I I oM oM oM oM I ?_;intro Z;refine go1 ?_;refine xP (A:=[]) (fD (kd:=.u32) (bytes:=4) underlying27 uP I I I I I hv (by rw[lR];omega) (by rw[lR];omega)) I I I ?_;intro J M C;obtain rfl:=C;refine yU (by exact uR (kK _) (wM _)) ?_;intro h1 U O;refine go4 ?_;refine zC I I ?_;rw[<-zOK h0];exact O
end
set_option maxHeartbeats 1000000 in
section
variable{w0:World}{h0:Mem}(hs:MLe h0 (mem w0))
include hs
theorem zKV{v v':Value}{X Y:Nat}(hv:Us .u32 h0 v (zB X))(hv':Us .u32 h0 v' (zB Y))(hl:(zB X).length<=549755813888)(hl':(zB Y).length<=549755813888):
 Calls prog 127 #[v,v'] w0 (Ret w0 h0 (λh z=>∃q r,z=.tuple #[q,r,vI (if Y=0 then 3 else 0)]/\Us .u32 h q (zB (X/Y))/\Us .u32 h r (zB (if Y=0 then 0 else X%Y)))):=by
 refine cb2 163 v v' func127 hs ?_;refine qK ?_;refine gv (vS underlying27 I hv') I (gc3 (λck=>?_) λck=>?_)
 ·
  have cq:Y=0:=zdu λcz=>by have:=yR.2 cz;omega
  refine go9 ?_;refine qJ I I I I ?_;rw[cq,Nat.div_zero,zau I,zau I,xO];exact⟨_,_,I,Us.nil _ _,Us.nil _ _⟩
 have C:Y≠0:=yR.1 oM;refine go7 ?_;refine cL (ev2 I I) call49 (λw hs=>oS hs hv hv') λeh h1 ax bx=>?_;subst bx;refine gc3 (λaq=>?_) λaq=>?_
 ·
  have Z:=rS.1 aq;refine go3 ?_;replace hv:=hv.mono ax;refine cL (ev1 I) call92 (λw hs=>tR hs hv oM) λeg h2 ao bb=>?_;rw[zE] at bb;refine go7 ?_;refine qJ I I I I ?_;rw[z0e Z,zoh Z,zae C,zae C,xO];exact⟨_,_,I,Us.nil _ _,bb⟩
 have cc:Y<=X:=yfi λhc=>aq (rS.2 hc);have eq:=yL cc;refine go6 ?_;replace hv:=hv.mono ax;refine cL (ev1 I) call167 (λw hs=>y6 hs hv) λef h2 ao bw=>?_;subst bw;refine zL7 (λap=>?_) λap=>?_
 ·
  have hw:=nR ap;have ej:=nR (n:=Y) oM;refine go3 ?_;replace hv':=hv'.mono (ax.trans ao);refine cL (ev1 I) call167 (λw hs=>y6 hs hv') λee h3 aw bv=>?_;subst bv;refine go2 ?_;rw[zau ap,zau (show(zB Y).length<=2 by omega)];refine go6 ?_;refine zL 11 _ [] [(0,.q),(1,.q),(2,.q),(4,.q),(5,.q),(6,.q),(3,.c),(7,.c),(8,.q),(9,.q),(10,.q)] yF nX zou nX (λr hr=>hr) (go2 ?_);refine xY I (λ_ _=>bX (k:=.u64) (W:=18446744073709551616) I I I I oM oM) I (go2 ?_);refine xY I (λ_ _=>bW (k:=.u64) I I oM) I ?_;refine w_c I ?_;have du:=zse X Y;have bq:=zcu X (zii C);refine sC (ev1 I) call96 (λw hs=>zAB hs oM) λed h4 av ah=>?_;refine w_c I (sC (ev1 I) call96 (λw hs=>zAB hs oM) λec h5 bj bu=>(go2 ?_));refine zMS (v:=vI (0)) I I I (go4 ?_);refine qJ I I I I ?_;replace ah:=ah.mono bj;rw[zae C,zae C];exact⟨_,_,I,ah,bu⟩
 refine go6 ?_;replace hv':=hv'.mono (ax.trans ao);refine gv (vS underlying27 I hv') I (gc3 (λcj=>?_) λcj=>?_)
 ·
  have bc:(zB Y).length=1:=by omega
  have dd:(zB Y).getD 0 0≠0:=by have:=rB (n:=Y) oM;rwa [bc] at this
  have bo:=zAZ bc;rw[zE] at bo;refine go4 ?_;refine gv (zW (q:=0) (0) underlying27 sizeOf124 I I hv' I oM) I (gv (wC isAgg124 I hv' oM) I ?_);have eu:=hv'.get32 0;replace hv:=hv.mono ao;refine cL (ev2 I I) call168 (λw hs=>zF4 hs hv oM oM oM) λeb h3 aw bt=>?_;obtain⟨ei,rfl,M⟩:=bt;rw[zE] at M ⊢;have bq:=zcu X (zii dd);refine uY ?_;refine cL (ev1 I) call96 (λw hs=>zAB hs oM) λea h4 av ba=>(go7 ?_);refine qJ I I I I ?_;replace M:=M.mono av;rw[<-bo] at M ba;rw[zae C,zae C];exact⟨_,_,I,M,ba⟩
 have ca:2<=(zB Y).length:=by omega
 refine go6 ?_;refine gv (vS underlying27 I hv') I (go1 ?_);refine gv (jL ((zB Y).length-1) underlying27 sizeOf124 I I hv'.shape oM oM) I ?_;have ae:=hv'.sub (lo:=(zB Y).length-1) (hi:=(zB Y).length) oM oM;rw[zxe (by rw[ziu];omega),zRO oM] at ae;have hgt:=hv'.get32 ((zB Y).length-1);have ek:=gL (n:=(zB Y).getD ((zB Y).length-1) 0) oM;have dy:=oI (n:=(zB Y).getD ((zB Y).length-1) 0) (k:=32) hgt;refine cL (ev1 I) call169 (λw hs=>zYO hs ae oM) λdz h3 aw bs=>?_;subst bs;refine gv (vJ (p:=32) I I oM oM) I ?_;obtain⟨s,cy⟩:∃s,s=32-uS ((zB Y).getD ((zB Y).length-1) 0):=⟨_,I⟩;rw[show(32:Int)-↑(uS ((zB Y).getD ((zB Y).length-1) 0))=↑s by omega];obtain⟨bp,ad,cv⟩:=zGT (k:=(zB Y).length-1) C oM cy;refine go7 ?_;replace hv':=hv'.mono aw;refine cL (ev2 I I) call170 (λw hs=>zYM hs hv' oM oM) λar h4 av D=>(go2 ?_);replace hv:=hv.mono ((ao.trans aw).trans av);refine cL (ev2 I I) call170 (λw hs=>zYM hs hv oM oM) λco h5 bj az=>(go2 ?_);replace D:=D.mono bj;replace ad:(zB (Y*2^s)).length=(zB Y).length:=by omega
 have cl:=rD (n:=Y*2^s) (k:=(zB Y).length-1) oM;generalize en:(zB Y).length=n at *;obtain⟨V,hV⟩:∃V,V=Y*2^s:=⟨_,I⟩;obtain⟨U,hU⟩:∃U,U=X*2^s:=⟨_,I⟩;rw[<-hV] at D ad cv cl;rw[<-hU] at az;have cn:=zSI ca ad;rw[zE] at cn;have cu:=gE (tA (wM V) (n-2));rw[zei,zti oM] at cu;have ey:(zB U).length<=(zB X).length+1:=by rw[hU];exact zci (yQ X (2^s)) (Nat.add_le_add_left (qN (k:=1) (by rw[Nat.pow_one];exact zlu (Nat.pow_lt_pow_right dC bp) dC)) _)
 have dh:V<=U:=by rw[hV,hU];exact zfe _ cc
 have bz:=yL dh;rw[ad] at bz;have cw:=zP9 (uZ U) cl oM bz;generalize br:(zB U).length=r at *;have dt:=jB (wM V) (n-1);refine go6 ?_;rw[ad];refine go7 ?_;rw[br];refine go3 ?_;refine jE (kd:=.u32) (by':=4) (r-n+1) underlying27 uP I I I I I oM oM oM oM I ?_;intro H;refine go8 ?_;rw[br];refine go6 ?_;refine gO (ι:=Nat×Value×Nat×List Nat×Mem) (λ(K,vr,R,qs,k1)=>MLe h5 k1/\(Us .u32 k1 vr (zB R)/\K<=r-n+1/\qs.length=r-n+1-K/\Fit qs/\R+4294967296^K*(val qs*V)=U/\R<4294967296^K*V/\(zB R).length<=r)) (λ(K,vr,R,qs,k1)=>[(1,ar),(4,H),(5,vr),(13,vI ↑s),(14,vI ↑n),(15,vI (↑K-1))]) (λ(K,vr,R,qs,k1)=>[.us 124 .u32 H (fK K qs)]) (λ(K,vr,R,qs,k1)=>k1) (λ(K,vr,R,qs,k1)=>K) (r-n+1,co,U,[],h5) ?_ ⟨?_,?_,?_,?_,?_,?_,y3e⟩ ?_ I ?_
 ·
  refine⟨MLe.refl _,?_⟩;exact⟨az,zbe _,by simp,λx hx=>by simp at hx,by simp[val],cw,by omega⟩
 · exact I
 · exact I
 · exact I
 · exact I
 · exact I
 · exact y3u (zbi vI oM)
 ·
  try dsimp only[List.nil_append,List.cons_append]
  exact zbi (λz=>[Res.us 124 .u32 H z]) (lV _)
 rintro⟨K,vr,R,qs,k1⟩ ⟨bd,⟨hR,hK,em,cd,ab,Z,ez⟩⟩
 refine xD ?_;refine gc7 (λci=>?_) λci=>?_
 ·
  refine go6 ?_;refine asg (v:=vU .u64 0) I I (go2 ?_);have ew:=jB (wM R) (K-1+n);have ev:=jB (wM R) (K-1+n-1);have de:=jB (wM R) (K-1+n-2);refine jR (ι:=Unit) (λ(_u:(Unit))=>True) (λ(_u:(Unit))=>[(1,ar),(4,H),(5,vr),(13,vI ↑s),(14,vI ↑n),(15,vI (↑K-1)),(16,vU .u64 ((zB R).getD (K-1+n) 0))]) (λ(_u:(Unit))=>[.us 124 .u32 H (fK K qs)]) (λ(_u:(Unit))=>k1) ?_ ?_
  ·
   refine zDP (λch=>?_) λch=>?_
   ·
    refine go5 ?_;refine gv (zW (K-1+n) underlying27 sizeOf124 I I hR oM oM) I (go4 ?_);refine zV (()) ?_ e7 I I
    trivial
   refine go1 ?_;refine zV (()) ?_ ⟨I,I,I,I,I,I,?_,y3e⟩ I I
   · trivial
   · exact y3u (zbi (vU .u64) (by rw[sU (xs:=zB R) oM]))
  rintro _u cg
  refine xD ?_;refine jR (ι:=Unit) (λ(_u:(Unit))=>True) (λ(_u:(Unit))=>[(1,ar),(4,H),(5,vr),(13,vI ↑s),(14,vI ↑n),(15,vI (↑K-1)),(16,vU .u64 ((zB R).getD (K-1+n) 0*4294967296+(zB R).getD (K-1+n-1) 0))]) (λ(_u:(Unit))=>[.us 124 .u32 H (fK K qs)]) (λ(_u:(Unit))=>k1) ?_ ?_
  ·
   refine zDO (λbk=>?_) λbk=>?_
   ·
    refine go2 ?_;refine gv (fU (k:=.u64) (s:=32) (yk:=.u64) (W:=18446744073709551616) I I I I) I (go5 ?_);refine gv (zW (K-1+n-1) underlying27 sizeOf124 I I hR oM oM) I (go2 ?_);refine gv (rU (k:=.u64) I I I (by simp only[ub];omega) (by simp only[ub];omega)) I ?_;rw[cH oM oM];refine go2 ?_;refine zV (()) ?_ e7 I I
    trivial
   refine go2 ?_;refine gv (fU (k:=.u64) (s:=32) (yk:=.u64) (W:=18446744073709551616) I I I I) I (go2 ?_);refine zV (()) ?_ ⟨I,I,I,I,I,I,?_,y3e⟩ I I
   · trivial
   · exact y3u (zbi (vU .u64) (by rw[sU (xs:=zB R) (i:=K-1+n-1) oM];omega))
  rintro _u cg
  refine xD ?_;have df:V<4294967296^n:=by rw[<-ad];exact uZ V
  have di:R<4294967296^(K+n):=zlu Z (by rw[zni];exact zre _ (yku df));have cp:∀i,K+n<=i->(zB R).getD i 0=0:=λi hi=>iE (by rw[zE];exact di) hi;obtain⟨wr,hW,ct⟩:=zIZ (j:=K-1) ca (λi hi=>cp i oM) (wM R);rw[kY (wM R),zE] at hW;have cm:=zYP (R:=R) (V:=V) (k:=K-1) (by rw[zzi oM];exact Z);obtain⟨top,ay⟩:∃t,t=(zB R).getD (K-1+n) 0*4294967296+(zB R).getD (K-1+n-1) 0:=⟨_,I⟩;rw[<-ay];rw[<-ay] at hW;have el:top<18446744073709551616:=by omega
  have ce:=zWA (by rw[hW] at cm ⊢;exact zYQ cn I de ct oM cm);have dr:0<(zB V).getD (n-1) 0:=by omega
  refine go6 ?_;replace D:=D.mono bd;refine gv (zW (n-1) underlying27 sizeOf124 I I D oM oM) I (go2 ?_);refine gv (bX (k:=.u64) (W:=18446744073709551616) I I I I oM oM) I (gv (zY8 (k:=.u64) (q:=4294967295) I I) I ?_);rw[Nat.min_def];rw[<-Nat.min_def];refine go7 ?_;refine gv (vT (k:=.u64) (k':=.u32) (W:=4294967296) underlying125 underlying124 I I I oM) I (cL (ev2 I I) call172 (λw hs=>zVA hs D oM oM) λdq h6 an bi=>?_);have ep:=yQ V (min (top/(zB V).getD (n-1) 0) 4294967295);have er:=gL (n:=min (top/(zB V).getD (n-1) 0) 4294967295) oM;refine go1 ?_;rw[show(↑K:Int)-1=↑(K-1) by omega];refine cL (ev2 I I) call171 (λw hs=>zEB hs bi oM oM) λbn h7 am bh=>(go5 ?_);refine gO (ι:=Value×Nat×Mem) (λ(vp,d,k2)=>MLe h7 k2/\(Us .u32 k2 vp (zB (V*d*4294967296^(K-1)))/\d<=4294967295/\R<V*(d+1)*4294967296^(K-1))) (λ(vp,d,k2)=>[(1,ar),(4,H),(5,vr),(13,vI ↑s),(14,vI ↑n),(15,vI ↑(K-1)),(17,vU .u64 d),(18,vp)]) (λ(vp,d,k2)=>[.us 124 .u32 H (fK K qs)]) (λ(vp,d,k2)=>k2) (λ(vp,d,k2)=>d) (bn,min (top/(zB V).getD (n-1) 0) 4294967295,h7) ?_ e8 I I ?_
  ·
   refine⟨MLe.refl _,?_⟩;exact⟨bh,Nat.min_le_right _ _,ce⟩
  rintro⟨vp,d,k2⟩ ⟨ac,⟨hp,es,da⟩⟩
  refine xD ?_;refine go5 ?_;replace hR:=hR.mono ((an.trans am).trans ac);refine cL (ev2 I I) call49 (λw hs=>oS hs hp hR) λdp h8 O bg=>?_;subst bg;refine gc3 (λaa=>?_) λaa=>?_
  ·
   have hgt:=zPB.1 aa;have cf:1<=d:=zii λh0=>by rw[h0,z8u,zwe] at hgt;omega
   obtain⟨dc,db⟩:=yED (V:=V) (p:=4294967296^(K-1)) cf;refine go6 ?_;refine gv (lJ (k:=.u64) (q:=1) (W:=18446744073709551616) I I I I oM oM) I (go7 ?_);replace D:=D.mono (((an.trans am).trans ac).trans O);refine cL (ev2 I I) call171 (λw hs=>zEB hs D oM oM) λdn h9 au bf=>?_;have eo:=zIM (V*d) (K-1);have dw:=yQ V d;have dv:=gL (n:=d) oM;replace hp:=hp.mono (O.trans au);refine cL (ev2 I I) call128 (λw hs=>zC1 hs hp bf db oM) λbm dk cb aj=>?_;rw[dc] at aj;refine go3 ?_;refine jZ (bm,d-1,dk) ?_ ?_ e8 I I
   ·
    refine⟨(((ac.trans O).trans au).trans cb),?_⟩;exact⟨aj,by omega,by rw[zzi cf];exact hgt⟩
   dsimp only;omega
  have ak:V*d*4294967296^(K-1)<=R:=yfi λhc=>aa (zPB.2 hc);refine uQ ?_;refine gv (vT (k:=.u64) (k':=.u32) (W:=4294967296) underlying125 underlying124 I I I oM) I (gv (xH (A:=[]) (K-1) underlying27 sizeOf124 I I oM (by rw[jK];omega)) I (wY sizeOf124 I I (by rw[jK];omega) (go5 ?_)));replace hR:=hR.mono O;replace hp:=hp.mono O;refine cL (ev2 I I) call128 (λw hs=>zC1 hs hR hp ak oM) λbl h9 au be=>(go9 ?_);refine jZ (K-1,bl,R-V*d*4294967296^(K-1),d::qs,h9) ?_ ?_ ⟨I,I,I,I,I,?_,y3e⟩ ?_ I
  ·
   refine⟨(((((bd.trans an).trans am).trans ac).trans O).trans au),?_⟩;have eK:(4294967296:Nat)^K=4294967296^(K-1)*4294967296:=by rw[<-zmi,Nat.succ_eq_add_one,zzi oM]
   rw[eK] at ab;have dx:=yL (yhu R (V*d*4294967296^(K-1)));exact⟨be,by omega,by simp only[lC];omega,rR.2 ⟨by omega,cd⟩,yEC ab ak,yNP da ak,by omega⟩
  ·
   dsimp only;omega
  · exact y3u (zbi vI oM)
  try dsimp only[List.nil_append,List.cons_append]
  rw[lT oM]
 refine go6 ?_;have dj:K=0:=by omega
 subst dj;rw[aE];rw[y1u,yni] at ab Z;refine go2 ?_;refine yU (by exact cd) ?_;intro h6 an hq;refine cL (ev1 I) call92 (λw hs=>tR hs hq oM) λdm h7 am J=>(go2 ?_);replace hR:=hR.mono (an.trans am);refine cL (ev2 I I) call173 (λw hs=>zYN hs hR oM oM) λdl h8 O ai=>(go6 ?_);refine qJ I I I I ?_;replace J:=J.mono O;obtain⟨e1,e2⟩:=zT3 (X:=X) (Y:=Y) (s:=s) (u:=R) (q:=val qs) oM (by rw[<-hV,<-hU];exact ab) (by rw[<-hV];exact Z);rw[e1] at J;rw[e2] at ai;rw[zae C,zae C];exact⟨_,_,I,J,ai⟩
theorem yEF{v v':Value}{A B:Nat}(hv:Us .u32 h0 v (zB A))(hv':Us .u32 h0 v' (zB B))(hl:(zB A).length<=549755813888)(hl':(zB B).length<=549755813888):
 Calls prog 126 #[v,v'] w0 (Ret w0 h0 (λh r=>Us .u32 h r (zB (Nat.gcd A B)))):=by
 obtain⟨G,hG⟩:∃G,G=Nat.gcd A B:=⟨_,I⟩;rw[<-hG];refine cb2 51 v v' func126 hs ?_;refine go8 ?_;refine cL (ev1 I) call92 (λw hs=>tR hs hv oM) λaj h1 au U=>?_;rw[zE] at U;refine go1 ?_;replace hv':=hv'.mono au;refine cL (ev1 I) call92 (λw hs=>tR hs hv' oM) λai h2 bf O=>?_;rw[zE] at O;refine go6 ?_;refine gcL (ι:=Value×Nat×Value×Nat×Mem) (λ(vx,X,vy,Y,k1)=>(MLe h2 k1/\(Us .u32 k1 vx (zB X)/\Us .u32 k1 vy (zB Y)/\Nat.gcd X Y=G/\(zB X).length<=549755813888/\(zB Y).length<=549755813888),[(0,vx),(1,vy)],[],k1,Y)) (aj,A,ai,B,h2) ?_ ?_
 · exact⟨mle,U.up,O,hG.symm,by omega,by omega⟩
 rintro⟨vx,X,vy,Y,k1⟩ ⟨aw,⟨ha,hb,M,be,aq⟩⟩
 refine xD ?_;refine gc8 (λah=>?_) λah=>?_
 ·
  have J:Y≠0:=yR.1 oM;refine go6 ?_;refine cL (ev1 I) call167 (λw hs=>y6 hs ha) λba h3 ae ac=>?_;subst ac;refine uQ ?_;replace hb:=hb.mono ae;refine cL (ev1 I) call167 (λw hs=>y6 hs hb) λaz h4 ad ab=>?_;subst ab;refine qK ?_;refine gU 3 32 (vB (((zB X).length<=2)/\((zB Y).length<=2))) ?_ ?_
  ·
   refine zY ((zB X).length<=2) (λM=>?_) (λM=>?_)
   ·
    refine gT M I (go4 ?_);refine gqU ?_;exact y3u (xL M)
   refine gF M I (go3 ?_);refine gqU ?_;exact y3u (xM M)
  refine gc2 (λC=>?_) λC=>?_
  ·
   rw[zau C.1,zau C.2];have an:=nR C.1;have am:=nR C.2;refine go2 ?_;refine gcL (ι:=Nat×Nat) (λ(m,n)=>(Nat.gcd m n=G/\m<18446744073709551616/\n<18446744073709551616,[(5,vU .u64 m),(7,vU .u64 n)],[],h4,n)) (X,Y) ?_ ?_
   · exact⟨M,an,am⟩
   rintro⟨m,n⟩ ⟨Z,hm,hn⟩
   refine xD ?_;refine go4 ?_;refine gv (tS (k:=.u64) (q:=0) I I) I (gc2 (λH=>?_) λH=>?_)
   ·
    refine go3 ?_;refine zL 6 _ [] (zai 0 6 []) yF nX zou nX (λr hr=>hr) (go3 ?_);refine xY I (λ_ _=>bW (k:=.u64) I I oM) I (go4 ?_);refine gqL (n,m%n) ?_ ?_
    ·
     have bc:=zcu m (zii H);exact⟨by rw[mZ];exact Z,hn,by omega⟩
    exact zcu _ (zii H)
   refine go8 ?_;refine cL (ev1 I) call96 (λw hs=>zAB hs oM) λay h5 ar aa=>(go9 ?_);refine zC I I ?_;have ap:n=0:=zdi H;rw[ap,yhe] at Z;rw[<-Z];exact aa
  refine go6 ?_;replace ha:=ha.mono (ae.trans ad);replace hb:=hb.mono ad;refine cL (ev2 I I) call127 (λw hs=>zKV hs ha hb oM oM) λax h5 ar D=>?_;obtain⟨bb,ak,rfl,av,D⟩:=D;rw[zae J] at D;have bd:=yL (yku (zcu X (zii J)));refine zAQ ?_;refine gqL (vy,Y,ak,X%Y,h5) ?_ ?_
  · exact⟨mle,hb.up,D,by rw[mZ];exact M,aq,by omega⟩
  exact zcu _ (zii J)
 have J:Y=0:=zdu λao=>by have:=yR.2 ao;omega
 refine uY ?_;refine zC I I ?_;rw[J,yhe] at M;rw[<-M];exact ha
theorem zSV:
 Calls prog 157 #[] w0 (Ret w0 h0 (λh r=>Us .u32 h r [1])):=by
 refine cb0 2 func157 hs ?_;refine go7 ?_;refine zH (pG (kd:=.u32) (p:=1) underlying27 uP I I I) I I I ?_;intro v1 r1 C;obtain rfl:=C;refine yU (by intro z hz;simp only[zte] at hz;subst hz;decide) ?_;intro h1 D h1;refine go4 ?_;refine zC I I ?_;exact h1
theorem tZ{sa:Bool}{vna vda:Value}{na da:List Nat}(hna:Us .u32 h0 vna na)(hda:Us .u32 h0 vda da):
 Calls prog 166 #[.agg #[.bool sa,vna,vda]] w0 (Ret w0 h0 (λh r=>Us .u32 h r (if da=[] then[1] else da))):=by
 refine cb1 10 (.agg #[.bool sa,vna,vda]) func166 hs ?_;refine go2 ?_;refine zH (vH (cs:=[_,_,_]) I I) I I I ?_;intro v1 r1 H;obtain⟨U,rfl,rfl⟩:=H;refine zL7 (λD=>?_) λD=>?_
 ·
  refine go2 ?_;refine cL (vs:=[]) trivial call157 (λw hs=>zSV hs) λO h1 M C=>?_;rw[y8] at C;have J:=zLS;refine go5 ?_;refine zC I I ?_;rw[zau (zof oM),y8];exact C
 refine uQ ?_;refine zC I I ?_;rw[zae (λh=>D (by rw[h];rfl))];exact hda
theorem zBF{v:Value}{xs:List Nat}(hv:Us .u32 h0 v xs)(hl:xs.length<=2):
 Calls prog 188 #[v] w0 (Ret w0 h0 (λ_ r=>r=vU .u64 (val xs))):=by
 have hf:Fit xs:=hv.lt;refine cb1 21 v func188 hs ?_;refine go2 ?_;refine asg (v:=vU .u64 0) I I (go4 ?_);refine asg (v:=vU .u64 0) I I (uY ?_);have D:val (xs.drop xs.length)=0:=by rw[zmu (zbe _)];rfl
 refine gO (ι:=Nat) (λ(j:(Nat))=>j<=xs.length) (λ(j:(Nat))=>[(0,v),(3,vU .u64 (val (xs.drop j))),(4,vI (↑j-1))]) (λ(j:(Nat))=>[]) (λ(j:(Nat))=>h0) (λ(j:(Nat))=>j) xs.length ?_ ⟨?_,?_,?_,y3e⟩ I I ?_
 · exact zbe _
 · exact I
 · exact y3u (zbi (vU .u64) D.symm)
 · exact I
 rintro j J
 refine xD ?_;refine gc7 (λH=>?_) λH=>?_
 ·
  refine go6 ?_;refine gv (fU (k:=.u64) (s:=32) (yk:=.u64) (W:=18446744073709551616) I I I I) I (go2 ?_);refine gv (zW (j-1) underlying27 sizeOf124 I I hv oM oM) I (go1 ?_);have C:=hv.get32 (j-1);refine go1 ?_;refine gv (rU (k:=.u64) I I I (by simp only[ub];omega) (by simp only[ub];omega)) I ?_;rw[cH (by
   have h2:=gE (dQ hf j);rw[ziu] at h2;have h3:(4294967296:Nat)^(xs.length-j)<=4294967296^1:=zji oM oM;omega) C]
  refine go9 ?_;refine jZ (j-1) ?_ ?_ ⟨I,?_,?_,y3e⟩ I I
  · omega
  · omega
  ·
   rw[kM xs (j-1) oM];exact y3u (zbi (vU .u64) (by rw[show j-1+1=j by omega];omega))
  · exact y3u (zbi vI oM)
 refine uY ?_;refine zC I I ?_;rw[show j=0 by omega];rfl
theorem zNI{m n:Nat}(hm0:m<18446744073709551616)(hn0:n<18446744073709551616):
 Calls prog 198 #[vU .u64 m,vU .u64 n] w0 (Ret w0 h0 (λ_ r=>r=vU .u64 (Nat.gcd m n))):=by
 refine cb2 12 (vU .u64 m) (vU .u64 n) func198 hs ?_;refine go2 ?_;refine asg (v:=vU .u64 0) I I (go4 ?_);refine gcL (ι:=Nat×Nat) (λ(x,y)=>(Nat.gcd x y=Nat.gcd m n/\x<18446744073709551616/\y<18446744073709551616,[(0,vU .u64 x),(1,vU .u64 y)],[],h0,y)) (m,n) ?_ ?_
 · exact⟨I,hm0,hn0⟩
 rintro⟨x,y⟩ ⟨D,U,M⟩
 refine xD ?_;refine go4 ?_;refine gv (tS (k:=.u64) (q:=0) I I) I (gc2 (λC=>?_) λC=>?_)
 ·
  refine go3 ?_;refine zL 6 _ [] (zai 0 6 []) yF nX zou nX (λr J=>J) (go3 ?_);refine xY I (λ_ _=>bW (k:=.u64) I I oM) I (go4 ?_);refine gqL (y,x%y) ?_ ?_
  ·
   have O:=zcu x (zii C);exact⟨by rw[mZ];exact D,M,by omega⟩
  exact zcu _ (zii C)
 refine uY ?_;refine zC I I ?_;have H:y=0:=zdi C;rw[H,yhe] at D;rw[D]
theorem zYS{n:Int}(hn:-9223372036854775808<=n)(hn':n<9223372036854775808):
 Calls prog 156 #[vI n] w0 (Ret w0 h0 (λh r=>Us .u32 h r (zB n.natAbs))):=by
 refine cb1 12 (vI n) func156 hs ?_;refine zL7 (λM=>?_) λM=>?_
 ·
  have H:n.natAbs=9223372036854775808:=by omega
  refine go2 ?_;refine cL (vs:=[vU .u64 9223372036854775808]) ⟨I,y3e⟩ call192 (λw hs=>nat_of hs oM) λU h1 J D=>(go5 ?_);refine zC I I ?_;rw[H];exact D
 refine go6 ?_;refine gv (lK I oM oM) I (gv (zNN I I) I (gv (zAE (p:=n.natAbs) (k':=.u64) (W:=18446744073709551616) underlying2 underlying125 I I (y3u (zbi vI oM)) oM) I (cL (ev1 I) call192 (λw hs=>nat_of hs oM) λO h1 J C=>(go4 ?_))));refine zC I I ?_;exact C
end
theorem zJA{w0 w:World}{h0 h:Mem}{v u:Value}{xs:List Nat}{L:List Res}{lo n:Nat}(hu:u=tB 1 v lo xs.length)(hlo:lo+2<=xs.length)(hn0:n≠0)(hn:n<18446744073709551616)(hs:St w0 h0 (.us 124 .u32 v xs::L) h w):
 Calls prog 199 #[u,vU .u64 n] w (tO w0 h0 (λg r K=>g=h/\K=.us 124 .u32 v (xs.take lo++zB n++xs.drop (lo+(zB n).length))::L/\r=vI ↑(zB n).length)):=by
 refine qM (n:=17) (e:=[(0,u),(1,vU .u64 n)]) (vs:=[u,vU .u64 n]) func199 rfl rfl (bL rfl) hs e2z (uQ ?_);refine gv (j7 (q:=0) mh0 hu (0) underlying27 sizeOf124 I I I oM) I (wY sizeOf124 I I oM (go7 ?_));refine gv (fV (k:=.u64) (q:=0) I I) I (gc2 (λD=>?_) λD=>?_)
 ·
  refine go7 ?_;refine qP I I ?_;have C:n<4294967296:=by omega
  refine⟨I,?_,by rw[gR hn0 C];rfl⟩;rw[zoh C,zke,putL oM hn0 C]
 refine go8 ?_;refine gv (j7 (q:=1) mh0 (by rw[lS];exact hu) (1) underlying27 sizeOf124 I I I (by rw[lS];omega)) I (wY sizeOf124 I I (by simp;omega) (go8 ?_));refine qP I I ?_;have C:4294967296<=n:=by omega
 have H:n/2^32%4294967296=n/4294967296:=by omega
 refine⟨I,?_,?_⟩
 · rw[H,zke,yNQ hlo hn C]
 · rw[gD oM,gR (t:=n/4294967296) oM oM];rfl
section
variable{w0:World}{h0:Mem}(hs:MLe h0 (mem w0))
include hs
theorem aT{s:Prop}{n d:Nat}(hn:n<18446744073709551616)(hd:d<18446744073709551616)(hd0:d≠0):
 Calls prog 164 #[vB s,vU .u64 n,vU .u64 d] w0 (Ret w0 h0 (λh r=>vQ h r (mkRat (sg s n) d))):=by
 refine cb3 50 (vB s) (vU .u64 n) (vU .u64 d) func164 hs ?_;refine go2 ?_;refine zH (uJ (cs:=[vB ((0:Rat).num<0),.slice none 0 0,.slice none 0 0]) wD I (by simp only[zb];rfl)) I I I ?_;intro v6 r6 aj;obtain⟨b6,rfl,rfl⟩:=aj;refine go6 ?_;refine gv (fV (k:=.u64) (q:=0) I I) I (gc2 (λO=>?_) λO=>?_)
 ·
  refine go2 ?_;refine gv (wJ (ps':=[]) (vs:=[vB ((0:Rat).num<0),.slice none 0 0,.slice none 0 0]) underlying29 wD I (qH underlying29) trivial (by simp only[zb];exact kA)) I (wR (A:=[]) (r':=.var b6 29 [vB ((0:Rat).num<0),.slice none 0 0,.slice none 0 0]) (zO (k:=0) (cs:=[_,_,_]) (vs:=[_,_,_]) I I I I yG (bL I)) I I I (go4 ?_));refine xC (λE S=>yB I (wV (cs:=[_,_,_]) mh0 underlying29 I yG I) E S) ?_;rw[O,zBU];exact vQ.zero _
 have ac:n≠0:=by omega
 refine go6 ?_;refine cL (ev2 I I) call198 (λw hs=>zNI hs oM oM) λaz h1 bf aa=>?_;subst aa;refine go1 ?_;have ae:0<Nat.gcd n d:=ygu d oM;have ak:n/Nat.gcd n d≠0:=ype (Nat.div_pos (yzi oM (ysi n d)) ae);have ap:d/Nat.gcd n d≠0:=ype (Nat.div_pos (yzi oM (Nat.gcd_dvd_right n d)) ae);have bc:=zse n (Nat.gcd n d);have bg:=zse d (Nat.gcd n d);refine go3 ?_;refine zL 8 _ [] (zai 0 8 []) yF nX zou nX (λr hr=>hr) (go2 ?_);refine xY I (λ_ _=>bX (k:=.u64) (W:=18446744073709551616) I I I I oM oM) I (go2 ?_);refine xY I (λ_ _=>bX (k:=.u64) (W:=18446744073709551616) I I I I oM oM) I (go2 ?_);generalize hA:n/Nat.gcd n d=A at *;generalize hB:d/Nat.gcd n d=B at *;have be:=gL (n:=A) oM;have bd:=gL (n:=B) oM;refine go4 ?_;refine jE (kd:=.u32) (by':=4) (q:=4) (q':=4) 4 underlying27 uP I I I I I I I oM oM I ?_;intro D;refine go7 ?_;refine nY (vs:=[_,_]) I I I I call199 e2z (λw hs=>zJA (hs.own_self (.head _)) dC ak oM hs) ?_;intro ay ar av J;obtain⟨e1,e2,J⟩:=J;rw[e1,e2]
 clear e1 e2 ar av
 subst J;rw[show List.take 0 (List.replicate 4 0)++zB A++List.drop (0+(zB A).length) (List.replicate 4 0)=zB A++List.replicate (4-(zB A).length) 0 from by rw[List.take_zero,zhe,zyi,List.drop_replicate]];have an:(zB A++List.replicate (4-(zB A).length) 0).length=4:=by simp;omega
 refine go9 ?_;refine yBG (.head _) (λad bh Z aw=>?_);have M:gQ 1 D 0 (zB A).length (zB A).length=.slice (if(zB A).length=0 then ad else ad.map (·.add (0*1))) ((zB A).length-0) ((zB A).length-0):=by rw[Z];rfl
 refine gv (zGA mh0 _ _ underlying27 sizeOf124 I I I I I oM oM) I (gv (wJ (ps':=[(0,_),(1,_)]) (vs:=[vB s,gQ 1 D 0 _ _,.slice none 0 0]) underlying29 wD I (qH underlying29) e4z (vO (A:=[]) (B:=[_]) (C:=[_,_]) (cs:=[_]) (off:=0) (size:=1) I I I I I (vO (A:=[_]) (B:=[_]) (C:=[_]) (cs:=[_]) (off:=1) (size:=1) I I I I (by rw[M];rfl) kA))) I (zH (uJ (cs:=[vB ((0:Rat).num<0),.slice none 0 0,.slice none 0 0]) wD I (by simp only[zb];rfl)) I I I ?_));intro ba bb ab;obtain⟨ai,rfl,rfl⟩:=ab;refine wR (A:=[]) (r':=.var ai 29 [vB s,gQ 1 D 0 _ _,.slice none 0 0]) (zO (k:=0) (cs:=[_,_,_]) (vs:=[vB s,gQ 1 D 0 _ _,.slice none 0 0]) I I I (by rw[M];rfl) yG (bL I)) I I I (go6 ?_);refine gv (mU (k:=.u64) (q:=1) I I) I (gc2 (λah=>?_) λah=>?_)
 ·
  refine go5 ?_;refine gv (zF9 mh1 _ underlying27 sizeOf124 I I I oM) I (go1 ?_);refine dO (A:=[_]) ?_;refine nY (vs:=[_,_]) I I I I call199 e2z (λw hs=>zJA (lo:=(zB A).length) zo3 oM ap oM hs) ?_;intro ax aq au H;obtain⟨e1,e2,H⟩:=H;rw[e1,e2]
  clear e1 e2 aq au
  subst H;rw[show List.take (zB A).length (zB A++List.replicate (4-(zB A).length) 0)++zB B++List.drop ((zB A).length+(zB B).length) (zB A++List.replicate (4-(zB A).length) 0)=zB A++zB B++List.replicate (4-(zB A).length-(zB B).length) 0 from by simp];have am:(zB A++zB B++List.replicate (4-(zB A).length-(zB B).length) 0).length=4:=by simp;omega
  refine go9 ?_;have U:gQ 1 D (zB A).length ((zB A).length+(zB B).length) ((zB A).length+(zB B).length)=.slice (if(zB A).length+(zB B).length=(zB A).length then ad else ad.map (·.add ((zB A).length*1))) ((zB A).length+(zB B).length-(zB A).length) ((zB A).length+(zB B).length-(zB A).length):=by rw[Z];rfl
  refine gv (zIG mh0 ((zB A).length) ((zB A).length+(zB B).length) ((zB A).length+(zB B).length) underlying27 sizeOf124 I I I I oM oM oM oM oM oM) I (go1 ?_);refine wR (A:=[_]) (r':=.var ai 29 [vB s,gQ 1 D 0 _ _,gQ 1 D ((zB A).length) ((zB A).length+(zB B).length) ((zB A).length+(zB B).length)]) (zO (k:=2) (cs:=[_,_,_]) (vs:=[gQ 1 D ((zB A).length) ((zB A).length+(zB B).length) ((zB A).length+(zB B).length)]) I I (by rw[U];rfl) (by rw[U];rfl) zX1 (bL I)) I I I (go4 ?_);refine yU (by first|exact uR (uR (wM A) (wM B)) (kK _)|exact uR (wM A) (kK _)) ?_;intro h2 ao hz;refine go1 ?_;refine wR (A:=[_]) (r':=.var b6 29 [vB s,gQ 1 D 0 _ _,gQ 1 D ((zB A).length) ((zB A).length+(zB B).length) ((zB A).length+(zB B).length)]) (zO (k:=0) (cs:=[_,_,_]) (vs:=[vB s,gQ 1 D 0 _ _,gQ 1 D ((zB A).length) ((zB A).length+(zB B).length) ((zB A).length+(zB B).length)]) I I I (by rw[M,U];rfl) yG (bL I)) I I I (go3 ?_);refine xC (λE S=>yB I (wV (cs:=[_,_,_]) mh1 underlying29 I yG I) E S) ?_;have z1:=hz.sub3 (lo:=0) (hi:=(zB A).length) (mx:=(zB A).length) oM oM oM;have z2:=hz.sub3 (lo:=(zB A).length) (hi:=(zB A).length+(zB B).length) (mx:=(zB A).length+(zB B).length) oM oM oM;refine vQ.make ac hd0 ?_ ?_
  · rw[hA];simpa using z1
  · rw[hB];rw[mA oM];simpa using z2
 refine go4 ?_;refine zIQ (by first|exact uR (uR (wM A) (wM B)) (kK _)|exact uR (wM A) (kK _)) ?_;intro h2 ao hz;refine go1 ?_;refine wR (A:=[_]) (r':=.var b6 29 [vB s,gQ 1 D 0 _ _,.slice none 0 0]) (zO (k:=0) (cs:=[_,_,_]) (vs:=[vB s,gQ 1 D 0 _ _,.slice none 0 0]) I I I (by rw[M];rfl) yG (bL I)) I I I (go3 ?_);refine xC (λE S=>yB I (wV (cs:=[_,_,_]) mh1 underlying29 I yG I) E S) ?_;have z1:=hz.sub3 (lo:=0) (hi:=(zB A).length) (mx:=(zB A).length) oM oM oM;refine vQ.make ac hd0 ?_ ?_
 · rw[hA];simpa using z1
 · rw[hB];rw[show B=1 by omega,aF,xO];exact Us.nil _ _
theorem pR{qa:Rat}{vna vda:Value}(hna:Us .u32 h0 vna (zB qa.num.natAbs))(hda:Us .u32 h0 vda (zB (wW qa.den))):
 Calls prog 163 #[.agg #[vB (qa.num<0),vna,vda]] w0 (Ret w0 h0 (λ_ r=>r=.tuple #[vU .u64 (pN qa),vU .u64 (pD qa),vB (sH qa)])):=by
 refine cb1 30 (.agg #[vB (qa.num<0),vna,vda]) func163 hs ?_;refine go2 ?_;refine zH (vH (cs:=[_,_,_]) I I) I I I ?_;intro v1 r1 aa;obtain⟨b1,rfl,rfl⟩:=aa;refine asg (v:=vU .u64 0) I I (asg (v:=vU .u64 0) I I (uQ ?_));refine gU 6 14 (vB (((1:Int)<(↑(zB qa.num.natAbs).length:Int))\/((1:Int)<(↑(zB (wW qa.den)).length:Int)))) ?_ ?_
 ·
  refine zY ((1:Int)<(↑(zB qa.num.natAbs).length:Int)) (λU=>?_) (λU=>?_)
  ·
   refine gT U I (go6 ?_);refine gqU ?_;exact y3u (vV U)
  refine gF U I (uQ ?_);refine gqU ?_;exact y3u (vW U)
 refine gc2 (λJ=>?_) λJ=>?_
 ·
  have M:¬sH qa:=zPZ J;refine go2 ?_;refine asg (v:=vU .u64 0) I I (asg (v:=vU .u64 0) I I (go5 ?_));refine qJ I I I I ?_;rw[pN_f M,pD_f M,yN M]
 have C:sH qa:=zUX J;have ac:=tE C;have ad:=tF C;refine go4 ?_;refine asg (v:=vU .u64 1) I I (zDO (λH=>?_) λH=>?_)
 ·
  have O:(zB (wW qa.den)).getD 0 0=qa.den:=yB3 H;refine go3 ?_;refine gv (zW (q:=0) (0) underlying27 sizeOf124 I I hda I oM) I (go1 ?_);rw[O];refine go8 ?_;refine cL (ev1 I) call188 (λw hs=>zBF hs hna oM) λZ h1 ab D=>?_
  try simp only[zE] at D
  subst D;refine go2 ?_;refine gv (OpV.tr (by have:=qa.den_nz;omega) (tS (k:=.u64) (q:=0) I I)) I (go6 ?_);refine qJ I I I I ?_;rw[zIE C,zIF C,wA C]
 have O:qa.den=1:=yB4 H C;refine go6 ?_;refine cL (ev1 I) call188 (λw hs=>zBF hs hna oM) λZ h1 ab D=>?_
 try simp only[zE] at D
 subst D;refine go2 ?_;refine gv (OpV.tr (by have:=qa.den_nz;omega) (tS (k:=.u64) (q:=0) I I)) I (go6 ?_);refine qJ I I I I ?_;rw[zIE C,zIF C,wA C,O]
theorem gH{s:Prop}{vn vd:Value}{xs ys:List Nat}(hn:Us .u32 h0 vn xs)(hd:Us .u32 h0 vd ys)(hl:xs.length<=1000000000000)(hl':ys.length<=1000000000000):
 Calls prog 155 #[vB s,vn,vd] w0 (Ret w0 h0 (λh r=>vQ h r (mkRat (sg s (val xs)) (val ys)))):=by
 have ck:=mI (n:=val xs);have cj:=mI (n:=val ys);have ce:=qA hn.lt;have cd:=qA hd.lt;refine cb3 68 (vB s) vn vd func155 hs ?_;refine go2 ?_;refine zH (uJ (cs:=[vB ((0:Rat).num<0),.slice none 0 0,.slice none 0 0]) wD I (by simp only[zb];rfl)) I I I ?_;intro v6 r6 bk;obtain⟨b6,rfl,rfl⟩:=bk;refine go6 ?_;refine cL (ev1 I) call162 (λw hs=>zBT hs hn oM) λv9 h1 an be=>?_
 try simp only[zE] at be
 subst be;refine go1 ?_;refine qE (ι:=Mem) 5 (λm_=>MLe h1 m_) (λ_=>[(15,vB (((↑(uS (val (xs))):Int)=(0:Int))\/((↑(uS (val (ys))):Int)=(0:Int)))),(0,vB s),(1,vn),(2,vd),(6,vP b6 0)]) (λ_=>[.var b6 29 [vB ((0:Rat).num<0),.slice none 0 0,.slice none 0 0]]) (λm_=>m_) ?_ ?_
 ·
  refine zY ((↑(uS (val (xs))):Int)=(0:Int)) (λO=>?_) (λO=>?_)
  ·
   refine gT O I (go5 ?_);refine zV h1 (MLe.refl _) ⟨?_,I,I,I,I,y3e⟩ I I;exact y3u (vV O)
  refine gF O I (go3 ?_);replace hd:=hd.mono an;refine cL (ev1 I) call162 (λw hs=>zBT hs hd oM) λbw h2 aa ax=>?_
  try simp only[zE] at ax
  subst ax;refine go4 ?_;refine zV h2 aa ⟨?_,I,I,I,I,y3e⟩ I I;exact y3u (vW O)
 intro bj J;refine sN ?_;refine gc2 (λad=>?_) λad=>?_
 ·
  refine go2 ?_;refine gv (wJ (ps':=[]) (vs:=[vB ((0:Rat).num<0),.slice none 0 0,.slice none 0 0]) underlying29 wD I (qH underlying29) trivial (by simp only[zb];exact kA)) I (wR (A:=[]) (r':=.var b6 29 [vB ((0:Rat).num<0),.slice none 0 0,.slice none 0 0]) (zO (k:=0) (cs:=[_,_,_]) (vs:=[_,_,_]) I I I I yG (bL I)) I I I (go4 ?_));refine xC (λE S=>yB I (wV (cs:=[_,_,_]) mh0 underlying29 I yG I) E S) ?_
  rcases ad with h|h
  · rw[show val xs=0 by omega,zBU];exact vQ.zero _
  · rw[show val ys=0 by omega,zGY];exact vQ.zero _
 have ap:val xs≠0:=λh=>ad (.inl oM);have ar:val ys≠0:=λh=>ad (.inr oM);replace hn:=hn.mono (an.trans J);refine go8 ?_;refine gU 5 24 (vB (((↑(xs).length:Int)<=(2:Int))/\((↑(ys).length:Int)<=(2:Int)))) ?_ ?_
 ·
  refine zY ((↑(xs).length:Int)<=(2:Int)) (λO=>?_) (λO=>?_)
  ·
   refine gT O I ?_;replace hd:=hd.mono (an.trans J);refine go8 ?_;refine gqU ?_;exact y3u (xL O)
  refine gF O I (go5 ?_);refine gqU ?_;exact y3u (xM O)
 refine gc2 (λbi=>?_) λbi=>?_
 ·
  have cc:=nR (n:=val xs) oM;have ci:=nR (n:=val ys) oM;refine go4 ?_;refine cL (ev1 I) call188 (λw hs=>zBF hs hn oM) λbv h2 aa aw=>?_
  try simp only[zE] at aw
  subst aw;refine go1 ?_;replace hd:=hd.mono ((an.trans J).trans aa);refine cL (ev1 I) call188 (λw hs=>zBF hs hd oM) λbu h3 ae av=>?_
  try simp only[zE] at av
  subst av;refine cL (ev3 I I I) call164 (λw hs=>aT hs oM oM oM) λbt h4 am bf=>?_;obtain⟨bc,bd,rfl,ay,az⟩:=bf;refine wR (A:=[]) (r':=.var b6 29 [vB ((mkRat (sg (s) (val (xs))) (val (ys))).num<0),bc,bd]) (zO (k:=0) (cs:=[_,_,_]) (vs:=[_,_,_]) I I I (ocr I (ocu ay (ocu az oc0))) yG (bL I)) I I I (go4 ?_);refine xC (λE S=>yB I (wV (cs:=[_,_,_]) mh0 underlying29 I yG I) E S) ?_;exact⟨_,_,I,ay,az⟩
 refine go7 ?_;replace hd:=hd.mono (an.trans J);refine cL (ev2 I I) call189 (λw hs=>yE2 hs hn hd oM oM) λbs h2 aa M=>?_
 try simp only[zE] at M
 have bn:=t6 (val (xs)) (val (ys));have bh:Nat.gcd (val xs) (val ys)≠0:=ype (ygu _ oM);have ch:=yL (yzi oM (ysi (val xs) (val ys)));refine go6 ?_;refine cL (ev1 I) call162 (λw hs=>zBT hs M oM) λbr h3 ae au=>?_
 try simp only[zE] at au
 subst au;refine gc3 (λao=>?_) λao=>?_
 ·
  refine go4 ?_;replace hn:=hn.mono (aa.trans ae);replace M:=M.mono ae;refine cL (ev2 I I) call190 (λw hs=>zE5 hs hn M oM oM) λbq h4 am ak=>?_;obtain⟨cb,bz,rfl,ac,ak⟩:=ak
  try simp only[zE] at ac ak ⊢
  have bm:=yL (zse (val (xs)) (((Nat.gcd (val (xs)) (val (ys))))));have cg:=yL (zse (val xs) (Nat.gcd (val xs) (val ys)));refine uQ ?_;replace hd:=hd.mono ((aa.trans ae).trans am);replace M:=M.mono am;refine cL (ev2 I I) call190 (λw hs=>zE5 hs hd M oM oM) λbp h5 aq aj=>?_;obtain⟨ca,bx,rfl,ab,aj⟩:=aj
  try simp only[zE] at ab aj ⊢
  have bl:=yL (zse (val (ys)) (((Nat.gcd (val (xs)) (val (ys))))));have cf:=yL (zse (val ys) (Nat.gcd (val xs) (val ys)));refine uQ ?_;replace ac:=ac.mono aq;refine cL (ev2 I I) call191 (λw hs=>y9 hs ac (Us.nil _ _) zo5 zo5) λZ h6 bo D=>?_
  try simp only[zE] at D
  have bb:=gA ((((val (xs))/(((Nat.gcd (val (xs)) (val (ys)))))))) (val ([]));refine go1 ?_;replace ab:=ab.mono bo;refine cL (ev2 I I) call191 (λw hs=>y9 hs ab (Us.nil _ _) zo5 zo5) λai h7 bg H=>?_
  try simp only[zE] at H
  have ba:=gA ((((val (ys))/(((Nat.gcd (val (xs)) (val (ys)))))))) (val ([]));refine uQ ?_;refine gU 6 63 (vB (((↑(zB (((((val (ys))/(((Nat.gcd (val (xs)) (val (ys))))))))+(val ([])))).length:Int)=(1:Int))/\(((zB (((((val (ys))/(((Nat.gcd (val (xs)) (val (ys))))))))+(val ([])))).getD (0) 0)=(1:Nat)))) ?_ ?_
  ·
   refine zY ((↑(zB (((((val (ys))/(((Nat.gcd (val (xs)) (val (ys))))))))+(val ([])))).length:Int)=(1:Int)) (λO=>?_) (λO=>?_)
   ·
    refine gT O I (go3 ?_);refine gv (zW (q:=0) (0) underlying27 sizeOf124 I I H I oM) I (go3 ?_);refine gv (fV (k:=.u32) (q:=1) I I) I (go2 ?_);refine gqU ?_;exact y3u (xL O)
   refine gF O I (go6 ?_);refine gqU ?_;exact y3u (xM O)
  refine gc2 (λU=>?_) λU=>?_
  ·
   refine go9 ?_;replace D:=D.mono bg;refine gv (wJ (ps':=[(0,_),(1,_),(2,_)]) (vs:=[vB s,Z,.slice none 0 0]) underlying29 wD I (qH underlying29) e6z (vO (A:=[]) (B:=[_]) (C:=[_,_]) (cs:=[_]) (off:=0) (size:=1) I I I I I (vO (A:=[_]) (B:=[_]) (C:=[_]) (cs:=[_]) (off:=1) (size:=1) I I I I D.cells (vO (A:=[_,_]) (B:=[_]) (C:=[]) (cs:=[_]) (off:=2) (size:=1) I I I I I kA)))) I (wR (A:=[]) (r':=.var b6 29 [vB s,Z,.slice none 0 0]) (zO (k:=0) (cs:=[_,_,_]) (vs:=[_,_,_]) I I I (ocr I (ocu D (ocr I oc0))) yG (bL I)) I I I (go3 ?_));refine xC (λE S=>yB I (wV (cs:=[_,_,_]) mh0 underlying29 I yG I) E S) ?_;exact vQ.fin1 ap ar D U
  refine go7 ?_;replace D:=D.mono bg;refine gv (wJ (ps':=[(0,_),(1,_),(2,_)]) (vs:=[vB s,Z,ai]) underlying29 wD I (qH underlying29) e6z (vO (A:=[]) (B:=[_]) (C:=[_,_]) (cs:=[_]) (off:=0) (size:=1) I I I I I (vO (A:=[_]) (B:=[_]) (C:=[_]) (cs:=[_]) (off:=1) (size:=1) I I I I D.cells (vO (A:=[_,_]) (B:=[_]) (C:=[]) (cs:=[_]) (off:=2) (size:=1) I I I I H.cells kA)))) I (wR (A:=[]) (r':=.var b6 29 [vB s,Z,ai]) (zO (k:=0) (cs:=[_,_,_]) (vs:=[_,_,_]) I I I (ocr I (ocu D (ocu H oc0))) yG (bL I)) I I I (go3 ?_));refine xC (λE S=>yB I (wV (cs:=[_,_,_]) mh0 underlying29 I yG I) E S) ?_;exact vQ.fin ap ar D H U
 refine go5 ?_;replace hn:=hn.mono (aa.trans ae);refine cL (ev2 I I) call191 (λw hs=>y9 hs hn (Us.nil _ _) zo5 zo5) λZ h4 am D=>?_
 try simp only[zE] at D
 have bb:=gA (val (xs)) (val ([]));refine go1 ?_;replace hd:=hd.mono ((aa.trans ae).trans am);refine cL (ev2 I I) call191 (λw hs=>y9 hs hd (Us.nil _ _) zo5 zo5) λai h5 aq H=>?_
 try simp only[zE] at H
 have ba:=gA (val (ys)) (val ([]));refine uQ ?_;refine gU 6 63 (vB (((↑(zB ((val (ys))+(val ([])))).length:Int)=(1:Int))/\(((zB ((val (ys))+(val ([])))).getD (0) 0)=(1:Nat)))) ?_ ?_
 ·
  refine zY ((↑(zB ((val (ys))+(val ([])))).length:Int)=(1:Int)) (λO=>?_) (λO=>?_)
  ·
   refine gT O I (go3 ?_);refine gv (zW (q:=0) (0) underlying27 sizeOf124 I I H I oM) I (go3 ?_);refine gv (fV (k:=.u32) (q:=1) I I) I (go2 ?_);refine gqU ?_;exact y3u (xL O)
  refine gF O I (go6 ?_);refine gqU ?_;exact y3u (xM O)
 refine gc2 (λU=>?_) λU=>?_
 ·
  refine go9 ?_;replace D:=D.mono aq;refine gv (wJ (ps':=[(0,_),(1,_),(2,_)]) (vs:=[vB s,Z,.slice none 0 0]) underlying29 wD I (qH underlying29) e6z (vO (A:=[]) (B:=[_]) (C:=[_,_]) (cs:=[_]) (off:=0) (size:=1) I I I I I (vO (A:=[_]) (B:=[_]) (C:=[_]) (cs:=[_]) (off:=1) (size:=1) I I I I D.cells (vO (A:=[_,_]) (B:=[_]) (C:=[]) (cs:=[_]) (off:=2) (size:=1) I I I I I kA)))) I (wR (A:=[]) (r':=.var b6 29 [vB s,Z,.slice none 0 0]) (zO (k:=0) (cs:=[_,_,_]) (vs:=[_,_,_]) I I I (ocr I (ocu D (ocr I oc0))) yG (bL I)) I I I (go3 ?_));refine xC (λE S=>yB I (wV (cs:=[_,_,_]) mh0 underlying29 I yG I) E S) ?_;have ah:=zKC ao bh;exact vQ.fin1 ap ar (by rw[ah,z4i];exact D) (by rw[ah,z4i];exact U)
 refine go7 ?_;replace D:=D.mono aq;refine gv (wJ (ps':=[(0,_),(1,_),(2,_)]) (vs:=[vB s,Z,ai]) underlying29 wD I (qH underlying29) e6z (vO (A:=[]) (B:=[_]) (C:=[_,_]) (cs:=[_]) (off:=0) (size:=1) I I I I I (vO (A:=[_]) (B:=[_]) (C:=[_]) (cs:=[_]) (off:=1) (size:=1) I I I I D.cells (vO (A:=[_,_]) (B:=[_]) (C:=[]) (cs:=[_]) (off:=2) (size:=1) I I I I H.cells kA)))) I (wR (A:=[]) (r':=.var b6 29 [vB s,Z,ai]) (zO (k:=0) (cs:=[_,_,_]) (vs:=[_,_,_]) I I I (ocr I (ocu D (ocu H oc0))) yG (bL I)) I I I (go3 ?_));refine xC (λE S=>yB I (wV (cs:=[_,_,_]) mh0 underlying29 I yG I) E S) ?_;have ah:=zKC ao bh;exact vQ.fin ap ar (by rw[ah,z4i];exact D) (by rw[ah,z4i];exact H) (by rw[ah,z4i];exact U)
theorem zA6{v v':Value}{xs ys:List Nat}(hv:Us .u32 h0 v xs)(hv':Us .u32 h0 v' ys):
 Calls prog 193 #[v,v'] w0 (Ret w0 h0 (λ_ r=>r=vB (xs=ys))):=by
 have O:=hv.lt63;have M:=hv'.lt63;refine cb2 26 v v' func193 hs ?_;refine qK ?_;refine gv (vS underlying27 I hv') I (gc3 (λD=>?_) λD=>?_)
 ·
  refine go7 ?_;refine zC I I ?_;rw[yN (λe=>D (by rw[e]))]
 have J:xs.length=ys.length:=by omega
 refine qK ?_;refine gcL (ι:=Nat) (λ(i:(Nat))=>(i<=xs.length/\xs.take i=ys.take i,[(0,v),(1,v'),(12,vI ↑xs.length),(13,vI ↑i)],[],h0,xs.length-i)) 0 ?_ ?_
 · exact⟨by omega,by simp⟩
 rintro i ⟨hi,ht⟩
 refine xD ?_;refine gc6 (λH=>?_) λH=>?_
 ·
  refine qK ?_;refine zL 9 _ [] (zai 0 9 []) yF nX zou nX (λr U=>U) (go2 ?_);refine w_q I (λh' L' hh hR=>zW (i) underlying27 sizeOf124 I I (hv.mono hh) oM oM) I (w_q I (λh' L' hh hR=>wC isAgg124 I (hv.mono hh) oM) I (go2 ?_));refine w_q I (λh' L' hh hR=>zW (i) underlying27 sizeOf124 I I (hv'.mono hh) oM oM) I (w_q I (λh' L' hh hR=>wC isAgg124 I (hv'.mono hh) oM) I (gc3 (λC=>?_) λC=>?_))
  ·
   refine qK ?_;refine zC I I ?_;rw[yN (λe=>C (by rw[e]))]
  refine go7 ?_;refine gqL (i+1) ?_ ?_ (he:=⟨I,I,I,?_,y3e⟩)
  ·
   refine⟨by omega,?_⟩;rw[dW xs i oM,dW ys i oM,ht];have e:=zdi C;rw[e]
  · omega
  · exact y3u (zbi vI oM)
 refine qK ?_;refine zC I I ?_;have Z:xs=ys:=by
  have e:i=xs.length:=by omega
  rw[e,z6i,J,z6i] at ht;exact ht
 rw[wA Z]
theorem zBG{qa:Rat}{vna vda:Value}(hna:Us .u32 h0 vna (zB qa.num.natAbs))(hda:Us .u32 h0 vda (zB (wW qa.den)))(hqa:lq qa<=100000000000):
 Calls prog 122 #[.agg #[vB (qa.num<0),vna,vda]] w0 (Ret w0 h0 (λ_ r=>r=vI (yX qa))):=by
 have M:=uK qa;have O:=uH qa;have U:=uF qa;refine cb1 11 (.agg #[vB (qa.num<0),vna,vda]) func122 hs ?_;refine go2 ?_;refine zH (vH (cs:=[_,_,_]) I I) I I I ?_;intro v1 r1 J;obtain⟨b1,rfl,rfl⟩:=J;refine go9 ?_;refine cL (ev1 I) call162 (λw hs=>zBT hs hna oM) λv6 h1 Z H=>?_
 try simp only[zE] at H
 subst H;refine gc4 (λD=>?_) λD=>?_
 ·
  refine go8 ?_;refine zC I I ?_;rw[aS (zIJ D)]
 refine gc7 (λC=>?_) λC=>?_
 ·
  refine go8 ?_;refine zC I I ?_;rw[zA9 C]
 refine go9 ?_;refine zC I I ?_;rw[zA8 (λh=>D (zIU h)) C]
theorem zYT{qa:Rat}{vna vda:Value}(hna:Us .u32 h0 vna (zB qa.num.natAbs))(hda:Us .u32 h0 vda (zB (wW qa.den))){qb:Rat}{vnb vdb:Value}(hnb:Us .u32 h0 vnb (zB qb.num.natAbs))(hdb:Us .u32 h0 vdb (zB (wW qb.den)))(hqa:lq qa<=100000000000)(hqb:lq qb<=100000000000):
 Calls prog 159 #[.agg #[vB (qa.num<0),vna,vda],.agg #[vB (qb.num<0),vnb,vdb]] w0 (Ret w0 h0 (λ_ r=>r=vB (qa=qb))):=by
 have ae:=uK qa;have ai:=uH qa;have ak:=uF qa;have ad:=uK qb;have ah:=uH qb;have aj:=uF qb;refine cb2 24 (.agg #[vB (qa.num<0),vna,vda]) (.agg #[vB (qb.num<0),vnb,vdb]) func159 hs ?_;refine go2 ?_;refine zH (vH (cs:=[_,_,_]) I I) I I I ?_;intro v2 r2 ac;obtain⟨b2,rfl,rfl⟩:=ac;refine zH (vH (cs:=[_,_,_]) I I) I I I ?_;intro v3 r3 ab;obtain⟨b3,rfl,rfl⟩:=ab;refine go9 ?_;refine gv (lL underlying4 I I) I ?_;refine qE (ι:=Mem) 7 (λJ=>MLe h0 J) (λ_=>[(16,vB (((qa.num<0)↔(qb.num<0))/\((zB qa.num.natAbs)=(zB qb.num.natAbs)))),(2,vP b2 0),(3,vP b3 0)]) (λ_=>[.var b3 29 [vB (qb.num<0),vnb,vdb],.var b2 29 [vB (qa.num<0),vna,vda]]) (λJ=>J) ?_ ?_
 ·
  refine zY ((qa.num<0)↔(qb.num<0)) (λH=>?_) (λH=>?_)
  ·
   refine gT H I (go9 ?_);refine cL (ev2 I I) call193 (λw hs=>zA6 hs hna hnb) λan h1 M Z=>?_;subst Z;refine go2 ?_;refine zV h1 M ⟨?_,I,I,y3e⟩ I I;exact y3u (xL H)
  refine gF H I (go7 ?_);refine zV h0 (MLe.refl _) ⟨?_,I,I,y3e⟩ I I;exact y3u (xM H)
 intro D C;refine sN ?_;refine qE (ι:=Mem) 7 (λJ=>MLe D J) (λ_=>[(23,vB ((((qa.num<0)↔(qb.num<0))/\((zB qa.num.natAbs)=(zB qb.num.natAbs)))/\((zB (wW qa.den))=(zB (wW qb.den)))))]) (λ_=>[.var b3 29 [vB (qb.num<0),vnb,vdb],.var b2 29 [vB (qa.num<0),vna,vda]]) (λJ=>J) ?_ ?_
 ·
  refine zY (((qa.num<0)↔(qb.num<0))/\((zB qa.num.natAbs)=(zB qb.num.natAbs))) (λH=>?_) (λH=>?_)
  ·
   refine gT H I (go9 ?_);replace hda:=hda.mono C;replace hdb:=hdb.mono C;refine cL (ev2 I I) call193 (λw hs=>zA6 hs hda hdb) λam h1 M U=>?_;subst U;refine go2 ?_;refine zV h1 M ⟨?_,y3e⟩ I I;exact y3u (xL H)
  refine gF H I (go7 ?_);refine zV D (MLe.refl _) ⟨?_,y3e⟩ I I;exact y3u (xM H)
 intro aa O;refine sN ?_;refine go4 ?_;refine zC I I ?_;exact kO zM9
theorem yEL{qa:Rat}{vna vda:Value}(hna:Us .u32 h0 vna (zB qa.num.natAbs))(hda:Us .u32 h0 vda (zB (wW qa.den))){qb:Rat}{vnb vdb:Value}(hnb:Us .u32 h0 vnb (zB qb.num.natAbs))(hdb:Us .u32 h0 vdb (zB (wW qb.den)))(hqa:lq qa<=100000000000)(hqb:lq qb<=100000000000):
 Calls prog 182 #[.agg #[vB (qa.num<0),vna,vda],.agg #[vB (qb.num<0),vnb,vdb]] w0 (Ret w0 h0 (λ_ r=>r=vI (xU qa qb))):=by
 have bp:=uK qa;have br:=uH qa;have bt:=uF qa;have bo:=uK qb;have bq:=uH qb;have bs:=uF qb;refine cb2 80 (.agg #[vB (qa.num<0),vna,vda]) (.agg #[vB (qb.num<0),vnb,vdb]) func182 hs ?_;refine go2 ?_;refine zH (vH (cs:=[_,_,_]) I I) I I I ?_;intro v2 r2 bh;obtain⟨b2,rfl,rfl⟩:=bh;refine zH (vH (cs:=[_,_,_]) I I) I I I ?_;intro v3 r3 bg;obtain⟨b3,rfl,rfl⟩:=bg;refine go5 ?_;refine zL 6 _ [] [(0,.q),(2,.q),(1,.c),(3,.c),(4,.q),(5,.q)] yF nX zou nX (λr hr=>hr) (go2 ?_);refine w_c I (sC (ev1 I) call122 (λw hs=>zBG hs hna hda oM) λcg h1 ah az=>?_);have bd:=xK qa;subst az;refine w_c I ?_;replace hnb:=hnb.mono ah;replace hdb:=hdb.mono ah;refine sC (ev1 I) call122 (λw hs=>zBG hs hnb hdb oM) λcf h2 O ay=>?_;have bc:=xK qb;subst ay;refine zDO (λM=>?_) λM=>?_
 ·
  refine gc8 (λaa=>?_) λaa=>?_
  ·
   refine go8 ?_;refine zC I I ?_;rw[zCE M,zau aa]
  refine go9 ?_;refine zC I I ?_;rw[zCE M,zae aa]
 have au:=zM4 M;refine go7 ?_;refine jR (ι:=Mem) (λ(mc:(Mem))=>MLe h2 mc/\(True)) (λ(mc:(Mem))=>[(2,vP b2 0),(7,vI (cN qa qb))]) (λ(mc:(Mem))=>[.var b3 29 [vB (qb.num<0),vnb,vdb],.var b2 29 [vB (qa.num<0),vna,vda]]) (λ(mc:(Mem))=>mc) ?_ ?_
 ·
  refine go3 ?_;replace hna:=hna.mono (ah.trans O);replace hda:=hda.mono (ah.trans O);refine cL (ev1 I) call163 (λw hs=>pR hs hna hda) λce h3 D ax=>?_;subst ax;refine pX ?_;replace hda:=hda.mono D;replace hdb:=hdb.mono (O.trans D);refine cL (ev2 I I) call193 (λw hs=>zA6 hs hda hdb) λcd h4 C aw=>?_;subst aw;refine gc2 (λaq=>?_) λaq=>?_
  ·
   refine go5 ?_;replace hna:=hna.mono (D.trans C);replace hnb:=hnb.mono ((O.trans D).trans C);refine cL (ev2 I I) call204 (λw hs=>zE6 hs hna hnb) λcc h5 H an=>?_
   try simp only[zE] at an
   subst an;refine go2 ?_;refine zV (h5) ?_ ⟨I,?_,y3e⟩ I I
   ·
    refine⟨((D.trans C).trans H),?_⟩
    trivial
   · exact y3u (zbi vI ((yMB aq).symm))
  refine go3 ?_;replace hnb:=hnb.mono ((O.trans D).trans C);replace hdb:=hdb.mono C;refine cL (ev1 I) call163 (λw hs=>pR hs hnb hdb) λcb h5 H av=>?_;subst av;refine uY ?_;refine gU 3 49 (vB ((sH qa)/\(sH qb))) ?_ ?_
  ·
   refine zY (sH qa) (λhg=>?_) (λhg=>?_)
   ·
    refine gT hg I (go4 ?_);refine gqU ?_;exact y3u (xL hg)
   refine gF hg I (go3 ?_);refine gqU ?_;exact y3u (xM hg)
  refine gc2 (λZ=>?_) λZ=>?_
  ·
   have ac:=Z.1;have ab:=Z.2;have bj:=tE ac;have bf:=tF ac;have bi:=tE ab;have be:=tF ab;have ci:=jG bj be;have ch:=jG bi bf;rw[zIE ac,zIF ac,zIE ab,zIF ab];refine zDO (λap=>?_) λap=>?_
   ·
    refine go3 ?_;refine zV (h5) ?_ ⟨I,?_,y3e⟩ I I
    ·
     refine⟨((D.trans C).trans H),?_⟩
     trivial
    · exact y3u (zbi vI ((zCF ap).symm))
   refine zDO (λao=>?_) λao=>?_
   ·
    refine go3 ?_;refine zV (h5) ?_ ⟨I,?_,y3e⟩ I I
    ·
     refine⟨((D.trans C).trans H),?_⟩
     trivial
    · exact y3u (zbi vI ((zCG ao).symm))
   refine go1 ?_;refine zV (h5) ?_ ⟨I,?_,y3e⟩ I I
   ·
    refine⟨((D.trans C).trans H),?_⟩
    trivial
   · exact y3u (zbi vI ((zDW.2 oM).symm))
  refine zL 12 _ [] [(0,.q),(1,.q),(2,.q),(5,.q),(6,.q),(7,.q),(3,.c),(4,.c),(8,.c),(9,.c),(10,.c),(11,.q)] yF nX zou nX (λr hr=>hr) (go6 ?_);refine w_c I ?_;replace hnb:=hnb.mono H;replace hdb:=hdb.mono H;refine sC (ev1 I) call166 (λw hs=>tZ hs hnb hdb) λca h6 ae am=>?_;rw[qC] at am;refine w_c I ?_;replace hna:=hna.mono (((D.trans C).trans H).trans ae);refine sC (ev2 I I) call165 (λw hs=>rA hs hna am oM oM) λbz h7 ad J=>?_
  try simp only[zE] at J
  have bl:=yQ ((qa.num.natAbs)) ((qb.den));refine w_c I ?_;replace hna:=hna.mono ad;replace hda:=hda.mono (((C.trans H).trans ae).trans ad);refine sC (ev1 I) call166 (λw hs=>tZ hs hna hda) λbx h8 ar ak=>?_;rw[qC] at ak;refine w_c I ?_;replace hnb:=hnb.mono ((ae.trans ad).trans ar);refine sC (ev2 I I) call165 (λw hs=>rA hs hnb ak oM oM) λbw h9 ba aj=>?_
  try simp only[zE] at aj
  have bk:=yQ ((qb.num.natAbs)) ((qa.den));refine w_c I ?_;replace J:=J.mono (ar.trans ba);refine sC (ev2 I I) call204 (λw hs=>zE6 hs J aj) λbv bm bb ai=>?_
  try simp only[zE] at ai
  subst ai;refine go2 ?_;refine zV (bm) ?_ e2z I I;refine⟨(((((((D.trans C).trans H).trans ae).trans ad).trans ar).trans ba).trans bb),?_⟩
  trivial
 rintro mc ⟨bn,bu⟩
 refine xD ?_;have cj:=zPF qa qb;refine gc7 (λU=>?_) λU=>?_
 ·
  refine go3 ?_;refine gv (lK I oM oM) I (go5 ?_);refine zC I I ?_;rw[zT5 au U]
 refine go9 ?_;refine zC I I ?_;rw[zPA au U]
theorem yEJ{qa:Rat}{vna vda:Value}(hna:Us .u32 h0 vna (zB qa.num.natAbs))(hda:Us .u32 h0 vda (zB (wW qa.den))){qb:Rat}{vnb vdb:Value}(hnb:Us .u32 h0 vnb (zB qb.num.natAbs))(hdb:Us .u32 h0 vdb (zB (wW qb.den)))(hqa:lq qa<=100000000000)(hqb:lq qb<=100000000000):
 Calls prog 153 #[.agg #[vB (qa.num<0),vna,vda],.agg #[vB (qb.num<0),vnb,vdb]] w0 (Ret w0 h0 (λh r=>vQ h r (qa*qb))):=by
 have bn:=uK qa;have bp:=uH qa;have br:=uF qa;have bm:=uK qb;have bo:=uH qb;have bq:=uF qb;rw[<-zZ3];refine cb2 64 (.agg #[vB (qa.num<0),vna,vda]) (.agg #[vB (qb.num<0),vnb,vdb]) func153 hs ?_;refine go2 ?_;refine zH (vH (cs:=[_,_,_]) I I) I I I ?_;intro v2 r2 bl;obtain⟨b2,rfl,rfl⟩:=bl;refine zH (vH (cs:=[_,_,_]) I I) I I I ?_;intro v3 r3 bk;obtain⟨b3,rfl,rfl⟩:=bk;refine zH (uJ (cs:=[vB ((0:Rat).num<0),.slice none 0 0,.slice none 0 0]) wD I (by simp only[zb];rfl)) I I I ?_;intro v4 r4 bj;obtain⟨b4,rfl,rfl⟩:=bj;refine go9 ?_;refine gU 6 20 (vB (((↑(zB qa.num.natAbs).length:Int)=(0:Int))\/((↑(zB qb.num.natAbs).length:Int)=(0:Int)))) ?_ ?_
 ·
  refine zY ((↑(zB qa.num.natAbs).length:Int)=(0:Int)) (λhg=>?_) (λhg=>?_)
  ·
   refine gT hg I (go6 ?_);refine gqU ?_;exact y3u (vV hg)
  refine gF hg I (uQ ?_);refine gqU ?_;exact y3u (vW hg)
 refine gc2 (λap=>?_) λap=>?_
 ·
  refine go2 ?_;refine gv (wJ (ps':=[]) (vs:=[vB ((0:Rat).num<0),.slice none 0 0,.slice none 0 0]) underlying29 wD I (qH underlying29) trivial (by simp only[zb];exact kA)) I (wR (A:=[]) (r':=.var b4 29 [vB ((0:Rat).num<0),.slice none 0 0,.slice none 0 0]) (zO (k:=0) (cs:=[_,_,_]) (vs:=[_,_,_]) I I I I yG (bL I)) I I I (go4 ?_));refine xC (λE S=>yB I (wV (cs:=[_,_,_]) mh0 underlying29 I yG I) E S) ?_
  rcases ap with h|h
  · rw[aA h,show(0:Rat).num.natAbs=0 from I,zwe,zBU];exact vQ.zero _
  · rw[aA h,show(0:Rat).num.natAbs=0 from I,z8u,zBU];exact vQ.zero _
 refine go6 ?_;refine cL (ev1 I) call163 (λw hs=>pR hs hna hda) λbu h1 aa bb=>?_;subst bb;refine sS ?_;refine cnd (λao=>?_) λao=>?_
 ·
  have ai:=ao;have bc:=tE ai;have aq:=tF ai;refine go3 ?_;replace hnb:=hnb.mono aa;replace hdb:=hdb.mono aa;refine cL (ev1 I) call163 (λw hs=>pR hs hnb hdb) λbt h2 J ba=>?_;subst ba;refine sS ?_;refine cnd (λan=>?_) λan=>?_
  ·
   have ah:=an;have ar:=tE ah;have ay:=tF ah;have ca:=jG bc ay;have bz:=jG ar aq;have bx:=jG aq ay;have bw:=jG bc ar;have bv:=jG aq ar;have cc:qa.den*qb.den≠0:=z5i qa.den_nz qb.den_nz;simp only[zIE ai,zIF ai,zIE ah,zIF ah];refine go6 ?_;refine gv (tT underlying4 I I) I (go6 ?_);refine cL (ev3 I I I) call164 (λw hs=>aT hs oM oM oM) λbs h3 H az=>?_;obtain⟨aw,ax,rfl,ak,am⟩:=az;refine wR (A:=[]) (r':=.var b4 29 [vB ((mkRat (sg (¬((qa.num<0)↔(qb.num<0))) (qa.num.natAbs*qb.num.natAbs)) (qa.den*qb.den)).num<0),aw,ax]) (zO (k:=0) (cs:=[_,_,_]) (vs:=[_,_,_]) I I I (ocr I (ocu ak (ocu am oc0))) yG (bL I)) I I I (go4 ?_);refine xC (λE S=>yB I (wV (cs:=[_,_,_]) mh0 underlying29 I yG I) E S) ?_;exact⟨_,_,I,ak,am⟩
  refine go3 ?_;refine zL 16 _ [] (zai 0 9 [(10,.q),(12,.q),(9,.c),(11,.c),(13,.c),(14,.c),(15,.c),(16,.t)]) yF nX zou nX (λr hr=>hr) (go4 ?_);refine xY I (λ_ _=>tT underlying4 I I) I (go6 ?_);refine w_c I ?_;replace hna:=hna.mono (aa.trans J);replace hnb:=hnb.mono J;refine sC (ev2 I I) call165 (λw hs=>rA hs hna hnb oM oM) λbi h3 H D=>?_
  try simp only[zE] at D
  have av:=yQ ((qa.num.natAbs)) ((qb.num.natAbs));refine w_c I ?_;replace hna:=hna.mono H;replace hda:=hda.mono ((aa.trans J).trans H);refine sC (ev1 I) call166 (λw hs=>tZ hs hna hda) λbh h4 ac C=>?_;rw[qC] at C;refine w_c I ?_;replace hnb:=hnb.mono (H.trans ac);replace hdb:=hdb.mono ((J.trans H).trans ac);refine sC (ev1 I) call166 (λw hs=>tZ hs hnb hdb) λbg h5 aj U=>?_;rw[qC] at U;refine w_c I ?_;replace C:=C.mono aj;refine sC (ev2 I I) call165 (λw hs=>rA hs C U oM oM) λbf h6 bd O=>?_
  try simp only[zE] at O
  have au:=yQ ((qa.den)) ((qb.den));refine w_c I ?_;replace D:=D.mono ((ac.trans aj).trans bd);refine sC (ev3 I I I) call155 (λw hs=>gH hs D O oM oM) λbe h7 cb M=>?_
  try simp only[zE] at M
  obtain⟨ad,ae,rfl,Z,ab⟩:=M;refine cC (A:=[]) (q':=.var b4 29 [vB ((mkRat (sg (¬((qa.num<0)↔(qb.num<0))) (((((qa.num.natAbs))*((qb.num.natAbs)))))) (((((qa.den))*((qb.den)))))).num<0),ad,ae]) I (zO (k:=0) (cs:=[_,_,_]) (vs:=[_,_,_]) I I I (ocr I (ocu Z (ocu ab oc0))) yG (bL I)) I (go3 ?_);refine xC (λE S=>yB I (wV (cs:=[_,_,_]) mh0 underlying29 I yG I) E S) ?_;exact⟨_,_,I,Z,ab⟩
 refine go3 ?_;refine zL 16 _ [] (zai 0 9 [(10,.q),(12,.q),(9,.c),(11,.c),(13,.c),(14,.c),(15,.c),(16,.t)]) yF nX zou nX (λr hr=>hr) (go4 ?_);refine xY I (λ_ _=>tT underlying4 I I) I (go6 ?_);refine w_c I ?_;replace hna:=hna.mono aa;replace hnb:=hnb.mono aa;refine sC (ev2 I I) call165 (λw hs=>rA hs hna hnb oM oM) λbi h2 J D=>?_
 try simp only[zE] at D
 have av:=yQ ((qa.num.natAbs)) ((qb.num.natAbs));refine w_c I ?_;replace hna:=hna.mono J;replace hda:=hda.mono (aa.trans J);refine sC (ev1 I) call166 (λw hs=>tZ hs hna hda) λbh h3 H C=>?_;rw[qC] at C;refine w_c I ?_;replace hnb:=hnb.mono (J.trans H);replace hdb:=hdb.mono ((aa.trans J).trans H);refine sC (ev1 I) call166 (λw hs=>tZ hs hnb hdb) λbg h4 ac U=>?_;rw[qC] at U;refine w_c I ?_;replace C:=C.mono ac;refine sC (ev2 I I) call165 (λw hs=>rA hs C U oM oM) λbf h5 aj O=>?_
 try simp only[zE] at O
 have au:=yQ ((qa.den)) ((qb.den));refine w_c I ?_;replace D:=D.mono ((H.trans ac).trans aj);refine sC (ev3 I I I) call155 (λw hs=>gH hs D O oM oM) λbe h6 bd M=>?_
 try simp only[zE] at M
 obtain⟨ad,ae,rfl,Z,ab⟩:=M;refine cC (A:=[]) (q':=.var b4 29 [vB ((mkRat (sg (¬((qa.num<0)↔(qb.num<0))) (((((qa.num.natAbs))*((qb.num.natAbs)))))) (((((qa.den))*((qb.den)))))).num<0),ad,ae]) I (zO (k:=0) (cs:=[_,_,_]) (vs:=[_,_,_]) I I I (ocr I (ocu Z (ocu ab oc0))) yG (bL I)) I (go3 ?_);refine xC (λE S=>yB I (wV (cs:=[_,_,_]) mh0 underlying29 I yG I) E S) ?_;exact⟨_,_,I,Z,ab⟩
theorem yEI{qa:Rat}{vna vda:Value}(hna:Us .u32 h0 vna (zB qa.num.natAbs))(hda:Us .u32 h0 vda (zB (wW qa.den))){qb:Rat}{vnb vdb:Value}(hnb:Us .u32 h0 vnb (zB qb.num.natAbs))(hdb:Us .u32 h0 vdb (zB (wW qb.den)))(hqa:lq qa<=100000000000)(hqb:lq qb<=100000000000):
 Calls prog 123 #[.agg #[vB (qa.num<0),vna,vda],.agg #[vB (qb.num<0),vnb,vdb]] w0 (Ret w0 h0 (λh r=>∃u,r=.tuple #[u,vI (if qb=0 then 3 else 0)]/\vQ h u (if qb=0 then 0 else qa/qb))):=by
 have bs:=uK qa;have bu:=uH qa;have bw:=uF qa;have br:=uK qb;have bt:=uH qb;have bv:=uF qb;refine cb2 58 (.agg #[vB (qa.num<0),vna,vda]) (.agg #[vB (qb.num<0),vnb,vdb]) func123 hs ?_;refine go2 ?_;refine zH (vH (cs:=[_,_,_]) I I) I I I ?_;intro v2 r2 bp;obtain⟨b2,rfl,rfl⟩:=bp;refine zH (vH (cs:=[_,_,_]) I I) I I I ?_;intro v3 r3 bo;obtain⟨b3,rfl,rfl⟩:=bo;refine zH (uJ (cs:=[vB ((0:Rat).num<0),.slice none 0 0,.slice none 0 0]) wD I (by simp only[zb];rfl)) I I I ?_;intro v4 r4 bn;obtain⟨b4,rfl,rfl⟩:=bn;refine go7 ?_;refine cL (ev1 I) call122 (λw hs=>zBG hs hnb hdb oM) λcb h1 ae be=>?_;have bm:=xK qb;subst be;refine gc3 (λaj=>?_) λaj=>?_
 ·
  have ac:=uT.1 aj;rw[zau ac,zau ac];refine go2 ?_;refine gv (wJ (ps':=[]) (vs:=[vB ((0:Rat).num<0),.slice none 0 0,.slice none 0 0]) underlying29 wD I (qH underlying29) trivial (by simp only[zb];exact kA)) I (wR (A:=[]) (r':=.var b4 29 [vB ((0:Rat).num<0),.slice none 0 0,.slice none 0 0]) (zO (k:=0) (cs:=[_,_,_]) (vs:=[_,_,_]) I I I I yG (bL I)) I I I (go5 ?_));refine xC (λE S=>jW I (wV (cs:=[_,_,_]) mh0 underlying29 I yG I) (tH I) E S) ?_;exact⟨_,I,vQ.zero _⟩
 have ac:qb≠0:=λh=>aj (uT.2 h);rw[zae ac,zae ac,<-zYU qa ac];have bq:=zGS.2 ac;refine go6 ?_;replace hna:=hna.mono ae;replace hda:=hda.mono ae;refine cL (ev1 I) call163 (λw hs=>pR hs hna hda) λca h2 aa bd=>?_;subst bd;refine sS ?_;refine cnd (λar=>?_) λar=>?_
 ·
  have am:=ar;have bf:=tE am;have au:=tF am;refine go3 ?_;replace hnb:=hnb.mono (ae.trans aa);replace hdb:=hdb.mono (ae.trans aa);refine cL (ev1 I) call163 (λw hs=>pR hs hnb hdb) λbz h3 Z bc=>?_;subst bc;refine sS ?_;refine cnd (λaq=>?_) λaq=>?_
  ·
   have ak:=aq;have av:=tE ak;have ba:=tF ak;have cg:=jG bf ba;have cf:=jG av au;have ce:=jG au ba;have cd:=jG bf av;have cc:=jG au av;have ci:qa.den*qb.num.natAbs≠0:=z5i qa.den_nz bq;simp only[zIE am,zIF am,zIE ak,zIF ak];refine go6 ?_;refine gv (tT underlying4 I I) I (go6 ?_);refine cL (ev3 I I I) call164 (λw hs=>aT hs oM oM oM) λbx h4 U bb=>?_;obtain⟨ay,az,rfl,ao,ap⟩:=bb;refine wR (A:=[]) (r':=.var b4 29 [vB ((mkRat (sg (¬((qa.num<0)↔(qb.num<0))) (qa.num.natAbs*qb.den)) (qa.den*qb.num.natAbs)).num<0),ay,az]) (zO (k:=0) (cs:=[_,_,_]) (vs:=[_,_,_]) I I I (ocr I (ocu ao (ocu ap oc0))) yG (bL I)) I I I (go5 ?_);refine xC (λE S=>jW I (wV (cs:=[_,_,_]) mh0 underlying29 I yG I) (tH I) E S) ?_;exact⟨_,I,_,_,I,ao,ap⟩
  refine go3 ?_;refine zL 16 _ [] (zai 0 8 [(10,.q),(12,.q),(13,.q),(8,.c),(9,.c),(11,.c),(14,.c),(15,.c),(16,.t),(17,.t)]) yF nX zou nX (λr hr=>hr) (go4 ?_);refine xY I (λ_ _=>tT underlying4 I I) I (go6 ?_);refine w_c I ?_;replace hnb:=hnb.mono Z;replace hdb:=hdb.mono Z;refine sC (ev1 I) call166 (λw hs=>tZ hs hnb hdb) λbl h4 U M=>?_;rw[qC] at M;refine w_c I ?_;replace hna:=hna.mono ((aa.trans Z).trans U);refine sC (ev2 I I) call165 (λw hs=>rA hs hna M oM oM) λbk h5 ad C=>?_
  try simp only[zE] at C
  have ax:=yQ ((qa.num.natAbs)) ((qb.den));refine w_c I ?_;replace hna:=hna.mono ad;replace hda:=hda.mono (((aa.trans Z).trans U).trans ad);refine sC (ev1 I) call166 (λw hs=>tZ hs hna hda) λbj h6 an J=>?_;rw[qC] at J;refine w_c I ?_;replace hnb:=hnb.mono ((U.trans ad).trans an);refine sC (ev2 I I) call165 (λw hs=>rA hs J hnb oM oM) λbi h7 bg H=>?_
  try simp only[zE] at H
  have aw:=yQ ((qa.den)) ((qb.num.natAbs));refine w_c I ?_;replace C:=C.mono (an.trans bg);refine sC (ev3 I I I) call155 (λw hs=>gH hs C H oM oM) λbh h8 ch D=>?_
  try simp only[zE] at D
  obtain⟨ah,ai,rfl,O,ab⟩:=D;refine cC (A:=[]) (q':=.var b4 29 [vB ((mkRat (sg (¬((qa.num<0)↔(qb.num<0))) (((((qa.num.natAbs))*((qb.den)))))) (((((qa.den))*((qb.num.natAbs)))))).num<0),ah,ai]) I (zO (k:=0) (cs:=[_,_,_]) (vs:=[_,_,_]) I I I (ocr I (ocu O (ocu ab oc0))) yG (bL I)) I (zEV I (pS (v:=vI (0)) I) I (go3 ?_));refine xC (λE S=>jW I (wV (cs:=[_,_,_]) mh0 underlying29 I yG I) (tH I) E S) ?_;exact⟨_,I,_,_,I,O,ab⟩
 refine go3 ?_;refine zL 16 _ [] (zai 0 8 [(10,.q),(12,.q),(13,.q),(8,.c),(9,.c),(11,.c),(14,.c),(15,.c),(16,.t),(17,.t)]) yF nX zou nX (λr hr=>hr) (go4 ?_);refine xY I (λ_ _=>tT underlying4 I I) I (go6 ?_);refine w_c I ?_;replace hnb:=hnb.mono (ae.trans aa);replace hdb:=hdb.mono (ae.trans aa);refine sC (ev1 I) call166 (λw hs=>tZ hs hnb hdb) λbl h3 Z M=>?_;rw[qC] at M;refine w_c I ?_;replace hna:=hna.mono (aa.trans Z);refine sC (ev2 I I) call165 (λw hs=>rA hs hna M oM oM) λbk h4 U C=>?_
 try simp only[zE] at C
 have ax:=yQ ((qa.num.natAbs)) ((qb.den));refine w_c I ?_;replace hna:=hna.mono U;replace hda:=hda.mono ((aa.trans Z).trans U);refine sC (ev1 I) call166 (λw hs=>tZ hs hna hda) λbj h5 ad J=>?_;rw[qC] at J;refine w_c I ?_;replace hnb:=hnb.mono ((Z.trans U).trans ad);refine sC (ev2 I I) call165 (λw hs=>rA hs J hnb oM oM) λbi h6 an H=>?_
 try simp only[zE] at H
 have aw:=yQ ((qa.den)) ((qb.num.natAbs));refine w_c I ?_;replace C:=C.mono (ad.trans an);refine sC (ev3 I I I) call155 (λw hs=>gH hs C H oM oM) λbh h7 bg D=>?_
 try simp only[zE] at D
 obtain⟨ah,ai,rfl,O,ab⟩:=D;refine cC (A:=[]) (q':=.var b4 29 [vB ((mkRat (sg (¬((qa.num<0)↔(qb.num<0))) (((((qa.num.natAbs))*((qb.den)))))) (((((qa.den))*((qb.num.natAbs)))))).num<0),ah,ai]) I (zO (k:=0) (cs:=[_,_,_]) (vs:=[_,_,_]) I I I (ocr I (ocu O (ocu ab oc0))) yG (bL I)) I (zEV I (pS (v:=vI (0)) I) I (go3 ?_));refine xC (λE S=>jW I (wV (cs:=[_,_,_]) mh0 underlying29 I yG I) (tH I) E S) ?_;exact⟨_,I,_,_,I,O,ab⟩
theorem zNJ{qa:Rat}{vna vda:Value}(hna:Us .u32 h0 vna (zB qa.num.natAbs))(hda:Us .u32 h0 vda (zB (wW qa.den))){qb:Rat}{vnb vdb:Value}(hnb:Us .u32 h0 vnb (zB qb.num.natAbs))(hdb:Us .u32 h0 vdb (zB (wW qb.den)))(hqa:lq qa<=100000000000)(hqb:lq qb<=100000000000){s:Prop}:
 Calls prog 161 #[.agg #[vB (qa.num<0),vna,vda],.agg #[vB (qb.num<0),vnb,vdb],vB s] w0 (Ret w0 h0 (λh r=>vQ h r (qa+sgd s qb))):=by
 have eb:=uK qa;have ed:=uH qa;have ef:=uF qa;have ea:=uK qb;have ec:=uH qb;have ee:=uF qb;refine cb3 152 (.agg #[vB (qa.num<0),vna,vda]) (.agg #[vB (qb.num<0),vnb,vdb]) (vB s) func161 hs ?_;refine go2 ?_;refine zH (vH (cs:=[_,_,_]) I I) I I I ?_;intro v3 r3 dq;obtain⟨b3,rfl,rfl⟩:=dq;refine zH (vH (cs:=[_,_,_]) I I) I I I ?_;intro v4 r4 dp;obtain⟨b4,rfl,rfl⟩:=dp;refine zH (uJ (cs:=[vB ((0:Rat).num<0),.slice none 0 0,.slice none 0 0]) wD I (by simp only[zb];rfl)) I I I ?_;intro v6 r6 dn;obtain⟨b6,rfl,rfl⟩:=dn;refine go2 ?_;refine jR (ι:=Mem) (λ(mc:(Mem))=>MLe h0 mc/\(True)) (λ(mc:(Mem))=>[(2,vB s),(3,vP b3 0),(4,vP b4 0),(6,vP b6 0)]) (λ(mc:(Mem))=>[.var b6 29 [vB ((0:Rat).num<0),.slice none 0 0,.slice none 0 0],.var b4 29 [vB (qb.num<0),vnb,vdb],.var b3 29 [vB (qa.num<0),vna,vda]]) (λ(mc:(Mem))=>mc) ?_ ?_
 ·
  refine go3 ?_;refine cL (ev1 I) call163 (λw hs=>pR hs hna hda) λem h1 aa dh=>?_;subst dh;refine sS ?_;refine cnd (λce=>?_) λce=>?_
  ·
   have br:=ce;have di:=tE br;have cg:=tF br;refine go3 ?_;replace hnb:=hnb.mono aa;replace hdb:=hdb.mono aa;refine cL (ev1 I) call163 (λw hs=>pR hs hnb hdb) λel h2 U df=>?_;subst df;refine sS ?_;refine cnd (λcd=>?_) λcd=>?_
   ·
    have bq:=cd;have ci:=tE bq;have db:=tF bq;have er:=jG di db;have eq:=jG ci cg;have ep:=jG cg db;have eo:=jG di ci;have en:=jG cg ci;have es:qa.den*qb.den≠0:=z5i qa.den_nz qb.den_nz;simp only[zIE br,zIF br,zIE bq,zIF bq];refine zAQ ?_;refine gv (zZB (vs:=[_,_,vU .u64 0]) (yOY _ _) e3z) I (pL ?_);refine gv (lL underlying4 I I) I ?_;refine gU 4 56 (vB (((qa.num<0)↔(s))/\((((qa.num.natAbs*qb.den)+(qb.num.natAbs*qa.den))/18446744073709551616)=(0:Nat)))) ?_ ?_
    ·
     refine zY ((qa.num<0)↔(s)) (λhg=>?_) (λhg=>?_)
     ·
      refine gT hg I (go3 ?_);refine gv (fV (k:=.u64) (q:=0) I I) I (go2 ?_);refine gqU ?_;exact y3u (xL hg)
     refine gF hg I (go4 ?_);refine gqU ?_;exact y3u (xM hg)
    refine gc3 (λcc=>?_) λcc=>?_
    ·
     obtain⟨cf,eu⟩:=cc;refine go7 ?_;refine cL (ev3 I I I) call164 (λw hs=>aT hs oM oM oM) λek h3 O de=>?_;obtain⟨cm,cp,rfl,bh,bm⟩:=de;refine wR (A:=[]) (r':=.var b6 29 [vB ((mkRat (sg (s) (((qa.num.natAbs*qb.den)+(qb.num.natAbs*qa.den))%18446744073709551616)) (qa.den*qb.den)).num<0),cm,cp]) (zO (k:=0) (cs:=[_,_,_]) (vs:=[_,_,_]) I I I (ocr I (ocu bh (ocu bm oc0))) yG (bL I)) I I I (go5 ?_);refine xC (λE S=>yB I (wV (cs:=[_,_,_]) mh0 underlying29 I yG I) E S) ?_;have e:=zoh (a:=qa.num.natAbs*qb.den+qb.num.natAbs*qa.den) (b:=18446744073709551616) oM;rw[e] at bh bm ⊢;rw[zFG cf];exact⟨_,_,I,bh,bm⟩
    refine go5 ?_;refine gv (tT underlying4 I I) I ?_;refine gU 5 72 (vB ((¬((qa.num<0)↔(s)))/\((qb.num.natAbs*qa.den)<=(qa.num.natAbs*qb.den)))) ?_ ?_
    ·
     refine zY (¬((qa.num<0)↔(s))) (λhg=>?_) (λhg=>?_)
     ·
      refine gT hg I (go8 ?_);refine gqU ?_;exact y3u (xL hg)
     refine gF hg I (go5 ?_);refine gqU ?_;exact y3u (xM hg)
    refine gc3 (λbo=>?_) λbo=>?_
    ·
     obtain⟨cf,bl⟩:=bo;refine go6 ?_;refine gv (lJ (k:=.u64) (W:=18446744073709551616) I I I I oM oM) I (go3 ?_);refine cL (ev3 I I I) call164 (λw hs=>aT hs oM oM oM) λej h3 O dd=>?_;obtain⟨cl,co,rfl,bz,cb⟩:=dd;refine wR (A:=[]) (r':=.var b6 29 [vB ((mkRat (sg (qa.num<0) ((qa.num.natAbs*qb.den)-(qb.num.natAbs*qa.den))) (qa.den*qb.den)).num<0),cl,co]) (zO (k:=0) (cs:=[_,_,_]) (vs:=[_,_,_]) I I I (ocr I (ocu bz (ocu cb oc0))) yG (bL I)) I I I (go5 ?_);refine xC (λE S=>yB I (wV (cs:=[_,_,_]) mh0 underlying29 I yG I) E S) ?_;rw[zEY cf bl];exact⟨_,_,I,bz,cb⟩
    refine go5 ?_;refine gv (tT underlying4 I I) I (gc3 (λbn=>?_) λbn=>?_)
    ·
     have bs:¬qb.num.natAbs*qa.den<=qa.num.natAbs*qb.den:=λh=>bo ⟨bn,h⟩;refine go5 ?_;refine gv (lJ (k:=.u64) (W:=18446744073709551616) I I I I oM oM) I (go3 ?_);refine cL (ev3 I I I) call164 (λw hs=>aT hs oM oM oM) λei h3 O dc=>?_;obtain⟨ck,cn,rfl,bx,ca⟩:=dc;refine wR (A:=[]) (r':=.var b6 29 [vB ((mkRat (sg (s) ((qb.num.natAbs*qa.den)-(qa.num.natAbs*qb.den))) (qa.den*qb.den)).num<0),ck,cn]) (zO (k:=0) (cs:=[_,_,_]) (vs:=[_,_,_]) I I I (ocr I (ocu bx (ocu ca oc0))) yG (bL I)) I I I (go5 ?_);refine xC (λE S=>yB I (wV (cs:=[_,_,_]) mh0 underlying29 I yG I) E S) ?_;rw[zA4 bn oM];exact⟨_,_,I,bx,ca⟩
    refine go2 ?_;refine zV (h2) ?_ e4z I I;refine⟨(aa.trans U),?_⟩
    trivial
   refine go1 ?_;refine zV (h2) ?_ e4z I I;refine⟨(aa.trans U),?_⟩
   trivial
  refine go1 ?_;refine zV (h1) ?_ e4z I I;refine⟨aa,?_⟩
  trivial
 rintro mc ⟨aq,eh⟩
 refine xD ?_;refine go1 ?_;refine zL 9 _ [] (zai 0 5 [(5,.c),(6,.q),(7,.q),(8,.q)]) yF nX zou nX (λr hr=>hr) (go5 ?_);refine w_c I ?_;replace hna:=hna.mono aq;replace hda:=hda.mono aq;refine sC (ev1 I) call166 (λw hs=>tZ hs hna hda) λdz h1 aa C=>?_;rw[qC] at C;refine uY ?_;replace hda:=hda.mono aa;replace hdb:=hdb.mono (aq.trans aa);refine cL (ev2 I I) call193 (λw hs=>zA6 hs hda hdb) λdy h2 U ch=>?_;subst ch;refine gc3 (λbp=>?_) λbp=>?_
 ·
  refine zL 15 _ [] [(0,.q),(1,.q),(4,.q),(5,.q),(8,.q),(9,.q),(2,.c),(3,.c),(6,.c),(7,.c),(10,.c),(11,.c),(12,.q),(13,.q),(14,.q)] yF nX zou nX (λr hr=>hr) (go6 ?_);refine w_c I ?_;replace hnb:=hnb.mono ((aq.trans aa).trans U);replace hdb:=hdb.mono U;refine sC (ev1 I) call166 (λw hs=>tZ hs hnb hdb) λdx h3 O bg=>?_;rw[qC] at bg;refine w_c I ?_;replace hna:=hna.mono ((aa.trans U).trans O);refine sC (ev2 I I) call165 (λw hs=>rA hs hna bg oM oM) λdw h4 ar J=>?_
  try simp only[zE] at J
  have dm:=yQ ((qa.num.natAbs)) ((qb.den));refine w_c I ?_;replace hna:=hna.mono ar;replace hda:=hda.mono ((U.trans O).trans ar);refine sC (ev1 I) call166 (λw hs=>tZ hs hna hda) λdv h5 bd bf=>?_;rw[qC] at bf;refine w_c I ?_;replace hnb:=hnb.mono ((O.trans ar).trans bd);refine sC (ev2 I I) call165 (λw hs=>rA hs hnb bf oM oM) λdu h6 bj H=>?_
  try simp only[zE] at H
  have dl:=yQ ((qb.num.natAbs)) ((qa.den));refine w_c I ?_;replace hnb:=hnb.mono bj;replace hdb:=hdb.mono (((O.trans ar).trans bd).trans bj);refine sC (ev1 I) call166 (λw hs=>tZ hs hnb hdb) λdt h7 bi be=>?_;rw[qC] at be;refine w_c I ?_;replace C:=C.mono (((((U.trans O).trans ar).trans bd).trans bj).trans bi);refine sC (ev2 I I) call165 (λw hs=>rA hs C be oM oM) λdr h8 bw D=>?_
  try simp only[zE] at D
  have dk:=yQ ((qa.den)) ((qb.den));refine qK ?_;refine gv (lL underlying4 I I) I (gc2 (λM=>?_) λM=>?_)
  ·
   refine go5 ?_;replace J:=J.mono (((bd.trans bj).trans bi).trans bw);replace H:=H.mono (bi.trans bw);refine cL (ev2 I I) call191 (λw hs=>y9 hs J H oM oM) λcy h9 bc ai=>?_
   try simp only[zE] at ai
   have bv:=gA (((((qa.num.natAbs))*((qb.den))))) (((((qb.num.natAbs))*((qa.den)))));refine go1 ?_;replace D:=D.mono bc;refine cL (ev3 I I I) call155 (λw hs=>gH hs ai D oM oM) λcw dj bk ah=>?_
   try simp only[zE] at ah
   obtain⟨aw,az,rfl,am,ap⟩:=ah;refine wR (A:=[]) (r':=.var b6 29 [vB ((mkRat (sg (s) ((((((((qa.num.natAbs))*((qb.den)))))+(((((qb.num.natAbs))*((qa.den))))))))) (((((qa.den))*((qb.den)))))).num<0),aw,az]) (zO (k:=0) (cs:=[_,_,_]) (vs:=[_,_,_]) I I I (ocr I (ocu am (ocu ap oc0))) yG (bL I)) I I I (go4 ?_);refine xC (λE S=>yB I (wV (cs:=[_,_,_]) mh0 underlying29 I yG I) E S) ?_;rw[zFG M];exact⟨_,_,I,am,ap⟩
  refine go7 ?_;replace J:=J.mono (((bd.trans bj).trans bi).trans bw);replace H:=H.mono (bi.trans bw);refine cL (ev2 I I) call195 (λw hs=>zE4 hs J H oM) λcv h9 bc bb=>?_;obtain⟨da,rfl,ac⟩:=bb
  try simp only[zE] at ac ⊢
  have bu:=yL (yhu (((((qa.num.natAbs))*((qb.den))))) (((((qb.num.natAbs))*((qa.den))))));refine pL ?_;refine cnd (λZ=>?_) λZ=>?_
  ·
   have bl:=zXR Z;rw[zae bl];refine go6 ?_;replace D:=D.mono bc;refine cL (ev3 I I I) call155 (λw hs=>gH hs ac D oM oM) λcu dj bk ae=>?_
   try simp only[zE] at ae
   obtain⟨av,ay,rfl,ak,ao⟩:=ae;refine wR (A:=[]) (r':=.var b6 29 [vB ((mkRat (sg (qa.num<0) ((((((((qa.num.natAbs))*((qb.den)))))-(((((qb.num.natAbs))*((qa.den))))))))) (((((qa.den))*((qb.den)))))).num<0),av,ay]) (zO (k:=0) (cs:=[_,_,_]) (vs:=[_,_,_]) I I I (ocr I (ocu ak (ocu ao oc0))) yG (bL I)) I I I (go4 ?_);refine xC (λE S=>yB I (wV (cs:=[_,_,_]) mh0 underlying29 I yG I) E S) ?_;rw[zEY M oM];exact⟨_,_,I,ak,ao⟩
  have bs:=zXS Z;rw[zau bs];refine go6 ?_;replace J:=J.mono bc;replace H:=H.mono bc;refine cL (ev2 I I) call195 (λw hs=>zE4 hs H J oM) λct dj bk ba=>?_;obtain⟨cz,rfl,ab⟩:=ba
  try simp only[zE] at ab ⊢
  have bt:=yL (yhu (((((qb.num.natAbs))*((qa.den))))) (((((qa.num.natAbs))*((qb.den))))));refine uY ?_;replace D:=D.mono (bc.trans bk);refine cL (ev3 I I I) call155 (λw hs=>gH hs ab D oM oM) λcq ev eg ad=>?_
  try simp only[zE] at ad
  obtain⟨au,ax,rfl,aj,an⟩:=ad;refine wR (A:=[]) (r':=.var b6 29 [vB ((mkRat (sg (s) ((((((((qb.num.natAbs))*((qa.den)))))-(((((qa.num.natAbs))*((qb.den))))))))) (((((qa.den))*((qb.den)))))).num<0),au,ax]) (zO (k:=0) (cs:=[_,_,_]) (vs:=[_,_,_]) I I I (ocr I (ocu aj (ocu an oc0))) yG (bL I)) I I I (go3 ?_);refine xC (λE S=>yB I (wV (cs:=[_,_,_]) mh0 underlying29 I yG I) E S) ?_;rw[zA4 M oM];exact⟨_,_,I,aj,an⟩
 have cj:=zR2.1 (zdi bp);refine go8 ?_;refine gv (lL underlying4 I I) I (gc2 (λM=>?_) λM=>?_)
 ·
  refine go5 ?_;replace hna:=hna.mono (aa.trans U);replace hnb:=hnb.mono ((aq.trans aa).trans U);refine cL (ev2 I I) call191 (λw hs=>y9 hs hna hnb oM oM) λcy h3 O ai=>?_
  try simp only[zE] at ai
  have bv:=gA ((qa.num.natAbs)) ((qb.num.natAbs));refine go1 ?_;replace C:=C.mono (U.trans O);refine cL (ev3 I I I) call155 (λw hs=>gH hs ai C oM oM) λcw h4 ar ah=>?_
  try simp only[zE] at ah
  obtain⟨aw,az,rfl,am,ap⟩:=ah;refine wR (A:=[]) (r':=.var b6 29 [vB ((mkRat (sg (s) (((((qa.num.natAbs))+((qb.num.natAbs)))))) ((qa.den))).num<0),aw,az]) (zO (k:=0) (cs:=[_,_,_]) (vs:=[_,_,_]) I I I (ocr I (ocu am (ocu ap oc0))) yG (bL I)) I I I (go4 ?_);refine xC (λE S=>yB I (wV (cs:=[_,_,_]) mh0 underlying29 I yG I) E S) ?_;rw[yC8 M cj];exact⟨_,_,I,am,ap⟩
 refine go7 ?_;replace hna:=hna.mono (aa.trans U);replace hnb:=hnb.mono ((aq.trans aa).trans U);refine cL (ev2 I I) call195 (λw hs=>zE4 hs hna hnb oM) λcv h3 O bb=>?_;obtain⟨da,rfl,ac⟩:=bb
 try simp only[zE] at ac ⊢
 have bu:=yL (yhu ((qa.num.natAbs)) ((qb.num.natAbs)));refine pL ?_;refine cnd (λZ=>?_) λZ=>?_
 ·
  have bl:=zXR Z;rw[zae bl];refine go6 ?_;replace C:=C.mono (U.trans O);refine cL (ev3 I I I) call155 (λw hs=>gH hs ac C oM oM) λcu h4 ar ae=>?_
  try simp only[zE] at ae
  obtain⟨av,ay,rfl,ak,ao⟩:=ae;refine wR (A:=[]) (r':=.var b6 29 [vB ((mkRat (sg (qa.num<0) (((((qa.num.natAbs))-((qb.num.natAbs)))))) ((qa.den))).num<0),av,ay]) (zO (k:=0) (cs:=[_,_,_]) (vs:=[_,_,_]) I I I (ocr I (ocu ak (ocu ao oc0))) yG (bL I)) I I I (go4 ?_);refine xC (λE S=>yB I (wV (cs:=[_,_,_]) mh0 underlying29 I yG I) E S) ?_;rw[zXQ M cj oM];exact⟨_,_,I,ak,ao⟩
 have bs:=zXS Z;rw[zau bs];refine go6 ?_;replace hna:=hna.mono O;replace hnb:=hnb.mono O;refine cL (ev2 I I) call195 (λw hs=>zE4 hs hnb hna oM) λct h4 ar ba=>?_;obtain⟨cz,rfl,ab⟩:=ba
 try simp only[zE] at ab ⊢
 have bt:=yL (yhu ((qb.num.natAbs)) ((qa.num.natAbs)));refine uY ?_;replace C:=C.mono ((U.trans O).trans ar);refine cL (ev3 I I I) call155 (λw hs=>gH hs ab C oM oM) λcq h5 bd ad=>?_
 try simp only[zE] at ad
 obtain⟨au,ax,rfl,aj,an⟩:=ad;refine wR (A:=[]) (r':=.var b6 29 [vB ((mkRat (sg (s) (((((qb.num.natAbs))-((qa.num.natAbs)))))) ((qa.den))).num<0),au,ax]) (zO (k:=0) (cs:=[_,_,_]) (vs:=[_,_,_]) I I I (ocr I (ocu aj (ocu an oc0))) yG (bL I)) I I I (go3 ?_);refine xC (λE S=>yB I (wV (cs:=[_,_,_]) mh0 underlying29 I yG I) E S) ?_;rw[zUU M cj oM];exact⟨_,_,I,aj,an⟩
theorem yEM{qa:Rat}{vna vda:Value}(hna:Us .u32 h0 vna (zB qa.num.natAbs))(hda:Us .u32 h0 vda (zB (wW qa.den))){qb:Rat}{vnb vdb:Value}(hnb:Us .u32 h0 vnb (zB qb.num.natAbs))(hdb:Us .u32 h0 vdb (zB (wW qb.den)))(hqa:lq qa<=100000000000)(hqb:lq qb<=100000000000):
 Calls prog 160 #[.agg #[vB (qa.num<0),vna,vda],.agg #[vB (qb.num<0),vnb,vdb]] w0 (Ret w0 h0 (λh r=>vQ h r (qa+qb))):=by
 have ad:=uK qa;have ah:=uH qa;have aj:=uF qa;have ac:=uK qb;have ae:=uH qb;have ai:=uF qb;refine cb2 10 (.agg #[vB (qa.num<0),vna,vda]) (.agg #[vB (qb.num<0),vnb,vdb]) func160 hs ?_;refine go2 ?_;refine zH (vH (cs:=[_,_,_]) I I) I I I ?_;intro v2 r2 Z;obtain⟨b2,rfl,rfl⟩:=Z;refine zH (vH (cs:=[_,_,_]) I I) I I I ?_;intro v3 r3 U;obtain⟨b3,rfl,rfl⟩:=U;refine zH (uJ (cs:=[vB ((0:Rat).num<0),.slice none 0 0,.slice none 0 0]) wD I (by simp only[zb];rfl)) I I I ?_;intro v4 r4 O;obtain⟨b4,rfl,rfl⟩:=O;refine go8 ?_;refine cL (ev3 I I I) call161 (λw hs=>zNJ hs hna hda hnb hdb oM oM) λv9 h1 ak M=>?_;obtain⟨H,J,rfl,C,D⟩:=M;have ab:=dG qa (sgd (qb.num<0) qb);have aa:=yAG (qb.num<0) qb;refine wR (A:=[]) (r':=.var b4 29 [vB ((qa+sgd (qb.num<0) qb).num<0),H,J]) (zO (k:=0) (cs:=[_,_,_]) (vs:=[_,_,_]) I I I (ocr I (ocu C (ocu D oc0))) yG (bL I)) I I I (go3 ?_);refine xC (λE S=>yB I (wV (cs:=[_,_,_]) mh0 underlying29 I yG I) E S) ?_;rw[zBA] at C D ⊢;exact⟨_,_,I,C,D⟩
theorem yEH{qa:Rat}{vna vda:Value}(hna:Us .u32 h0 vna (zB qa.num.natAbs))(hda:Us .u32 h0 vda (zB (wW qa.den))){qb:Rat}{vnb vdb:Value}(hnb:Us .u32 h0 vnb (zB qb.num.natAbs))(hdb:Us .u32 h0 vdb (zB (wW qb.den)))(hqa:lq qa<=100000000000)(hqb:lq qb<=100000000000):
 Calls prog 121 #[.agg #[vB (qa.num<0),vna,vda],.agg #[vB (qb.num<0),vnb,vdb]] w0 (Ret w0 h0 (λh r=>vQ h r (qa-qb))):=by
 have ad:=uK qa;have ah:=uH qa;have aj:=uF qa;have ac:=uK qb;have ae:=uH qb;have ai:=uF qb;refine cb2 11 (.agg #[vB (qa.num<0),vna,vda]) (.agg #[vB (qb.num<0),vnb,vdb]) func121 hs ?_;refine go2 ?_;refine zH (vH (cs:=[_,_,_]) I I) I I I ?_;intro v2 r2 Z;obtain⟨b2,rfl,rfl⟩:=Z;refine zH (vH (cs:=[_,_,_]) I I) I I I ?_;intro v3 r3 U;obtain⟨b3,rfl,rfl⟩:=U;refine zH (uJ (cs:=[vB ((0:Rat).num<0),.slice none 0 0,.slice none 0 0]) wD I (by simp only[zb];rfl)) I I I ?_;intro v4 r4 O;obtain⟨b4,rfl,rfl⟩:=O;refine go9 ?_;refine cL (ev3 I I I) call161 (λw hs=>zNJ hs hna hda hnb hdb oM oM) λak h1 am M=>?_;obtain⟨H,J,rfl,C,D⟩:=M;have ab:=dG qa (sgd (¬(qb.num<0)) qb);have aa:=yAG (¬(qb.num<0)) qb;refine wR (A:=[]) (r':=.var b4 29 [vB ((qa+sgd (¬(qb.num<0)) qb).num<0),H,J]) (zO (k:=0) (cs:=[_,_,_]) (vs:=[_,_,_]) I I I (ocr I (ocu C (ocu D oc0))) yG (bL I)) I I I (go3 ?_);refine xC (λE S=>yB I (wV (cs:=[_,_,_]) mh0 underlying29 I yG I) E S) ?_;rw[yD9,<-yyu] at C D ⊢;exact⟨_,_,I,C,D⟩
theorem yEK{n:Int}(hn1:-9223372036854775808<=n)(hn2:n<9223372036854775808):
 Calls prog 116 #[vI n] w0 (Ret w0 h0 (λh r=>vQ h r (n:Rat))):=by
 refine cb1 9 (vI n) func116 hs ?_;refine go2 ?_;refine zH (uJ (cs:=[vB ((0:Rat).num<0),.slice none 0 0,.slice none 0 0]) wD I (by simp only[zb];rfl)) I I I ?_;intro v2 r2 Z;obtain⟨b2,rfl,rfl⟩:=Z;refine go7 ?_;refine cL (ev1 I) call156 (λw hs=>zYS hs oM oM) λv6 h1 ae C=>?_;have ac:=fH (n:=n) oM oM;refine cL (vs:=[]) trivial call157 (λw hs=>zSV hs) λv7 h2 aa M=>?_;rw[y8] at M;have ab:=zLS;replace C:=C.mono aa;refine cL (ev3 I I I) call155 (λw hs=>gH hs C M oM oM) λv8 h3 ad J=>?_
 try simp only[zE] at J
 obtain⟨O,U,rfl,D,H⟩:=J;refine wR (A:=[]) (r':=.var b2 29 [vB ((mkRat (sg (n<(0:Int)) (((n).natAbs))) ((1))).num<0),O,U]) (zO (k:=0) (cs:=[_,_,_]) (vs:=[_,_,_]) I I I (ocr I (ocu D (ocu H oc0))) yG (bL I)) I I I (go3 ?_);refine xC (λE S=>yB I (wV (cs:=[_,_,_]) mh0 underlying29 I yG I) E S) ?_;rw[zLX] at D H ⊢;exact⟨_,_,I,D,H⟩
theorem rI{sa:Prop}{ba vna vda:Value}{xa ya:List Nat}(hba:ba=vB sa)(hna:Us .u32 h0 vna xa)(hda:Us .u32 h0 vda ya):
 Calls prog 51 #[.agg #[ba,vna,vda]] w0 (Ret w0 h0 (λh r=>Us .u32 h r (if ya=[] then[1] else ya))):=by
 subst hba;have M:=qA hna.lt;have J:=qA hda.lt;refine cb1 10 (.agg #[vB sa,vna,vda]) func51 hs ?_;refine go2 ?_;refine zH (vH (cs:=[_,_,_]) I I) I I I ?_;intro v1 r1 H;obtain⟨b1,rfl,rfl⟩:=H;refine zL7 (λC=>?_) λC=>?_
 ·
  refine go2 ?_;refine zH (pG (kd:=.u32) (p:=1) underlying27 uP I I I) I I I ?_;intro Z r7 D;obtain rfl:=D;refine yU (by intro z hz;simp only[zte] at hz;subst hz;decide) ?_;intro h1 O U;refine go5 ?_;refine zC I I ?_;rw[zau (zON.1 C)];exact U
 refine uQ ?_;refine zC I I ?_;rw[zae (λh=>C (zON.2 h))];exact hda
end
end Go.Proofs.YtpkaegemlpaenaaGreat
