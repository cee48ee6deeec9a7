/- Texts that the proof needs, part 3. -/
import Derived.Test.YtpkaegemlpaenaaGreatKH2
set_option linter.unusedVariables false
set_option linter.unusedSimpArgs false
set_option linter.defProp false
namespace Go.Proofs.YtpkaegemlpaenaaGreat
open Bk Go Tryz
abbrev y8i(f:FuncId)(v:Array Value)(w:World)(h:Mem)(Q:Mem->Value->Prop):Prop:=Calls Tryz.prog f v w (Ret w h Q)
end Go.Proofs.YtpkaegemlpaenaaGreat
namespace Bk
def y5u:=@Pc.here
def y5e:=@Pc.arr
def y6i:=@Pc.fst
def y6u:=@Pc.snd
def y6e:=@Pc.tx
def y7i:=@Pc.ty
def y7u:=@Pc.tz
end Bk
namespace Go.Proofs.YtpkaegemlpaenaaGreat
open Bk Go Tryz
set_option maxRecDepth 10000
set_option maxHeartbeats 1000000
attribute [local irreducible] GL GC GQ W OpV
section
variable{w0:World}{h0:Mem}(hs:MLe h0 (mem w0))
include hs
theorem jU{v:Value}{xs:List Nat}(hv:Us .u32 h0 v xs):
 y8i 196 #[v] w0 h0 (λh r=>r=tB 1 v 0 (zB (val xs)).length/\Us .u32 h r (zB (val xs))):=by
 have J:=hv.lt63;refine cb1 21 v func196 hs ?_;refine sH ?_;refine gcL (ι:=Nat) (λ(k:(Nat))=>(k<=xs.length/\∀i,k<=i->xs.getD i 0=0,[(0,v),(3,vI ↑k)],[],h0,k)) xs.length ?_ ?_
 · exact⟨zbe _,λi hi=>by rw[zoa,zre hi];rfl⟩
 rintro k ⟨hk,hz⟩
 refine yY ?_;refine go5 ?_;refine gU 8 15 (vB (((0:Int)<↑k)/\(xs.getD (k-1) 0=0))) ?_ ?_
 ·
  refine zY ((0:Int)<↑k) (λH=>?_) (λH=>?_)
  ·
   refine gT H I (go7 ?_);refine gv (zV (k-1) underlying27 sizeOf124 I I hv oM oM) I (go3 ?_);refine gv (fS (k:=.u32) (q:=0) I I) I (go2 ?_);refine gqU ?_;exact y4e (xD H)
  refine gF H I (go8 ?_);refine gqU ?_;exact y4e (xE H)
 refine gc2 (λC=>?_) λC=>?_
 ·
  refine go9 ?_;refine gqL (k-1) ?_ ?_ (he:=⟨I,?_,y5i⟩)
  ·
   exact⟨zot,λi hi=>by
    by_cases e:i=k-1
    · rw[e];exact C.2
    · exact hz i oM⟩
  · have:=C.1;omega
  · exact y4e (zbi vI (by have:=C.1;omega))
 refine go9 ?_;refine gv (zAI _ underlying27 sizeOf124 I I hv.shape I oM) I ?_;have D:=hv.sub (lo:=0) (hi:=_) oM oM;refine go4 ?_;refine zC I I ?_;have e:(xs.drop 0).take (k-0)=zB (val xs):=zJI hv.lt hk hz (by
  by_cases h0:k=0
  · exact .inl h0
  · exact .inr λh1=>C ⟨zot,h1⟩)
 rw[e] at D;have M:(zB (val xs)).length=k:=by
  rw[<-e,zei,ziu];omega
 refine⟨?_,D⟩;rw[M]
theorem nat_of{n:Nat}(hn:n<18446744073709551616):
 y8i 192 #[vU .u64 n] w0 h0 (λh r=>Us .u32 h r (zB n)):=by
 refine cb1 10 (vU .u64 n) func192 hs ?_;refine qC ?_;refine zG (zHB (kd:=.u32) underlying27 uW I I I I) I I I ?_;intro U Z D;obtain rfl:=D;refine yU (by intro x hx;simp only[zfu,zge,or_false] at hx;simp only[ub];omega) ?_;intro h1 J M;refine cL (ev1 I) call196 (λw hs=>jU hs M) λO h2 H C=>?_;replace C:=C.2;refine go4 ?_;refine zC I I ?_;have e:val [n%4294967296,n/2^32%4294967296]=n:=by simp only[val];omega
 rw[e] at C;exact C
theorem zFI{v v':Value}{xs ys:List Nat}(hv:Us .u32 h0 v xs)(hv':Us .u32 h0 v' ys):
 y8i 204 #[v,v'] w0 h0 (λ_ r=>r=vI (pQ (val xs) (val ys))):=by
 refine cb2 45 v v' func204 hs ?_;refine go8 ?_;refine cL (ev1 I) call196 (λw hs=>jU hs hv) λv7 h1 ab C=>?_;replace C:=C.2;refine go1 ?_;replace hv':=hv'.mono ab;refine cL (ev1 I) call196 (λw hs=>jU hs hv') λv9 h2 aa D=>?_;replace D:=D.2;replace C:=C.mono aa;generalize hA:zB (val xs)=AA at *;generalize hB:zB (val ys)=BB at *;have vA:val AA=val xs:=by rw[<-hA,zE]
 have M:val BB=val ys:=by rw[<-hB,zE]
 have fA:Fit AA:=C.lt;have fB:Fit BB:=D.lt;have lA:=C.lt63;have lB:=D.lt63;refine sH ?_;refine cnd (λZ=>?_) λZ=>?_
 ·
  refine zAY (λU=>?_) λU=>?_
  ·
   refine go8 ?_;refine zC I I ?_;rw[zCQ (rY (by rw[hA,hB];omega))]
  refine go9 ?_;refine zC I I ?_;rw[zCR (rY (by rw[hA,hB];omega))]
 have hl:AA.length=BB.length:=by omega
 refine qC ?_;refine gcL (ι:=Nat) (λ(j:(Nat))=>(j<=AA.length/\AA.drop j=BB.drop j,[(0,v7),(1,v9),(5,vI (↑j-1))],[],h2,j)) AA.length ?_ ?_
 · exact⟨zbe _,by rw[znu (zbe _),znu oM]⟩
 rintro j ⟨hj,hd⟩
 refine yY ?_;refine gc7 (λO=>?_) λO=>?_
 ·
  refine go5 ?_;refine zJ 9 _ [] (zai 0 9 []) zX nX zou nX (λr hr=>hr) (go2 ?_);refine w_q I (λh' L' hh hR=>zV (j-1) underlying27 sizeOf124 I I (C.mono hh) oM oM) I (w_q I (λh' L' hh hR=>wB isAgg124 I (C.mono hh) oM) I (go2 ?_));refine w_q I (λh' L' hh hR=>zV (j-1) underlying27 sizeOf124 I I (D.mono hh) oM oM) I (w_q I (λh' L' hh hR=>wB isAgg124 I (D.mono hh) oM) I (gc3 (λJ=>?_) λJ=>?_))
  ·
   refine go2 ?_;refine zJ 9 _ [] (zai 0 9 []) zX nX zou nX (λr hr=>hr) (go2 ?_);refine w_q I (λh' L' hh hR=>zV (j-1) underlying27 sizeOf124 I I (C.mono hh) oM oM) I (w_q I (λh' L' hh hR=>wB isAgg124 I (C.mono hh) oM) I (go2 ?_));refine w_q I (λh' L' hh hR=>zV (j-1) underlying27 sizeOf124 I I (D.mono hh) oM oM) I (w_q I (λh' L' hh hR=>wB isAgg124 I (D.mono hh) oM) I (gc3 (λH=>?_) λH=>?_))
   ·
    refine qC ?_;refine zC I I ?_;rw[<-vA,<-M,zCQ (zE9 fA hl oM hj hd H)]
   refine rS ?_;refine zC I I ?_;rw[<-vA,<-M,zCR (zE9 fB hl.symm oM oM hd.symm oM)]
  refine go8 ?_;refine gqL (j-1) ?_ ?_ (he:=⟨I,I,?_,y5i⟩)
  ·
   refine⟨zot,?_⟩;rw[tO AA (j-1) oM,tO BB (j-1) oM];have e:j-1+1=j:=by omega
   rw[e,hd,zdi J]
  · omega
  · exact y4e (zbi vI oM)
 refine qE ?_;refine zC I I ?_;have h0:j=0:=by omega
 subst h0;simp only[ycu] at hd;rw[<-vA,<-M,hd,zUO]
theorem zGC{v:Value}{xs:List Nat}(hv:Us .u32 h0 v xs)(hl:xs.length<=1099511627776):
 Calls prog 207 #[v] w0 (tP w0 h0 (λ_ r L=>L=[.us 124 .u32 r xs])):=by
 refine cb1 8 v func207 hs ?_;refine go9 ?_;refine gv (zRG underlying27 I (let ⟨a,c,hv⟩:=hv.one;⟨a,_,c,hv⟩)) I (gc2 (λC=>?_) λC=>?_)
 ·
  refine go3 ?_;refine zDZ (E:=124) (k:=.u32) (go4 ?_);refine qB I I ?_;obtain⟨m,J,rfl⟩:=C;have hx:xs=[]:=hv.nil_of;subst hx
  rfl
 refine go4 ?_;refine zG (zHC (kd:=.u32) underlying27 uW I I) I I I ?_;intro O Z H;obtain rfl:=H;refine go1 ?_;refine xQ (A:=[]) (fF (kd:=.u32) (bytes:=4) underlying27 uW I I I I I hv (by simp only[lN];omega) (by simp only[lN];omega)) I I I ?_;intro M U D;obtain rfl:=D;refine go4 ?_;refine qB I I ?_
 rfl
theorem w6{v v':Value}{xs ys:List Nat}(hv:Us .u32 h0 v xs)(hv':Us .u32 h0 v' ys)(hl:xs.length<=1099511627776)(hl':ys.length<=1099511627776):
 y8i 191 #[v,v'] w0 h0 (λh r=>Us .u32 h r (zB (val xs+val ys))):=by
 refine cb2 58 v v' func191 hs ?_;refine go5 ?_;refine jM (ι:=Value×List Nat×Value×List Nat) (λ(M,D,U,H)=>Us .u32 h0 M D/\Us .u32 h0 U H/\H.length<=D.length/\val D+val H=val xs+val ys/\D.length<=1099511627776) (λ(M,D,U,H)=>[(0,M),(1,U)]) (λ(M,D,U,H)=>[]) (λ(M,D,U,H)=>h0) ?_ ?_
 ·
  refine go5 ?_;refine gv (vW underlying27 I hv') I (gc3 (λae=>?_) λae=>?_)
  ·
   refine go6 ?_;refine zU (v',ys,v,xs) ?_ e2z I I;exact⟨hv',hv,zot,zot,hl'⟩
  refine go1 ?_;refine zU (v,xs,v',ys) ?_ e2z I I;exact⟨hv,hv',zot,I,hl⟩
 rintro⟨M,D,U,H⟩ ⟨ha,hb,ao,zW5,ap⟩
 refine yY ?_;refine go5 ?_;refine jB (kd:=.u32) (by':=4) (D.length+1) underlying27 uW I I I I I oM oM oM oM I ?_;intro O;refine go5 ?_;refine asg (v:=vU .u64 0) I I (qE ?_);refine gR (ι:=List Nat×Nat) (λ(C,c)=>C.length<=D.length/\Fit C/\c<=1/\val C+4294967296^C.length*c=val (D.take C.length)+val (H.take C.length)) (λ(C,c)=>[(0,M),(1,U),(5,O),(6,vU .u64 c),(20,M),(21,vI ↑D.length),(22,vI ↑C.length)]) (λ(C,c)=>[.us 124 .u32 O (tZ C (D.length+1))]) (λ(C,c)=>h0) (λ(C,c)=>D.length-C.length) ([],0) ?_ e7 I I ?_
 · exact⟨zo3,λx hx=>by simp at hx,zot,by simp[val]⟩
 rintro⟨C,c⟩ ⟨an,ab,au,aa⟩
 refine yY ?_;refine gc6 (λad=>?_) λad=>?_
 ·
  refine go7 ?_;refine gv (zV _ underlying27 sizeOf124 I I ha I oM) I (go1 ?_);have am:=ha.get32 C.length;have ak:=hb.get32 C.length;refine rS ?_;refine jM (ι:=Unit) (λ(_u:(Unit))=>True) (λ(_u:(Unit))=>[(0,M),(1,U),(5,O),(6,vU .u64 (c+D.getD C.length 0+H.getD C.length 0)),(7,vI ↑C.length),(20,M),(21,vI ↑D.length),(22,vI ↑C.length)]) (λ(_u:(Unit))=>[.us 124 .u32 O (tZ C (D.length+1))]) (λ(_u:(Unit))=>h0) ?_ ?_
  ·
   refine gc8 (λac=>?_) λac=>?_
   ·
    refine go4 ?_;refine gv (zV _ underlying27 sizeOf124 I I hb I oM) I (go5 ?_);refine zU (()) ?_ e8 I I
    trivial
   refine go1 ?_;refine zU (()) ?_ ⟨I,I,I,?_,I,I,I,I,y5i⟩ I I
   · trivial
   · exact y4e (zbi (vU .u64) (by rw[sV (xs:=H) oM];omega))
  rintro _u ai
  refine yY ?_;refine go6 ?_;refine gv (xH (A:=[]) _ underlying27 sizeOf124 I I I (by rw[uP oM];omega)) I (vH sizeOf124 I I (by rw[uP oM];omega) (rS ?_));refine jW (C++[(c+D.getD C.length 0+H.getD C.length 0)%4294967296],(c+D.getD C.length 0+H.getD C.length 0)/2^32) ?_ ?_ ⟨I,I,I,I,I,I,?_,y5i⟩ ?_ I
  ·
   have ah:C.length<D.length:=by omega
   refine⟨by simp;omega,uT ab (aM oM),zot,?_⟩;rw[lAz,zke,uX D _ ah,uO H,rN,zni];have e:=z8i (c+D.getD C.length 0+H.getD C.length 0) 4294967296;have e2:(2:Nat)^32=4294967296:=I;rw[e2];generalize (c+D.getD C.length 0+H.getD C.length 0)/4294967296=q at *;generalize (c+D.getD C.length 0+H.getD C.length 0)%4294967296=r at *;grind
  ·
   dsimp only;simp;omega
  · exact y4e (zbi vI zo3)
  try dsimp only[List.nil_append,List.cons_append]
  rw[pP oM]
 refine qC ?_;refine gv (xH (A:=[]) (D.length) underlying27 sizeOf124 I I zo5 (by rw[uP oM];omega)) I (vH sizeOf124 I I (by rw[uP oM];omega) (go5 ?_));have hk:C.length=D.length:=by omega
 have Z:(tZ C (D.length+1)).set D.length (c%4294967296)=C++[c%4294967296]:=by
  rw[<-hk,pP oM,aA zo3]
 refine yU (by rw[Z];exact uT ab (aM oM)) ?_;intro h1 ar ho;refine cL (ev1 I) call196 (λw hs=>jU hs ho) λaj h2 aq J=>?_;replace J:=J.2;refine go4 ?_;refine zC I I ?_;have e:val (C++[c%4294967296])=val xs+val ys:=by
  rw[rN,zoh oM,aa,wH oM,wH oM];exact zW5
 rw[Z,e] at J;exact J
theorem zFG{v v':Value}{xs ys:List Nat}(hv:Us .u32 h0 v xs)(hv':Us .u32 h0 v' ys)(hl:xs.length<=1099511627776):
 y8i 195 #[v,v'] w0 h0 (λh r=>∃u,r=.tuple #[u,vI (if val xs<val ys then 7 else 0)]/\Us .u32 h u (zB (val xs-val ys))):=by
 refine cb2 54 v v' func195 hs ?_;refine qE ?_;refine cL (ev2 I I) call204 (λw hs=>zFI hs hv hv') λao h1 ac ab=>?_;subst ab;refine gc3 (λJ=>?_) λJ=>?_
 ·
  have O:=rV.1 J;refine go8 ?_;refine wY I I I ?_;rw[zau O,Nat.sub_eq_zero_of_le (yli O),xM];exact⟨_,I,Us.nil _ _⟩
 have ak:val ys<=val xs:=yfe λhc=>J (rV.2 hc);refine go5 ?_;replace hv':=hv'.mono ac;refine cL (ev1 I) call196 (λw hs=>jU hs hv') λZ h2 aj H=>?_;replace H:=H.2;replace hv:=hv.mono (ac.trans aj);refine go7 ?_;refine jB (kd:=.u32) (by':=4) _ underlying27 uW I I I I I I I oM oM I ?_;intro M;refine go5 ?_;refine asg (v:=vU .u64 0) I I (qE ?_);refine gR (ι:=List Nat×Nat) (λ(C,c)=>C.length<=xs.length/\Fit C/\c<=1/\val C+val ((zB (val ys)).take C.length)=val (xs.take C.length)+4294967296^C.length*c) (λ(C,c)=>[(1,Z),(6,M),(7,vU .u64 c),(21,v),(22,vI ↑xs.length),(23,vI ↑C.length)]) (λ(C,c)=>[.us 124 .u32 M (tZ C xs.length)]) (λ(C,c)=>h2) (λ(C,c)=>xs.length-C.length) ([],0) ?_ e6 I I ?_
 · exact⟨zo3,λx hx=>by simp at hx,zot,by simp[val]⟩
 rintro⟨C,c⟩ ⟨ar,U,aw,aa⟩
 refine yY ?_;refine gc6 (λae=>?_) λae=>?_
 ·
  refine go7 ?_;refine gv (zV _ underlying27 sizeOf124 I I hv I oM) I (go1 ?_);have aq:=hv.get32 C.length;have ap:=H.get32 C.length;refine uR ?_;refine jM (ι:=Unit) (λ(_u:(Unit))=>True) (λ(_u:(Unit))=>[(1,Z),(6,M),(8,vI ↑C.length),(9,vU .u32 (xs.getD C.length 0)),(10,vU .u64 (c+(zB (val ys)).getD C.length 0)),(21,v),(22,vI ↑xs.length),(23,vI ↑C.length)]) (λ(_u:(Unit))=>[.us 124 .u32 M (tZ C xs.length)]) (λ(_u:(Unit))=>h2) ?_ ?_
  ·
   refine gc8 (λad=>?_) λad=>?_
   ·
    refine go4 ?_;refine gv (zV _ underlying27 sizeOf124 I I H I oM) I (go5 ?_);refine zU (()) ?_ e8 I I
    trivial
   refine go1 ?_;refine zU (()) ?_ ⟨I,I,I,I,?_,I,I,I,y5i⟩ I I
   · trivial
   · exact y4e (zbi (vU .u64) (by rw[sV (xs:=zB (val ys)) oM];omega))
  rintro _u am
  refine yY ?_;refine go5 ?_;refine gv (mO (k:=.u64) (W:=18446744073709551616) I I I I oM) I (go9 ?_);refine gv (xH (A:=[]) _ underlying27 sizeOf124 I I I (by rw[uP oM];omega)) I (vH sizeOf124 I I (by rw[uP oM];omega) (go4 ?_));refine gv (fQ (k:=.u64) (s:=63) (yk:=.u64) I I I (by simp only[ub];omega)) I (go8 ?_);generalize hX:xs.getD C.length 0=X at *;generalize hY:(zB (val ys)).getD C.length 0=Y at *;refine jW (C++[(X+18446744073709551616-(c+Y))%18446744073709551616%4294967296],(X+18446744073709551616-(c+Y))%18446744073709551616/2^63) ?_ ?_ ⟨I,I,I,I,I,?_,y5i⟩ ?_ I
  ·
   have O:C.length<xs.length:=by omega
   refine⟨by simp;omega,uT U (aM oM),zot,?_⟩;rw[lAz,zke,uX xs _ O,uO (zB (val ys)),rN,zni,hX,hY];have e:(X+18446744073709551616-(c+Y))%18446744073709551616%4294967296+c+Y=X+4294967296*((X+18446744073709551616-(c+Y))%18446744073709551616/2^63):=by omega
   generalize (X+18446744073709551616-(c+Y))%18446744073709551616/2^63=q at *;generalize (X+18446744073709551616-(c+Y))%18446744073709551616%4294967296=r at *;grind
  ·
   dsimp only;simp;omega
  · exact y4e (zbi vI zo3)
  try dsimp only[List.nil_append,List.cons_append]
  rw[pP oM]
 refine go8 ?_;have hk:C.length=xs.length:=by omega
 rw[aA hk];refine yU (by exact U) ?_;intro h3 ai ho;refine cL (ev1 I) call196 (λw hs=>jU hs ho) λan h4 ah D=>?_;replace D:=D.2;refine go5 ?_;refine wY I I I ?_;replace hv:=hv.mono (ai.trans ah);rw[zae oM];refine⟨_,I,?_⟩;have e:val C=val xs-val ys:=by
  have av:(zB (val ys)).length<=xs.length:=zci (yL ak) (qA hv.lt);rw[wH oM,zE,wH oM] at aa;have h1:=gG U;have h2:c=0:=zdu λau=>by
   have:c=1:=by omega
   subst this;omega
  subst h2;omega
 rw[e] at D;exact D
theorem rB{v v':Value}{xs ys:List Nat}(hv:Us .u32 h0 v xs)(hv':Us .u32 h0 v' ys)(hl:xs.length<=1099511627776)(hl':ys.length<=1099511627776):
 y8i 165 #[v,v'] w0 h0 (λh r=>Us .u32 h r (zB (val xs*val ys))):=by
 have aw:Fit xs:=hv.lt;have av:Fit ys:=hv'.lt;refine cb2 69 v v' func165 hs ?_;refine uR ?_;refine gv (vW underlying27 I hv') I (go1 ?_);refine jB (kd:=.u32) (by':=4) (xs.length+ys.length) underlying27 uW I I I I I oM oM oM oM I ?_;intro J;refine qC ?_;refine gcL (ι:=Nat×List Nat) (λ(k,M)=>(k<=xs.length/\M.length=xs.length+ys.length/\Fit M/\val M=val (xs.take k)*val ys/\∀i,k+ys.length<=i->M.getD i 0=0,[(1,v'),(5,J),(17,v),(18,vI ↑xs.length),(19,vI ↑k)],[.us 124 .u32 J M],h0,xs.length-k)) (0,List.replicate (xs.length+ys.length) 0) ?_ ?_
 · exact⟨zuu _,zo3,kG _,by rw[bM];simp[val],λi _=>dS _ _⟩
 rintro⟨k,M⟩ ⟨hk,ae,aa,O,hz⟩
 refine yY ?_;refine gc6 (λai=>?_) λai=>?_
 ·
  refine go7 ?_;refine gv (zV _ underlying27 sizeOf124 I I hv I oM) I (go1 ?_);have aq:=hv.get32 k;refine go8 ?_;refine gv (fS (k:=.u32) (q:=0) I I) I (gc2 (λH=>?_) λH=>?_)
  ·
   have ab:xs.getD k 0=0:=H;refine go8 ?_;refine gqL (k+1,M) ?_ ?_
   · exact⟨zot,ae,aa,by rw[O,uX xs k oM,ab];simp,λi hi=>hz i oM⟩
   omega
  have ab:xs.getD k 0≠0:=H;refine go4 ?_;refine asg (v:=vU .u64 0) I I (go6 ?_);refine gv (vW underlying27 I hv') I (go4 ?_);refine gcL (ι:=Nat×List Nat×Nat) (λ(j,C,c)=>(j<=ys.length/\C.length=xs.length+ys.length/\Fit C/\c<4294967296/\val C+4294967296^(k+j)*c=val M+4294967296^k*(xs.getD k 0*val (ys.take j))/\∀i,k+ys.length<=i->C.getD i 0=0,[(1,v'),(5,J),(6,vI ↑k),(7,vU .u32 (xs.getD k 0)),(8,vU .u64 c),(17,v),(18,vI ↑xs.length),(19,vI ↑k),(26,v'),(27,vI ↑ys.length),(28,vI ↑j)],[.us 124 .u32 J C],h0,ys.length-j)) (0,M,0) ?_ ?_
  · exact⟨zuu _,ae,aa,zot,by simp[val],hz⟩
  rintro⟨j,C,c⟩ ⟨hj,ad,Z,ak,ac,U⟩
  refine yY ?_;refine gc6 (λah=>?_) λah=>?_
  ·
   refine go7 ?_;refine gv (zV _ underlying27 sizeOf124 I I hv' I oM) I (gv (wB isAgg124 I hv' oM) I ?_);have ap:=hv'.get32 j;have ao:=qY Z (k+j);have an:xs.getD k 0*ys.getD j 0<=4294967295*4294967295:=z7u oM oM;refine dQ ?_;refine gv (xH (A:=[]) (k+j) underlying27 sizeOf124 I I oM oM) I (gv (tC (A:=[]) isAgg124 I oM) I (sH ?_));refine gv (xH (A:=[]) (k+j) underlying27 sizeOf124 I I oM oM) I (vH sizeOf124 I I oM (rS ?_));refine gqL (j+1,C.set (k+j) ((c+(xs.getD k 0*ys.getD j 0+C.getD (k+j) 0))%4294967296),(c+(xs.getD k 0*ys.getD j 0+C.getD (k+j) 0))/2^32) ?_ ?_
   ·
    refine⟨zot,by simp[ad],nO Z _ oM,zot,?_,λi hi=>?_⟩
    · have h1:=nC (xs:=C) (i:=k+j) oM ((c+(xs.getD k 0*ys.getD j 0+C.getD (k+j) 0))%4294967296)
      have e:=z8i (c+(xs.getD k 0*ys.getD j 0+C.getD (k+j) 0)) 4294967296;have e2:(2:Nat)^32=4294967296:=I;rw[uX ys j oM,e2];have ep:(4294967296:Nat)^(k+(j+1))=4294967296^k*4294967296^j*4294967296:=by rw[<-z3e,zni,zne]
      rw[ep];rw[zne] at h1 ac;generalize (c+(xs.getD k 0*ys.getD j 0+C.getD (k+j) 0))/4294967296=q at *;generalize (c+(xs.getD k 0*ys.getD j 0+C.getD (k+j) 0))%4294967296=r at *;grind
    · rw[jL oM];exact U i hi
   omega
  refine go9 ?_;refine gv (vW underlying27 I hv') I (go3 ?_);refine gv (xH (A:=[]) (k+ys.length) underlying27 sizeOf124 I I oM oM) I (vH sizeOf124 I I oM (go7 ?_));refine gqL (k+1,C.set (k+ys.length) (c%4294967296)) ?_ ?_
  ·
   have hj:j=ys.length:=by omega
   subst hj;refine⟨zot,by simp[ad],nO Z _ oM,?_,λi hi=>?_⟩
   · have h1:=nC (xs:=C) (i:=k+ys.length) oM (c%4294967296)
     rw[U _ (zbe _)] at h1;rw[wH (zbe _)] at ac;rw[zoh ak] at h1 ⊢;rw[uX xs k oM];grind
   · rw[jL oM];exact U i oM
  omega
 refine go8 ?_;refine yU (by exact aa) ?_;intro h1 au ho;refine cL (ev1 I) call196 (λw hs=>jU hs ho) λam h2 ar D=>?_;replace D:=D.2;refine go4 ?_;refine zC I I ?_;have aj:k=xs.length:=by omega
 rw[O,aj,wH (zbe _)] at D;exact D
end
set_option maxRecDepth 100000 in
section
variable{w0:World}{h0:Mem}(hs:MLe h0 (mem w0))
include hs
theorem zIJ{x:Nat}(hx:x<4294967296):
 y8i 197 #[vU .u32 x] w0 h0 (λ_ r=>r=vI ↑(uU x)):=by
 refine cb1 19 (vU .u32 x) func197 hs ?_;refine go5 ?_;refine jM (ι:=Nat×Nat) (λ(D,H)=>D<65536/\H<=16/\uU x=uU D+H) (λ(D,H)=>[(0,vU .u32 D),(2,vI ↑H)]) (λ(D,H)=>[]) (λ(D,H)=>h0) ?_ ?_
 ·
  refine go3 ?_;refine gv (cK (k:=.u32) (q:=65536) I I) I (gc2 (λO=>?_) λO=>?_)
  ·
   refine go3 ?_;refine gv (fQ (k:=.u32) (s:=16) (yk:=.u64) I I I (by simp only[ub];omega)) I (go6 ?_);refine zU (x/2^16,16) ?_ e2z I I;exact⟨zot,zot,zEA O⟩
  refine go1 ?_;refine zU (x,0) ?_ e2z I I;exact⟨zot,zot,I⟩
 rintro⟨D,H⟩ ⟨aa,ac,U⟩
 refine yY ?_;refine jM (ι:=Nat×Nat) (λ(C,J)=>C<256/\J<=24/\uU x=uU C+J) (λ(C,J)=>[(0,vU .u32 C),(2,vI ↑J)]) (λ(C,J)=>[]) (λ(C,J)=>h0) ?_ ?_
 ·
  refine go3 ?_;refine gv (cK (k:=.u32) (q:=256) I I) I (gc2 (λM=>?_) λM=>?_)
  ·
   refine go3 ?_;refine gv (fQ (k:=.u32) (s:=8) (yk:=.u64) I I I (by simp only[ub];omega)) I (go8 ?_);refine zU (D/2^8,H+8) ?_ ⟨I,?_,y5i⟩ I I
   · exact⟨zot,zot,by rw[U,zEA (k:=8) M];omega⟩
   · exact y4e (zbi vI oM)
  refine go1 ?_;refine zU (D,H) ?_ e2z I I;exact⟨zot,zot,U⟩
 rintro⟨C,J⟩ ⟨Z,ab,ae⟩
 refine yY ?_;refine go4 ?_;refine gv (tI (k:=.u32) (k':=.u8) (W:=256) underlying124 underlying5 I I I) I ?_;have ad:uU C<=8:=oE (k:=8) oM;refine eP (zLI (λi=>uU i) (C%256) underlying9 I I I (by decide +kernel) (by show C%256<256;omega)) I I I ?_;rw[zoh Z];refine gv (zGX (k:=.u8) underlying5 underlying3 I oM) I (go5 ?_);refine zC I I ?_;exact zbi vI oM
theorem zXM{x:Nat}(hx:x<4294967296):
 y8i 210 #[vU .u32 x] w0 h0 (λ_ r=>r=vI ↑(32-uU x)):=by
 refine cb1 6 (vU .u32 x) func210 hs ?_;refine go8 ?_;refine cL (ev1 I) call197 (λw hs=>zIJ hs oM) λv4 h1 D C=>?_;subst C;have H:uU x<=32:=oE (k:=32) oM;refine gv (qT (p:=32) I I oM oM) I (go4 ?_);refine zC I I ?_;exact zbi vI oM
theorem zB2{v:Value}{xs:List Nat}(hv:Us .u32 h0 v xs)(hl:xs.length<=1099511627776):
 y8i 162 #[v] w0 h0 (λ_ r=>r=vI ↑(uU (val xs))):=by
 refine cb1 20 v func162 hs ?_;refine go8 ?_;refine cL (ev1 I) call196 (λw hs=>jU hs hv) λv4 h1 J C=>?_;replace C:=C.2;replace hv:=hv.mono J;have ab:=qA hv.lt;generalize hA:zB (val xs)=AA at *;have O:val AA=val xs:=by rw[<-hA,zE]
 have U:Fit AA:=C.lt;refine zD0 (λM=>?_) λM=>?_
 ·
  refine go7 ?_;refine zC I I ?_;have h0:AA=[]:=zof oM;rw[<-O,h0];rfl
 refine go6 ?_;have H:0<AA.length:=by omega
 refine go1 ?_;refine gv (gK (p:=32) I I oM oM) I (go4 ?_);refine gv (zV (AA.length-1) underlying27 sizeOf124 I I C oM oM) I (go1 ?_);have aa:=qY U (AA.length-1);have hb:=oE (n:=AA.getD (AA.length-1) 0) (k:=32) oM;refine cL (ev1 I) call197 (λw hs=>zIJ hs oM) λZ h2 ac D=>?_;subst D;refine go5 ?_;refine zC I I ?_;rw[<-O,zD9 U (k:=AA.length-1) oM (by rw[<-hA];exact rD (by rw[hA];exact H))];exact zbi vI oM
theorem zOY{v:Value}{xs:List Nat}(hv:Us .u32 h0 v xs)(hl:xs.length<=2):
 y8i 208 #[v] w0 h0 (λ_ r=>r=vU .u64 (val xs)):=by
 have hf:Fit xs:=hv.lt;refine cb1 21 v func208 hs ?_;refine go2 ?_;refine asg (v:=vU .u64 0) I I (go4 ?_);refine asg (v:=vU .u64 0) I I (qC ?_);have D:val (xs.drop xs.length)=0:=by rw[znu (zbe _)];rfl
 refine gR (ι:=Nat) (λ(j:(Nat))=>j<=xs.length) (λ(j:(Nat))=>[(0,v),(3,vU .u64 (val (xs.drop j))),(4,vI (↑j-1))]) (λ(j:(Nat))=>[]) (λ(j:(Nat))=>h0) (λ(j:(Nat))=>j) xs.length ?_ ⟨?_,?_,?_,y5i⟩ I I ?_
 · exact zbe _
 · exact I
 · exact y4e (zbi (vU .u64) D.symm)
 · exact I
 rintro j J
 refine yY ?_;refine gc7 (λH=>?_) λH=>?_
 ·
  refine go6 ?_;refine gv (fR (k:=.u64) (s:=32) (yk:=.u64) (W:=18446744073709551616) I I I I) I (go2 ?_);refine gv (zV (j-1) underlying27 sizeOf124 I I hv oM oM) I (go1 ?_);have C:=hv.get32 (j-1);refine go1 ?_;refine gv (rX (k:=.u64) I I I (by simp only[ub];omega) (by simp only[ub];omega)) I ?_;rw[cM (by
   have h2:=gG (dT hf j);rw[ziu] at h2;have h3:(4294967296:Nat)^(xs.length-j)<=4294967296^1:=zju oM oM;omega) C]
  refine go9 ?_;refine jW (j-1) ?_ ?_ ⟨I,?_,?_,y5i⟩ I I
  · omega
  · omega
  ·
   rw[kH xs (j-1) oM];exact y4e (zbi (vU .u64) (by rw[show j-1+1=j by omega];omega))
  · exact y4e (zbi vI oM)
 refine qC ?_;refine zC I I ?_;rw[show j=0 by omega];rfl
theorem zWS{v:Value}{xs:List Nat}{b:Nat}(hv:Us .u32 h0 v xs)(hb:0<b)(hb':b<4294967296)(hl:xs.length<=1099511627776):
 y8i 209 #[v,vU .u32 b] w0 h0 (λh r=>∃u,r=.tuple #[u,vU .u32 (val xs%b)]/\Us .u32 h u (zB (val xs/b))):=by
 have hf:Fit xs:=hv.lt;refine cb2 43 v (vU .u32 b) func209 hs ?_;refine go3 ?_;refine asg (v:=vU .u32 0) I I (go6 ?_);refine jB (kd:=.u32) (by':=4) _ underlying27 uW I I I I I I I oM oM I ?_;intro J;refine go5 ?_;refine asg (v:=vU .u64 0) I I (qC ?_);refine gR (ι:=Nat×List Nat×Nat) (λ(j,D,r)=>j<=xs.length/\D.length=xs.length-j/\Fit D/\r<b/\val (xs.drop j)=b*val D+r) (λ(j,D,r)=>[(0,v),(1,vU .u32 b),(6,J),(7,vU .u64 r),(8,vI (↑j-1))]) (λ(j,D,r)=>[.us 124 .u32 J (fJ j D)]) (λ(j,D,r)=>h0) (λ(j,D,r)=>j) (xs.length,[],0) ?_ e5z ?_ I ?_
 · exact⟨zbe _,zo3,λx hx=>by simp at hx,hb,by rw[znu (zbe _)];rfl⟩
 ·
  try dsimp only[List.nil_append,List.cons_append]
  exact zbi (λz=>[Res.us 124 .u32 J z]) (lK _)
 rintro⟨j,D,r⟩ ⟨hj,ac,M,Z,C⟩
 refine yY ?_;refine gc7 (λO=>?_) λO=>?_
 ·
  refine go7 ?_;refine gv (fR (k:=.u64) (s:=32) (yk:=.u64) (W:=18446744073709551616) I I I I) I (go2 ?_);refine gv (zV (j-1) underlying27 sizeOf124 I I hv oM oM) I (go1 ?_);have U:=hv.get32 (j-1);refine go1 ?_;refine gv (rX (k:=.u64) I I I (by simp only[ub];omega) (by simp only[ub];omega)) I ?_;rw[cM oM U];generalize ht:r*4294967296+xs.getD (j-1) 0=t at *;have hq:t/b<4294967296:=z3u (by rw[<-ht];have h1:(r+1)*4294967296<=b*4294967296:=zgi _ Z;omega);refine uR ?_;refine gv (bV (k:=.u64) (W:=18446744073709551616) I I I I oM oM) I (gv (vX (k:=.u64) (k':=.u32) (W:=4294967296) underlying125 underlying124 I I I oM) I (gv (xH (A:=[]) (j-1) underlying27 sizeOf124 I I oM (by rw[jH];omega)) I (vH sizeOf124 I I (by rw[jH];omega) (go6 ?_))));refine gv (bU (k:=.u64) I I oM) I (go9 ?_);refine jW (j-1,t/b::D,t%b) ?_ ?_ ⟨I,I,I,I,?_,y5i⟩ ?_ I
  ·
   refine⟨zot,by simp only[lC];omega,rU.2 ⟨hq,M⟩,zcu _ hb,?_⟩;rw[kH xs (j-1) oM,show j-1+1=j by omega,val];exact zGB C ht.symm I I
  ·
   dsimp only;omega
  · exact y4e (zbi vI oM)
  try dsimp only[List.nil_append,List.cons_append]
  rw[lJ oM]
 refine go8 ?_;have aa:j=0:=by omega
 subst aa;rw[aB];refine yU (by exact M) ?_;intro h1 ae ho;refine cL (ev1 I) call196 (λw hs=>jU hs ho) λab h2 ad H=>?_;replace H:=H.2;refine go1 ?_;refine gv (vX (k:=.u64) (k':=.u32) (W:=4294967296) underlying125 underlying124 I I I oM) I (go5 ?_);refine wY I I I ?_;simp only[ycu] at C;have e1:val xs/b=val D:=by rw[C,Nat.mul_add_div hb,z1i Z];omega
 have e2:val xs%b=r:=by rw[C,Nat.mul_add_mod,zoh Z]
 rw[e1,e2];exact⟨_,I,H⟩
theorem zJ9{v:Value}{xs:List Nat}{s:Nat}(hv:Us .u32 h0 v xs)(hs32:s<32)(hl:xs.length<=1099511627776):
 Calls prog 211 #[v,vI ↑s] w0 (tP w0 h0 (λ_ r L=>∃us,L=[.us 124 .u32 r us]/\us.length=xs.length+1/\Fit us/\val us=val xs*2^s)):=by
 have hf:Fit xs:=hv.lt;have hp:2^s<=2147483648:=zju (n:=2) oM (show s<=31 by omega);have O:0<2^s:=zwi oM;refine cb2 41 v (vI ↑s) func211 hs ?_;refine uR ?_;refine jB (kd:=.u32) (by':=4) (xs.length+1) underlying27 uW I I I I I oM oM oM oM I ?_;intro D;refine go5 ?_;refine asg (v:=vU .u64 0) I I (qE ?_);refine gR (ι:=List Nat×Nat) (λ(C,c)=>C.length<=xs.length/\Fit C/\c<2^s/\val C+4294967296^C.length*c=val (xs.take C.length)*2^s) (λ(C,c)=>[(0,v),(1,vI ↑s),(5,D),(6,vU .u64 c),(13,v),(14,vI ↑xs.length),(15,vI ↑C.length)]) (λ(C,c)=>[.us 124 .u32 D (tZ C (xs.length+1))]) (λ(C,c)=>h0) (λ(C,c)=>xs.length-C.length) ([],0) ?_ e7 I I ?_
 · exact⟨zo3,λx hx=>by simp at hx,O,by simp[val]⟩
 rintro⟨C,c⟩ ⟨aa,J,hc,H⟩
 refine yY ?_;refine gc6 (λM=>?_) λM=>?_
 ·
  refine go7 ?_;refine gv (zV _ underlying27 sizeOf124 I I hv I oM) I (go1 ?_);have Z:=hv.get32 C.length;have U:xs.getD C.length 0*2^s<18446744073709551616-4294967296:=by
   have:=z7u (show xs.getD C.length 0<=4294967295 by omega) hp;omega
  refine uR ?_;refine gv (fR (k:=.u64) (s:=s) (yk:=.i64) (W:=18446744073709551616) I I I I) I ?_;rw[zoh oM];refine gv (rX (k:=.u64) I I I (by simp only[ub];omega) (by simp only[ub];omega)) I ?_;rw[zRI hc];refine go9 ?_;refine gv (xH (A:=[]) _ underlying27 sizeOf124 I I I (by rw[uP oM];omega)) I (vH sizeOf124 I I (by rw[uP oM];omega) (rS ?_));refine jW (C++[(xs.getD C.length 0*2^s+c)%4294967296],(xs.getD C.length 0*2^s+c)/2^32) ?_ ?_ ⟨I,I,I,I,I,I,?_,y5i⟩ ?_ I
  ·
   refine⟨by simp;omega,uT J (aM oM),?_,?_⟩
   · refine z3u ?_
     have:=zgi (2^s) (show xs.getD C.length 0+1<=2^32 by omega);rw[z2u] at this;omega
   · have e:=z8i (xs.getD C.length 0*2^s+c) 4294967296
     have e2:(2:Nat)^32=4294967296:=I;rw[lAz,zke,uX xs _ oM,rN,zni,e2];generalize (xs.getD C.length 0*2^s+c)/4294967296=q at *;generalize (xs.getD C.length 0*2^s+c)%4294967296=r at *;grind
  ·
   dsimp only;simp;omega
  · exact y4e (zbi vI zo3)
  try dsimp only[List.nil_append,List.cons_append]
  rw[pP oM]
 refine qC ?_;refine gv (xH (A:=[]) (xs.length) underlying27 sizeOf124 I I zo5 (by rw[uP oM];omega)) I (vH sizeOf124 I I (by rw[uP oM];omega) (go9 ?_));refine qB I I ?_;have hk:C.length=xs.length:=by omega
 refine⟨C++[c],?_,by simp[hk],uT J (aM oM),?_⟩
 · rw[<-hk,pP oM,aA zo3,zoh oM]
 · rw[rN,H,wH oM]
end
set_option maxHeartbeats 2000000 in
section
variable{w0:World}{h0:Mem}(hs:MLe h0 (mem w0))
include hs
theorem zFH{v v':Value}{xs ys:List Nat}(hv:Us .u32 h0 v xs)(hv':Us .u32 h0 v' ys)(hl:xs.length<=1099511627776)(hl':ys.length<=1099511627776):
 y8i 190 #[v,v'] w0 h0 (λh z=>∃q r,z=.tuple #[q,r,vI (if val ys=0 then 3 else 0)]/\Us .u32 h q (zB (val xs/val ys))/\Us .u32 h r (zB (if val ys=0 then 0 else val xs%val ys))):=by
 have er:Fit xs:=hv.lt;have eq:Fit ys:=hv'.lt;have gf:=qA er;have ge:=qA eq;refine cb2 300 v v' func190 hs ?_;refine wA (yI (asg I I (asg I I (asg (v:=vI (0)) I I (wN (yX (wA (yI (mv I I (cL (ev1 I) call196 (λw hs=>jU hs hv) λfu h1 en H=>?_))))))))));replace H:=H.2;refine mv I I ?_;replace hv':=hv'.mono en;refine cL (ev1 I) call196 (λw hs=>jU hs hv') λft h2 em D=>?_;replace D:=D.2;refine asg I I (asg I I (wN (yX (wA (fY (wA (yI (mv I I (gv (vW underlying27 I D) I (gv (rR (q:=0) I I) I (asg I I (wN (gQ (e':=[(0,_),(1,_),(30,_)]) e3z ?_)))))))))))));refine yX ?_;refine cnd (λdu=>?_) λdu=>?_
 ·
  have ea:val ys=0:=zdu λej=>by have:=yP.2 ej;omega
  refine wA (yI (asg I I (asg I I (asg (v:=vI (3)) I I (wN (yX (zH0 (zT7 (zFR (qU I I I I ?_))))))))));rw[ea,Nat.div_zero,zau I,zau I,xM];exact⟨_,_,I,Us.nil _ _,Us.nil _ _⟩
 have ay:val ys≠0:=yP.1 oM;refine wA (yI (mv I I (mv I I ?_)));replace H:=H.mono em;refine cL (ev2 I I) call204 (λw hs=>zFI hs H D) λfs h3 bk de=>?_;subst de;rw[zE,zE];refine gv (yS (q:=0) I I) I (asg I I (wN (yX ?_)));refine cnd (λbf=>?_) λbf=>?_
 ·
  have di:=rV.1 bf;refine wA (yI (mv I I ?_));replace H:=H.mono bk;refine uY (vs:=[_]) I I I I call207 ⟨I,y5i⟩ (λw hs=>zGC hs H oM) ?_;intro fr h4 gx bj dd;obtain rfl:=dd;refine asg I I (asg I I (yU (by exact wU _) ?_));intro h5 bi ho;refine asg (v:=vI (0)) I I (wN (gQ (e':=[(4,_),(5,_),(6,_)]) e3z (yX (zH0 (zT7 (zFR (qU I I I I ?_)))))));rw[z1i di,zoh di,zae oM,zae oM,xM];exact⟨_,_,I,Us.nil _ _,ho⟩
 have ep:val ys<=val xs:=yfe λhc=>bf (rV.2 hc);refine wA (yI (mv I I ?_));replace D:=D.mono bk;refine gv (vW underlying27 I D) I (gv (rR (q:=1) I I) I (asg I I (wN (yX ?_))));refine cnd (λdt=>?_) λdt=>?_
 ·
  have bq:(zB (val ys)).length=1:=by omega
  have dv:(zB (val ys)).getD 0 0≠0:=by have:=rD (n:=val ys) oM;rwa [bq] at this
  have bs:=zA5 bq;rw[zE] at bs;refine zT9 (e':=[(0,_),(1,_)]) e2z (wA (yI (mv I I (mv I I (gv (zV (q:=0) (0) underlying27 sizeOf124 I I D I oM) I (gv (wB isAgg124 I D oM) I ?_))))));have cg:=D.get32 0;replace H:=H.mono bk;refine cL (ev2 I I) call209 (λw hs=>zWS hs H oM oM oM) λfq h4 bj dc=>?_;obtain⟨fv,rfl,aq⟩:=dc;refine mv I I (gv (sP (vs:=[_,_]) I I) I (gv (sP (vs:=[_,_]) I I) I (asg I I (asg I I (wN (gQ (e':=[(7,_),(8,_)]) e2z (yX (wA (yI (mv I I (mv I I (zG (pM (kd:=.u32) underlying27 uW I I I) I I I ?_))))))))))));intro fp fw db;obtain rfl:=db;refine yU (by intro z hz;simp only[zui] at hz;subst hz;exact Nat.lt_trans (zcu _ oM) cg) ?_;intro h5 bi dp;refine cL (ev1 I) call196 (λw hs=>jU hs dp) λfo h6 dl ar=>?_;replace ar:=ar.2;refine asg I I (asg I I (asg (v:=vI (0)) I I (wN (yX (zH0 (zT7 (zFR (qU I I I I ?_))))))));replace aq:=aq.mono (bi.trans dl);rw[zE,<-bs] at aq;rw[zA5 I,List.getD_cons_zero,zE,<-bs] at ar;rw[zae oM,zae oM];exact⟨_,_,I,aq,ar⟩
 have df:2<=(zB (val ys)).length:=by omega
 refine zT9 (e':=[(0,_),(1,_)]) e2z (rZ (zCG (yX (wA (yI (mv I I (mv I I (gv (vW underlying27 I D) I (gv (qT (q:=1) I I oM oM) I (gv (zV ((zB (val ys)).length-1) underlying27 sizeOf124 I I D oM oM) I (gv (wB isAgg124 I D oM) I ?_)))))))))));have hgt:=D.get32 ((zB (val ys)).length-1);refine cL (ev1 I) call210 (λw hs=>zXM hs oM) λfm h4 bj da=>?_;subst da;obtain⟨s,cu⟩:∃s,s=32-uU ((zB (val ys)).getD ((zB (val ys)).length-1) 0):=⟨_,I⟩;rw[<-cu];obtain⟨ff,av,ee⟩:=zG9 (k:=(zB (val ys)).length-1) ay oM cu;refine asg I I (wN (yX (wA (yI (mv I I (mv I I ?_))))));replace H:=H.mono (bk.trans bj);refine uY (vs:=[_,_]) I I I I call211 e2z (λw hs=>zJ9 hs H oM oM) ?_;intro O h5 gw bi cz;obtain⟨bn,rfl,bb,bc,ah⟩:=cz;refine mv I I (mv I I ?_);replace D:=D.mono (bj.trans bi);refine uY (vs:=[_,_]) I I I I call211 e2z (λw hs=>zJ9 hs D oM oM) ?_;intro fl h6 gu dl cy;obtain⟨fd,rfl,ef,bv,bu⟩:=cy;refine yU (by exact bv) ?_;intro h7 gi ed;refine cL (ev1 I) call196 (λw hs=>jU hs ed) λai h8 gh C=>?_;replace C:=C.2;rw[bu,zE] at C;refine asg I I (asg I I ?_);rw[zE] at ah;have fg:=yL ep;have br:=gG (wU (val xs));rw[zE] at br;have ev:=rJ (n:=val ys) (k:=(zB (val ys)).length-1) oM;have bx:=zXG bc br ah (k:=(zB (val ys)).length-1) oM ev;rw[show(zB (val xs)).length-((zB (val ys)).length-1)=(zB (val xs)).length+1-(zB (val ys)).length by omega] at bx;have az:=zE (val ys*2^s);have bl:Fit (zB (val ys*2^s)):=wU _;replace av:(zB (val ys*2^s)).length=(zB (val ys)).length:=by omega
 generalize zB (val ys*2^s)=vs at *;generalize gc:(zB (val ys)).length=n at *;generalize fh:(zB (val xs)).length=la at *;obtain⟨V,hV⟩:∃V,V=val ys*2^s:=⟨_,I⟩;obtain⟨U,hU⟩:∃U,U=val xs*2^s:=⟨_,I⟩;rw[<-hV] at az bx;rw[<-hU] at ah;have ew:V<4294967296^n:=by rw[<-az,<-av];exact gG bl
 have ao:=zS3 df av;rw[az] at ao;have ba:=gG (fZ bl (n-2));rw[zei,ztu oM] at ba;have bt:=qY bl (n-2);have cp:=qY bl (n-1);refine wN (gQ (e':=[(9,_),(10,_),(11,_)]) e3z (yX (wA (yI (mv I I (gv (vW underlying27 I C) I ?_))))));rw[av];refine asg I I (wN (yX (wA (yI (mv I I (gv (pG (A:=[]) underlying27 I) I ?_))))));rw[bb];refine mv I I (gv (qT I I oM oM) I (jB (kd:=.u32) (by':=4) (la+1-n) underlying27 uW I I I I I oM oM oM oM I ?_));intro M;refine asg I I (wN (yX (wA (wA (yI (mv I I (gv (pG (A:=[]) underlying27 I) I ?_)))))));rw[lR];refine gv (qT (q:=1) I I oM oM) I (asg I I (wN (gQ (e':=[(9,_),(10,_),(11,_),(12,_),(4,_),(13,_)]) e6 (yX (fY ?_)))));refine gR (ι:=Nat×List Nat×List Nat) (λ(J,us,qs)=>J<=la+1-n/\qs.length=la+1-n-J/\Fit qs/\us.length=la+1/\Fit us/\val us+4294967296^J*(val qs*V)=U/\val (us.drop J)<V) (λ(J,us,qs)=>[(4,M),(9,vI ↑s),(10,O),(11,ai),(12,vI ↑n),(13,vI (↑J-1))]) (λ(J,us,qs)=>[.us 124 .u32 M (fJ J qs),.us 124 .u32 O us]) (λ(J,us,qs)=>h8) (λ(J,us,qs)=>J) (la+1-n,bn,[]) ?_ e6 ?_ I ?_
 · exact⟨zbe _,zo3,λx hx=>by simp at hx,bb,bc,by rw[ah];simp[val],bx⟩
 ·
  try dsimp only[List.nil_append,List.cons_append]
  exact zbi (λz=>[Res.us 124 .u32 M z,Res.us 124 .u32 O bn]) (lK _)
 rintro⟨J,us,qs⟩ ⟨fk,ga,dq,eg,aa,ap,ca⟩
 refine yY ?_;refine wA (wA (yI (mv I I (gv (bW (q:=0) I I) I (wN (yX ?_))))));refine cnd (λdr=>?_) λdr=>?_
 ·
  refine rZ (yX (wA (fY (wA ?_))));have hJ:1<=J:=by omega
  have ci:∀i,J+n<=i->us.getD i 0=0:=λi hi=>iG (zF0 aa (Nat.lt_trans ca ew)) hi;obtain⟨wr,hW,cn⟩:=zJF (j:=J-1) df (λi hi=>ci i oM) aa;have go:=qY aa (J-1+n);have gn:=qY aa (J-1+n-1);have eu:=qY aa (J-1+n-2);have gq:=qY aa (J-1);have dw:val (us.drop (J-1))<4294967296*V:=by
   rw[kH us (J-1) oM,zzi hJ];omega
  refine zJ 18 _ [] (zai 0 18 []) zX nX zou nX (λr hr=>hr) (mE I I I (mE I I I (mE I I I (wZ I (λ_ _=>yD I I oM oM) I (w_q I (λh' L' hh hR=>fG (hR _ mh1) (J-1+n) underlying27 sizeOf124 I I oM oM) I (w_q I (λh' L' hh hR=>sY (hR _ mh1) isAgg124 I oM) I (wZ I (λ_ _=>vX (k:=.u32) (k':=.u64) (W:=18446744073709551616) underlying124 underlying125 I I I oM) I (wZ I (λ_ _=>fR (k:=.u64) (s:=32) (yk:=.u64) (W:=18446744073709551616) I I I I) I (mE I I I (mE I I I (mE I I I (wZ I (λ_ _=>yD I I oM oM) I (wZ I (λ_ _=>qT (q:=1) I I oM oM) I ?_)))))))))))));refine w_q I (λh' L' hh hR=>fG (hR _ mh1) (J-1+n-1) underlying27 sizeOf124 I I oM oM) I (w_q I (λh' L' hh hR=>sY (hR _ mh1) isAgg124 I oM) I (wZ I (λ_ _=>vX (k:=.u32) (k':=.u64) (W:=18446744073709551616) underlying124 underlying125 I I I oM) I (wZ I (λ_ _=>rX (k:=.u64) I I I (by simp only[ub];omega) (by simp only[ub];omega)) I ?_)));rw[cM oM oM];obtain⟨top,bo⟩:∃t,t=us.getD (J-1+n) 0*4294967296+us.getD (J-1+n-1) 0:=⟨_,I⟩;rw[<-bo];rw[<-bo] at hW;have am:=yGI ao hW ba bt dw;refine zXV I I I (zFY (gQ (e':=[(4,_),(9,_),(10,_),(11,_),(12,_),(13,_),(14,_)]) e7 (yX (wA ?_))));refine zJ 18 _ [] (zai 0 18 []) zX nX zou nX (λr hr=>hr) (mE I I I (mE I I I (mE I I I (wZ I (λ_ _=>qT (q:=1) I I oM oM) I (w_q I (λh' L' hh hR=>zV (n-1) underlying27 sizeOf124 I I (C.mono hh) oM oM) I (w_q I (λh' L' hh hR=>wB isAgg124 I (C.mono hh) oM) I (wZ I (λ_ _=>vX (k:=.u32) (k':=.u64) (W:=18446744073709551616) underlying124 underlying125 I I I oM) I (wZ I (λ_ _=>bV (k:=.u64) (W:=18446744073709551616) I I I I oM oM) I (mE I I I (mE I I I (mE I I I (wZ I (λ_ _=>qT (q:=1) I I oM oM) I (w_q I (λh' L' hh hR=>zV (n-1) underlying27 sizeOf124 I I (C.mono hh) oM oM) I ?_)))))))))))));refine w_q I (λh' L' hh hR=>wB isAgg124 I (C.mono hh) oM) I (wZ I (λ_ _=>vX (k:=.u32) (k':=.u64) (W:=18446744073709551616) underlying124 underlying125 I I I oM) I (wZ I (λ_ _=>bU (k:=.u64) I I oM) I (zXV I I I (zXV I I I (zFY (gQ (e':=[(4,_),(9,_),(10,_),(11,_),(12,_),(13,_),(15,_),(16,_)]) e8 (yX ?_)))))));refine jM (ι:=Nat) (λ(x1:(Nat))=>x1<4294967296/\val (us.drop (J-1))<(x1+1)*V/\x1*V<val (us.drop (J-1))+V) (λ(x1:(Nat))=>[(4,M),(9,vI ↑s),(10,O),(11,ai),(12,vI ↑n),(13,vI (↑J-1)),(15,vU .u64 x1)]) (λ(x1:(Nat))=>[.us 124 .u32 M (fJ J qs),.us 124 .u32 O us]) (λ(x1:(Nat))=>h8) ?_ ?_
  ·
   refine fY ?_;refine gcL (ι:=Nat×Nat) (λ(x,r)=>(x*vs.getD (n-1) 0+r=top/\val (us.drop (J-1))<(x+1)*V/\r<4294967296,[(4,M),(9,vI ↑s),(10,O),(11,ai),(12,vI ↑n),(13,vI (↑J-1)),(15,vU .u64 x),(16,vU .u64 r)],[.us 124 .u32 M (fJ J qs),.us 124 .u32 O us],h8,x)) (top/vs.getD (n-1) 0,top%vs.getD (n-1) 0) ?_ ?_
   · exact⟨by rw[zyu];exact z8i _ _,zPM ao hW eu cn oM,Nat.lt_trans (zcu _ oM) cp⟩
   rintro⟨x,r⟩ ⟨ak,eb,fz⟩
   refine yY ?_;have ec:=yLM ak am ee;have fy:x*vs.getD (n-2) 0<=4294967297*4294967295:=z7u ec oM;refine wA (wA ?_);refine yCJ (4294967296<=x) (λhg=>?_) (λhg=>?_)
   ·
    have ae:1<=x:=by omega
    have aj:val (us.drop (J-1))<x*V:=zme dw (zgi _ hg);refine zJ 24 _ [] (zai 0 24 []) zX nX zou nX (λr hr=>hr) (mE I I I (wZ I (λ_ _=>cK (k:=.u64) (q:=4294967296) I I) I (wZ I (λ_ _=>xG (v:=.bool true) (y4e (xW hg))) I (kC I I I I I (kC I I I I I (kC I I I I I (kC I I I I I (kC I I I I I (kC I I I I I (kC I I I I I (kC I I I I I (kC I I I I I (kC I I I I I ?_)))))))))))));refine kC I I I I I (kC I I I I I (kC I I I I I (kC I I I I I (kC I I I I I (kC I I I I I (kC I I I I I (kC I I I I I (kC I I I I I (kC I I I I I (wZ I (λ_ _=>mP I I) I (zFY (gQ (e':=[(4,_),(9,_),(10,_),(11,_),(12,_),(13,_),(15,_),(16,_),(141,_)]) ⟨I,I,I,I,I,I,I,I,I,y5i⟩ (yX ?_)))))))))))));refine zKF I (rZ (yX (fY (wA (yI (mv I I (gv (lE (k:=.u64) (q:=1) (W:=18446744073709551616) I I I I oM oM) I (asg I I (wN (yX (wA (yI (mv I I ?_)))))))))))));refine mv I I (mv I I (gv (qT (q:=1) I I oM oM) I (gv (zV (n-1) underlying27 sizeOf124 I I C oM oM) I (gv (wB isAgg124 I C oM) I (gv (vX (k:=.u32) (k':=.u64) (W:=18446744073709551616) underlying124 underlying125 I I I oM) I (gv (sQ (k:=.u64) (W:=18446744073709551616) I I I I oM) I (asg I I (wN (gQ (e':=[(4,_),(9,_),(10,_),(11,_),(12,_),(13,_),(15,_),(16,_)]) e8 (yX (wA (yI (mv I I ?_)))))))))))));refine gv (cK (k:=.u64) (q:=4294967296) I I) I (wN (yX ?_));refine cnd (λad=>?_) λad=>?_
    ·
     refine nN (zMP I (rG (nL ?_)));refine zU (x-1) ?_ e7 I I;obtain⟨b1,b2⟩:=zKI (x:=x-1) ao hW ba bt (zCN ak ae) ad am oM;exact⟨b1,by rw[zzi ae];exact aj,zot⟩
    refine rZ (zCG ?_);refine gqL (x-1,r+vs.getD (n-1) 0) ?_ ?_
    · exact⟨zCN ak ae,by rw[zzi ae];exact aj,zot⟩
    omega
   refine zJ 24 _ [] (zai 0 24 []) zX nX zou nX (λr hr=>hr) (mE I I I (wZ I (λ_ _=>cK (k:=.u64) (q:=4294967296) I I) I (wZ I (λ_ _=>xG (v:=.bool false) (y4e (yM hg))) I (yV I I I (λh' L' hh hR=>xG I) I (yV I I I (λh' L' hh hR=>xG I) I (yV I I I (λh' L' hh hR=>xG I) I (yV I I I (λh' L' hh hR=>qT (q:=2) I I oM oM) I (yV I I I (λh' L' hh hR=>zV (n-2) underlying27 sizeOf124 I I (C.mono hh) oM oM) I (yV I I I (λh' L' hh hR=>wB isAgg124 I (C.mono hh) oM) I (yV I I I (λh' L' hh hR=>vX (k:=.u32) (k':=.u64) (W:=18446744073709551616) underlying124 underlying125 I I I oM) I (yV I I I (λh' L' hh hR=>iZ (k:=.u64) (W:=18446744073709551616) I I I I oM) I (yV I I I (λh' L' hh hR=>xG I) I (yV I I I (λh' L' hh hR=>fR (k:=.u64) (s:=32) (yk:=.u64) (W:=18446744073709551616) I I I I) I ?_)))))))))))));refine yV I I I (λh' L' hh hR=>xG I) I (yV I I I (λh' L' hh hR=>xG I) I (yV I I I (λh' L' hh hR=>xG I) I (yV I I I (λh' L' hh hR=>yD I I oM oM) I (yV I I I (λh' L' hh hR=>qT (q:=2) I I oM oM) I (yV I I I (λh' L' hh hR=>fG (hR _ mh1) (J-1+n-2) underlying27 sizeOf124 I I oM oM) I (yV I I I (λh' L' hh hR=>sY (hR _ mh1) isAgg124 I oM) I (yV I I I (λh' L' hh hR=>vX (k:=.u32) (k':=.u64) (W:=18446744073709551616) underlying124 underlying125 I I I oM) I (yV I I I (λh' L' hh hR=>rX (k:=.u64) I I I (by simp only[ub];omega) (by simp only[ub];omega)) I ?_))))))));rw[cM oM oM];refine yV I I I (λh' L' hh hR=>mT (k:=.u64) I I) I (wZ I (λ_ _=>mQ I I) I (zFY (gQ (e':=[(4,_),(9,_),(10,_),(11,_),(12,_),(13,_),(15,_),(16,_),(141,_)]) ⟨I,I,I,I,I,I,I,I,I,y5i⟩ (yX ?_))));refine cnd (λan=>?_) λan=>?_
   ·
    have ae:1<=x:=zii λh0=>by rw[h0,zwe] at an;omega
    have aj:val (us.drop (J-1))<x*V:=yGJ ao hW cn ak an;refine rZ (yX (fY (wA (yI (mv I I (gv (lE (k:=.u64) (q:=1) (W:=18446744073709551616) I I I I oM oM) I (asg I I (wN (yX (wA (yI (mv I I (mv I I ?_)))))))))))));refine mv I I (gv (qT (q:=1) I I oM oM) I (gv (zV (n-1) underlying27 sizeOf124 I I C oM oM) I (gv (wB isAgg124 I C oM) I (gv (vX (k:=.u32) (k':=.u64) (W:=18446744073709551616) underlying124 underlying125 I I I oM) I (gv (sQ (k:=.u64) (W:=18446744073709551616) I I I I oM) I (asg I I (wN (gQ (e':=[(4,_),(9,_),(10,_),(11,_),(12,_),(13,_),(15,_),(16,_)]) e8 (yX (wA (yI (mv I I (gv (cK (k:=.u64) (q:=4294967296) I I) I ?_)))))))))))));refine wN (yX ?_);refine cnd (λad=>?_) λad=>?_
    ·
     refine nN (zMP I (rG (nL ?_)));refine zU (x-1) ?_ e7 I I;obtain⟨b1,b2⟩:=zKI (x:=x-1) ao hW ba bt (zCN ak ae) ad am oM;exact⟨b1,by rw[zzi ae];exact aj,zot⟩
    refine rZ (zCG ?_);refine gqL (x-1,r+vs.getD (n-1) 0) ?_ ?_
    · exact⟨zCN ak ae,by rw[zzi ae];exact aj,zot⟩
    omega
   refine nN (rG (rG (nL ?_)));refine zU (x) ?_ e7 I I;exact⟨zot,eb,yCT ao hW ba oM ak oM oM⟩
  rintro x1 ⟨cm,cj,ck⟩
  refine yY ?_;refine wA (yI (asg (v:=vU .u64 0) I I (asg (v:=vU .u64 0) I I (wN (yX (wA (wA (yI (mv I I (gv (vW underlying27 I C) I ?_))))))))));rw[av];refine mv (v:=vI (0)) I I (wN (yX (fY ?_)));refine gR (ι:=Nat×List Nat×Nat×Nat) (λ(i,ts,b,c)=>i<=n/\ts.length=la+1/\Fit ts/\c<4294967296/\b<=1/\val ts+4294967296^(J-1)*(x1*val (vs.take i))=val us+4294967296^(J-1+i)*(c+b)/\∀k,J-1+i<=k->ts.getD k 0=us.getD k 0) (λ(i,ts,b,c)=>[(4,M),(9,vI ↑s),(10,O),(11,ai),(12,vI ↑n),(13,vI (↑J-1)),(15,vU .u64 x1),(17,vU .u64 b),(18,vU .u64 c),(154,ai),(155,vI ↑n),(156,vI ↑i)]) (λ(i,ts,b,c)=>[.us 124 .u32 M (fJ J qs),.us 124 .u32 O ts]) (λ(i,ts,b,c)=>h8) (λ(i,ts,b,c)=>n-i) (0,us,0,0) ?_ e12 I I ?_
  · exact⟨zot,eg,aa,zot,zot,by simp[val],λ_ _=>I⟩
  rintro⟨i,ts,b,c⟩ ⟨dk,cq,bm,gj,gm,bd,ct⟩
  refine yY ?_;refine wA (yI (gv (yS I I) I (wN (yX (wA ?_)))));refine cnd (λcf=>?_) λcf=>?_
  ·
   refine rZ (yX (wA (fY (wA (yI (mv I I (gv (zV _ underlying27 sizeOf124 I I C I oM) I (gv (wB isAgg124 I C oM) I ?_))))))));have dz:=C.get32 i;have fx:x1*vs.getD i 0<=4294967295*4294967295:=z7u oM oM;refine asg I I (asg I I (wN (yX (wA (yI (mv I I (mv I I (mv I I (gv (vX (k:=.u32) (k':=.u64) (W:=18446744073709551616) underlying124 underlying125 I I I oM) I (gv (iZ (k:=.u64) (W:=18446744073709551616) I I I I oM) I (gv (sQ (k:=.u64) (W:=18446744073709551616) I I I I oM) I (asg I I (wN ?_)))))))))))));refine gQ (e':=[(4,_),(9,_),(10,_),(11,_),(12,_),(13,_),(15,_),(17,_),(154,_),(155,_),(156,_),(19,_),(18,_)]) ⟨I,I,I,I,I,I,I,I,I,I,I,I,I,y5i⟩ (yX (wA (yI (mv I I (mv I I (mv I I (gv (yD I I oM oM) I (gv (xH (A:=[_]) (J-1+i) underlying27 sizeOf124 I I oM oM) I (gv (tC (A:=[_]) isAgg124 I oM) I ?_)))))))));have bw:=qY bm (J-1+i);refine gv (vX (k:=.u32) (k':=.u64) (W:=18446744073709551616) underlying124 underlying125 I I I oM) I (mv I I (gv (zZ5 (k:=.u64) (q:=4294967295) I I I (by simp only[ub];omega) (by simp only[ub];omega)) I ?_));rw[yDW];refine gv (mO (k:=.u64) (W:=18446744073709551616) I I I I oM) I (mv I I (gv (mO (k:=.u64) (W:=18446744073709551616) I I I I oM) I (asg I I (wN (gQ (e':=[(4,_),(9,_),(10,_),(11,_),(12,_),(13,_),(15,_),(154,_),(155,_),(156,_),(19,_),(18,_),(21,_)]) ⟨I,I,I,I,I,I,I,I,I,I,I,I,I,y5i⟩ (yX (wA (yI (mv I I (mv I I (mv I I (gv (yD I I oM oM) I (mv I I ?_)))))))))))));refine gv (tI (k:=.u64) (k':=.u32) (W:=4294967296) underlying125 underlying124 I I I) I (gv (xH (A:=[_]) (J-1+i) underlying27 sizeOf124 I I oM oM) I (rT sizeOf124 I I oM (wN (yX (wA (yI (mv I I (gv (fQ (k:=.u64) (s:=63) (yk:=.u64) I I I (by simp only[ub];omega)) I (asg I I (wN (gQ (e':=[(4,_),(9,_),(10,_),(11,_),(12,_),(13,_),(15,_),(154,_),(155,_),(156,_),(18,_),(17,_)]) e12 (yX (yI ?_)))))))))))));refine mv I I (gv (fQ (k:=.u64) (s:=32) (yk:=.u64) I I I (by simp only[ub];omega)) I (asg I I (wN (zCG (yX (yI (gv (yD (q:=1) I I oM oM) I (mv I I (wN ?_)))))))));generalize hX:ts.getD (J-1+i) 0=X at *;generalize hY:vs.getD i 0=Y at *;refine jW (i+1,ts.set (J-1+i) (((X+18446744073709551616-(c+x1*Y)%4294967296)%18446744073709551616+18446744073709551616-b)%18446744073709551616%4294967296),((X+18446744073709551616-(c+x1*Y)%4294967296)%18446744073709551616+18446744073709551616-b)%18446744073709551616/2^63,(c+x1*Y)/2^32) ?_ ?_ e12 I I
   ·
    refine⟨zot,by simp[cq],nO bm _ oM,zot,zot,?_,λk hk=>?_⟩
    · have h1:=nC (xs:=ts) (i:=J-1+i) oM (((X+18446744073709551616-(c+x1*Y)%4294967296)%18446744073709551616+18446744073709551616-b)%18446744073709551616%4294967296)
      rw[hX] at h1;rw[uX vs i oM,hY,<-z3e (J-1),zni,zne];rw[zne] at h1 bd;exact yFQ (l:=(c+x1*Y)%4294967296) bd h1 oM oM
    · rw[jL oM];exact ct k oM
   dsimp only;omega
  refine nN (rG (rG (nL (yX (wA (yI (mv I I (mv I I (mv I I (gv (yD I I oM oM) I (gv (xH (A:=[_]) (J-1+n) underlying27 sizeOf124 I I oM oM) I (gv (tC (A:=[_]) isAgg124 I oM) I ?_))))))))))));have bw:=qY bm (J-1+n);refine gv (vX (k:=.u32) (k':=.u64) (W:=18446744073709551616) underlying124 underlying125 I I I oM) I (mv I I (gv (mO (k:=.u64) (W:=18446744073709551616) I I I I oM) I (mv I I (gv (mO (k:=.u64) (W:=18446744073709551616) I I I I oM) I ?_))));obtain⟨d2,es⟩:∃d,d=((ts.getD (J-1+n) 0+18446744073709551616-c)%18446744073709551616+18446744073709551616-b)%18446744073709551616:=⟨_,I⟩;rw[<-es];refine asg I I (wN (gQ (e':=[(4,_),(9,_),(10,_),(11,_),(12,_),(13,_),(15,_),(22,_)]) e8 (yX (wA (yI (mv I I (mv I I (mv I I (gv (yD I I oM oM) I (mv I I (gv (tI (k:=.u64) (k':=.u32) (W:=4294967296) underlying125 underlying124 I I I) I (gv (xH (A:=[_]) (J-1+n) underlying27 sizeOf124 I I oM oM) I (rT sizeOf124 I I oM ?_)))))))))))));have dk:i=n:=by omega
  rw[dk,wH oM,az] at bd;have co:=nC (xs:=ts) (i:=J-1+n) oM (d2%4294967296);have bp:(ts.set (J-1+n) (d2%4294967296)).length=la+1:=by simp[cq]
  have au:Fit (ts.set (J-1+n) (d2%4294967296)):=nO bm _ oM;have ch:∀k,J-1+n+1<=k->(ts.set (J-1+n) (d2%4294967296)).getD k 0=0:=λk hk=>by rw[jL oM,ct k oM];exact ci k oM
  generalize ts.set (J-1+n) (d2%4294967296)=ts2 at *;have ab:val ts2+4294967296^(J-1)*(x1*V)=val us+4294967296^(J-1+n+1)*(d2/2^63):=by
   rw[zni,zne];rw[zne] at co bd;exact yKP bd co oM
  have dh:=iM au ch;refine wN (yX ?_);refine jM (ι:=Nat×List Nat) (λ(x2,rs)=>x2<4294967296/\rs.length=la+1/\Fit rs/\val rs+4294967296^(J-1)*(x2*V)=val us/\val (rs.drop (J-1))<V) (λ(x2,rs)=>[(4,M),(9,vI ↑s),(10,O),(11,ai),(12,vI ↑n),(13,vI (↑J-1)),(15,vU .u64 x2)]) (λ(x2,rs)=>[.us 124 .u32 M (fJ J qs),.us 124 .u32 O rs]) (λ(x2,rs)=>h8) ?_ ?_
  ·
   refine wA (yI (mv I I (gv (fQ (k:=.u64) (s:=63) (yk:=.u64) I I I (by simp only[ub];omega)) I (gv (tU (k:=.u64) (q:=0) I I) I (wN (gQ (e':=[(4,_),(9,_),(10,_),(11,_),(12,_),(13,_),(15,_),(211,_)]) e8 (yX ?_)))))));refine cnd (λce=>?_) λce=>?_
   ·
    have fe:1<=x1:=zii λh0=>by
     have cg:d2/2^63=1:=by omega
     rw[h0,cg,zwe,z9i,z6e] at ab;omega
    refine wA (yI (mv I I (gv (lE (k:=.u64) (q:=1) (W:=18446744073709551616) I I I I oM oM) I (asg I I (wN (yX (wA (yI (asg (v:=vU .u64 0) I I (wN (yX (wA (wA ?_)))))))))))));refine yI (mv I I (gv (vW underlying27 I C) I ?_));rw[av];refine mv (v:=vI (0)) I I (wN (yX (fY ?_)));refine gcL (ι:=Nat×List Nat×Nat) (λ(i2,rs,c2)=>(i2<=n/\rs.length=la+1/\Fit rs/\c2<=1/\val rs+4294967296^(J-1+i2)*c2=val ts2+4294967296^(J-1)*val (vs.take i2)/\∀k,J-1+i2<=k->rs.getD k 0=ts2.getD k 0,[(4,M),(9,vI ↑s),(10,O),(11,ai),(12,vI ↑n),(13,vI (↑J-1)),(15,vU .u64 (x1-1)),(18,vU .u64 c2),(214,ai),(215,vI ↑n),(216,vI ↑i2)],[.us 124 .u32 M (fJ J qs),.us 124 .u32 O rs],h8,n-i2)) (0,ts2,0) ?_ ?_
    · exact⟨zot,bp,au,zot,by simp[val],λ_ _=>I⟩
    rintro⟨i2,rs,c2⟩ ⟨hi2,bh,aw,gk,bg,cv⟩
    refine yY ?_;refine wA (yI (gv (yS I I) I (wN (yX (wA ?_)))));refine cnd (λcd=>?_) λcd=>?_
    ·
     refine rZ (yX (wA (fY (wA (yI (mv I I (gv (zV _ underlying27 sizeOf124 I I C I oM) I (gv (wB isAgg124 I C oM) I ?_))))))));have dz:=C.get32 i2;refine asg I I (asg I I (wN (yX (wA (yI (mv I I (mv I I (mv I I (mv I I (gv (yD I I oM oM) I (gv (xH (A:=[_]) (J-1+i2) underlying27 sizeOf124 I I oM oM) I (gv (tC (A:=[_]) isAgg124 I oM) I ?_))))))))))));have bw:=qY aw (J-1+i2);refine gv (vX (k:=.u32) (k':=.u64) (W:=18446744073709551616) underlying124 underlying125 I I I oM) I (mv I I (gv (vX (k:=.u32) (k':=.u64) (W:=18446744073709551616) underlying124 underlying125 I I I oM) I (gv (sQ (k:=.u64) (W:=18446744073709551616) I I I I oM) I (gv (sQ (k:=.u64) (W:=18446744073709551616) I I I I oM) I (asg I I (wN (gQ (e':=[(4,_),(9,_),(10,_),(11,_),(12,_),(13,_),(15,_),(214,_),(215,_),(216,_),(23,_),(18,_)]) e12 (yX (wA (yI (mv I I (mv I I (mv I I ?_)))))))))))));refine gv (yD I I oM oM) I (mv I I (gv (tI (k:=.u64) (k':=.u32) (W:=4294967296) underlying125 underlying124 I I I) I (gv (xH (A:=[_]) (J-1+i2) underlying27 sizeOf124 I I oM oM) I (rT sizeOf124 I I oM (wN (yX (yI (mv I I (gv (fQ (k:=.u64) (s:=32) (yk:=.u64) I I I (by simp only[ub];omega)) I (asg I I (wN (zCG (gQ (e':=[(4,_),(9,_),(10,_),(11,_),(12,_),(13,_),(15,_),(214,_),(215,_),(216,_),(18,_)]) ⟨I,I,I,I,I,I,I,I,I,I,I,y5i⟩ ?_)))))))))))));refine yX (yI (gv (yD (q:=1) I I oM oM) I (mv I I (wN ?_))));generalize hX:rs.getD (J-1+i2) 0=X at *;generalize hY:vs.getD i2 0=Y at *;refine gqL (i2+1,rs.set (J-1+i2) ((c2+(X+Y))%4294967296),(c2+(X+Y))/2^32) ?_ ?_
     ·
      refine⟨zot,by simp[bh],nO aw _ oM,zot,?_,λk hk=>?_⟩
      · have h1:=nC (xs:=rs) (i:=J-1+i2) oM ((c2+(X+Y))%4294967296)
        rw[hX] at h1;rw[uX vs i2 oM,hY,<-z3e (J-1),zni,zne];rw[zne] at h1 bg;exact yGZ bg h1 oM
      · rw[jL oM];exact cv k oM
     omega
    refine nN (rG (rG (nL (yX (yI (mv I I (mv I I (mv I I (gv (yD I I oM oM) I (gv (xH (A:=[_]) (J-1+n) underlying27 sizeOf124 I I oM oM) I (gv (tC (A:=[_]) isAgg124 I oM) I (mv I I (gv (tI (k:=.u64) (k':=.u32) (W:=4294967296) underlying125 underlying124 I I I) I ?_)))))))))))));have bw:=qY aw (J-1+n);refine gv (zV8 (k:=.u32) (W:=4294967296) I I I I) I (gv (xH (A:=[_]) (J-1+n) underlying27 sizeOf124 I I oM oM) I (rT sizeOf124 I I oM (wN ?_)));generalize hX:rs.getD (J-1+n) 0=X at *;refine zU (x1-1,rs.set (J-1+n) ((X+c2%4294967296)%4294967296)) ?_ e7 I I;have dj:i2=n:=by omega
    rw[dj,wH oM,az] at bg;have h1:=nC (xs:=rs) (i:=J-1+n) oM ((X+c2%4294967296)%4294967296);rw[hX] at h1;have be:Fit (rs.set (J-1+n) ((X+c2%4294967296)%4294967296)):=nO aw _ oM;have dy:∀k,J-1+n+1<=k->(rs.set (J-1+n) ((X+c2%4294967296)%4294967296)).getD k 0=0:=λk hk=>by
     rw[jL oM,cv k oM];exact ch k hk
    have ho:val (rs.set (J-1+n) ((X+c2%4294967296)%4294967296))+4294967296^(J-1+n+1)*((X+c2)/4294967296)=val ts2+4294967296^(J-1)*V:=by
     rw[zni,zne];rw[zne] at h1 bg;exact yML bg h1 oM
    obtain⟨z1,z2,z3⟩:=zVV aa be dh (iM be dy) (b:=d2/2^63) oM ab ck ho oM;exact⟨zot,by simp[bh],be,z2,z3⟩
   refine rZ ?_;refine zU (x1,ts2) ?_ e7 I I;have dv:d2/2^63=0:=by omega
   rw[dv,z9i,zpi] at ab;exact⟨cm,bp,au,ab,zGG aa au ab cj⟩
  rintro⟨x2,rs⟩ ⟨cl,bh,aw,eh,cw⟩
  refine yY ?_;refine yI (mv I I (mv I I (mv I I (gv (vX (k:=.u64) (k':=.u32) (W:=4294967296) underlying125 underlying124 I I I oM) I (gv (xH (A:=[]) (J-1) underlying27 sizeOf124 I I oM (by rw[jH];omega)) I (vH sizeOf124 I I (by rw[jH];omega) (wN (zCG (yX (yI (mv I I (gv (qT (q:=1) I I oM oM) I (asg I I ?_)))))))))))));refine wN ?_;refine jW (J-1,rs,x2::qs) ?_ ?_ ⟨I,I,I,I,I,?_,y5i⟩ ?_ I
  ·
   refine⟨zot,by simp only[lC];omega,rU.2 ⟨cl,dq⟩,bh,aw,?_,cw⟩;have eJ:(4294967296:Nat)^J=4294967296^(J-1)*4294967296:=by rw[<-zni,Nat.succ_eq_add_one,zzi hJ]
   rw[eJ] at ap;exact yJU ap eh
  ·
   dsimp only;omega
  · exact y4e (zbi vI oM)
  try dsimp only[List.nil_append,List.cons_append]
  rw[lJ oM]
 refine nN (rG (rG (nL (yX (wA ?_)))));have ez:J=0:=by omega
 subst ez;rw[aB];rw[ycu] at ca;rw[y3i,yne] at ap;have ek:(zB (val us)).length<=us.length:=qA aa;refine yI (mv I I ?_);refine zMS (R:=λh r=>r=tB 1 O 0 (zB (val us)).length/\Us .u32 h r (zB (val us))) (vs:=[_]) I I I I call196 ⟨I,y5i⟩ (λw hw=>jU (MLe.refl _) (hw.own_us (A:=[_]) aa)) ?_
 rintro fc ⟨_,dx,_⟩
 subst dx;refine zW8 (A:=[_]) (zB (val us)).length ek ?_;rw[zF7 aa];generalize tB 1 O 0 (zB (val us)).length=vr;have ax:=wU (val us);have ey:=zE (val us);generalize zB (val us)=Rs at *;refine asg I I (wN (yX (wA (wA (yI (mv I I (gv (pG (A:=[_]) underlying27 I) I (mv (v:=vI (0)) I I (wN (yX (fY ?_)))))))))));refine gR (ι:=Nat) (λ(k:(Nat))=>k<=Rs.length) (λ(k:(Nat))=>[(4,M),(5,vr),(9,vI ↑s),(261,vI ↑Rs.length),(262,vI ↑k)]) (λ(k:(Nat))=>[.us 124 .u32 M qs,.us 124 .u32 vr (zAG s Rs k)]) (λ(k:(Nat))=>h8) (λ(k:(Nat))=>Rs.length-k) 0 ?_ e5z ?_ I ?_
 · exact zuu _
 ·
  try dsimp only[List.nil_append,List.cons_append]
  exact zbi (λz=>[Res.us 124 .u32 M qs,Res.us 124 .u32 vr z]) (zVL s Rs)
 rintro k hk
 refine yY ?_;refine wA (yI (gv (yS I I) I (wN (yX (wA ?_)))));refine cnd (λcc=>?_) λcc=>?_
 ·
  refine rZ (yX ?_);refine jM (ι:=Unit) (λ(_u:(Unit))=>True) (λ(_u:(Unit))=>[(4,M),(5,vr),(9,vI ↑s),(261,vI ↑Rs.length),(262,vI ↑k)]) (λ(_u:(Unit))=>[.us 124 .u32 M qs,.us 124 .u32 vr (zAG s Rs (k+1))]) (λ(_u:(Unit))=>h8) ?_ ?_
  ·
   refine fY (wA (yI (mv I I (asg I I (wN (yX (wA (yI (mv I I (mv I I (gv (xH (A:=[_]) (k) underlying27 sizeOf124 I I oM (by rw[tR oM];omega)) I (gv (tC (A:=[_]) isAgg124 I (by rw[tR oM];omega)) I ?_))))))))))));rw[zNK (zbe _)];have eo:=qY ax k;refine mv I I (gv (fQ (k:=.u32) (s:=s) (yk:=.i64) I I I (by simp only[ub];omega)) I ?_);have gb:Rs.getD k 0/2^s<4294967296:=yre (zti _ _) eo;refine gv (xH (A:=[_]) (k) underlying27 sizeOf124 I I oM (by rw[tR oM];omega)) I (rT sizeOf124 I I (by rw[tR oM];omega) (wN (yX (wA (yI (mv I I (gv (zBR (q:=0) I I) I ?_)))))));refine gU 7 280 (vB (((0:Int)<↑s)/\((↑k:Int)+1<↑Rs.length))) ?_ ?_
   ·
    refine zY ((0:Int)<↑s) (λhg=>?_) (λhg=>?_)
    ·
     refine gT hg I (zKE I I I (mv I I (zKE I I I (gv (yD (q:=1) I I oM oM) I (zKE I I I (mv I I (zKE I I I (gv (pG (A:=[_]) underlying27 I) I ?_))))))));rw[lS,tR oM];refine zKE I I I (gv (yS I I) I (gv (mP I I) I (wN (gqU ?_))));exact y4e (xD hg)
    refine gF hg I (zDX I I I I I I (zDX I I I I I I (zDX I I I I I I (zDX I I I I I I (zDX I I I I I I (gv (mQ I I) I (wN (gqU ?_))))))));exact y4e (xE hg)
   refine wN (yX ?_);refine cnd (λcb=>?_) λcb=>?_
   ·
    refine zJ 14 _ [] (zai 0 14 [(14,.t)]) zX nX zou nX (λr hr=>hr) (mE I I I (mE I I I (w_q I (λh' L' hh hR=>fG (hR _ mh1) (k) underlying27 sizeOf124 I I oM (by rw[lS,tR oM];omega)) I (w_q I (λh' L' hh hR=>sY (hR _ mh1) isAgg124 I (by rw[lS,tR oM];omega)) I ?_))));rw[zI7 (by rw[tR oM];omega)];refine mE I I I (mE I I I (wZ I (λ_ _=>yD (q:=1) I I oM oM) I (w_q I (λh' L' hh hR=>fG (hR _ mh1) (k+1) underlying27 sizeOf124 I I oM (by rw[lS,tR oM];omega)) I (w_q I (λh' L' hh hR=>sY (hR _ mh1) isAgg124 I (by rw[lS,tR oM];omega)) I ?_))));rw[jL oM,zNK oM];refine mE I I I (wZ I (λ_ _=>qT (p:=32) I I oM oM) I ?_);rw[show((32:Int)-↑s)=↑(32-s) by omega];refine wZ I (λ_ _=>fR (k:=.u32) (s:=32-s) (yk:=.i64) (W:=4294967296) I I I I) I (wZ I (λ_ _=>rX (k:=.u32) I I I (by simp only[ub];omega) (by simp only[ub];omega)) I ?_);rw[yEW ax oM oM];refine w_q I (λh' L' hh hR=>fG (hR _ mh1) (k) underlying27 sizeOf124 I I oM (by rw[lS,tR oM];omega)) I (cF (A:=[_]) I (t7 sizeOf124 I I (by rw[lS,tR oM];omega)) I (zFY (zCG ?_)));refine zU (()) ?_ e5z ?_ I
    · trivial
    try dsimp only[List.nil_append,List.cons_append]
    rw[List.set_set,zNJ oM];try rfl
   refine rZ (zCG ?_);have bz:Rs.getD k 0/2^s=iR s Rs k:=by
    by_cases h0:s=0
    · rw[h0,zVM ax oM,y3i,z4i]
    · exact(zVO ax oM).symm
   refine zU (()) ?_ e5z ?_ I
   · trivial
   try dsimp only[List.nil_append,List.cons_append]
   rw[bz,zNJ oM]
  rintro _u fj
  refine yY ?_;refine yI (gv (yD (q:=1) I I oM oM) I (mv I I (wN ?_)));refine jW (k+1) ?_ ?_ e5z I I
  · omega
  omega
 refine nN (rG (rG (nL (yX (wA (yI (mv I I (yU (by exact dq) ?_))))))));intro h9 gg hq;refine cL (ev1 I) call196 (λw hs=>jU hs hq) λfb gt fi Z=>?_;replace Z:=Z.2;refine mv I I (yU (by exact yCN ax) ?_);intro gs dn ei;refine cL (ev1 I) call196 (λw hs=>jU hs ei) λfa gr dm ac=>?_;replace ac:=ac.2;refine asg I I (asg I I (asg (v:=vI (0)) I I (wN (yX (zH0 (qU I I I I ?_))))));replace Z:=Z.mono (dn.trans dm);have el:k=Rs.length:=by omega
 rw[el,zX0 ax,ey] at ac;obtain⟨e1,e2⟩:=zUK (X:=val xs) (Y:=val ys) (s:=s) (u:=val us) (q:=val qs) oM (by rw[<-hV,<-hU];exact ap) (by rw[<-hV];exact ca);rw[e1] at Z;rw[e2] at ac;rw[zae ay,zae ay];exact⟨_,_,I,Z,ac⟩
theorem tS{v:Value}{xs:List Nat}(hv:Us .u32 h0 v xs)(hl:xs.length<=17592186044416):
 y8i 92 #[v] w0 h0 (λh r=>Us .u32 h r (zB (val xs))):=by
 refine cb1 23 v func92 hs ?_;refine sH ?_;refine gcL (ι:=Nat) (λ(k:(Nat))=>(k<=xs.length/\∀i,k<=i->xs.getD i 0=0,[(0,v),(3,vI ↑k)],[],h0,k)) xs.length ?_ ?_
 · exact⟨zbe _,λi hi=>by rw[zoa,zre hi];rfl⟩
 rintro k ⟨hk,hz⟩
 refine yY ?_;refine go5 ?_;refine gU 8 15 (vB (((0:Int)<↑k)/\(xs.getD (k-1) 0=0))) ?_ ?_
 ·
  refine zY ((0:Int)<↑k) (λM=>?_) (λM=>?_)
  ·
   refine gT M I (go7 ?_);refine gv (zV (k-1) underlying27 sizeOf124 I I hv oM oM) I (go3 ?_);refine gv (fS (k:=.u32) (q:=0) I I) I (go2 ?_);refine gqU ?_;exact y4e (xD M)
  refine gF M I (go8 ?_);refine gqU ?_;exact y4e (xE M)
 refine gc2 (λC=>?_) λC=>?_
 ·
  refine go9 ?_;refine gqL (k-1) ?_ ?_ (he:=⟨I,?_,y5i⟩)
  ·
   exact⟨zot,λi hi=>by
    by_cases e:i=k-1
    · rw[e];exact C.2
    · exact hz i oM⟩
  · have:=C.1;omega
  · exact y4e (zbi vI (by have:=C.1;omega))
 refine go7 ?_;refine zG (zHC (kd:=.u32) underlying27 uW I I) I I I ?_;intro Z ab J;obtain rfl:=J;refine go2 ?_;refine gv (zAI _ underlying27 sizeOf124 I I hv.shape I oM) I ?_;have D:=hv.sub (lo:=0) (hi:=_) oM oM;refine xQ (A:=[]) (fF (kd:=.u32) (bytes:=4) underlying27 uW I I I I I D (by simp;omega) (by simp;omega)) I I I ?_;intro U aa H;obtain rfl:=H;rw[zhe,ycu,ydu];refine yU (by exact fZ hv.lt k) ?_;intro h1 O ho;refine go4 ?_;refine zC I I ?_;replace hv:=hv.mono O;have e:xs.take k=zB (val xs):=zJI hv.lt hk hz (by
  by_cases h0:k=0
  · exact .inl h0
  · exact .inr λh1=>C ⟨zot,h1⟩)
 rw[<-e];exact ho
theorem yFP{v v':Value}{xs ys:List Nat}(hv:Us .u32 h0 v xs)(hv':Us .u32 h0 v' ys)(hl:xs.length<=1099511627776)(hl':ys.length<=1099511627776):
 y8i 189 #[v,v'] w0 h0 (λh r=>Us .u32 h r (zB (Nat.gcd (val xs) (val ys)))):=by
 have bx:=qA hv.lt;have bw:=qA hv'.lt;obtain⟨G,hG⟩:∃G,G=Nat.gcd (val xs) (val ys):=⟨_,I⟩;rw[<-hG];refine cb2 61 v v' func189 hs ?_;refine go8 ?_;refine cL (ev1 I) call196 (λw hs=>jU hs hv) λbt h1 bg Z=>?_;replace Z:=Z.2;refine uY (vs:=[_]) I I I I call207 ⟨I,y5i⟩ (λw hs=>zGC hs Z oM) ?_;intro ar h2 ch bf aj;obtain rfl:=aj;refine yU (by exact wU _) ?_;intro h3 be bj;refine go1 ?_;replace hv':=hv'.mono ((bg.trans bf).trans be);refine cL (ev1 I) call196 (λw hs=>jU hs hv') λbs h4 cf U=>?_;replace U:=U.2;refine uY (vs:=[_]) I I I I call207 ⟨I,y5i⟩ (λw hs=>zGC hs U oM) ?_;intro aq h5 cg ce ai;obtain rfl:=ai;refine yU (by exact wU _) ?_;intro h6 cd bi;refine go6 ?_;refine gcL (ι:=Value×Nat×Value×Nat×Mem) (λ(vx,X,vy,Y,k1)=>(MLe h6 k1/\(Us .u32 k1 vx (zB X)/\Us .u32 k1 vy (zB Y)/\Nat.gcd X Y=G/\(zB X).length<=1099511627776/\(zB Y).length<=1099511627776),[(5,vx),(6,vy)],[],k1,Y)) (ar,val xs,aq,val ys,h6) ?_ ?_
 · exact⟨mle,bj.up,bi,hG.symm,zot,zot⟩
 rintro⟨vx,X,vy,Y,k1⟩ ⟨bm,⟨ha,hb,hg,ca,bd⟩⟩
 refine yY ?_;refine gc8 (λap=>?_) λap=>?_
 ·
  refine go7 ?_;have H:Y≠0:=yP.1 oM;refine cL (ev2 I I) call190 (λw hs=>zFH hs ha hb oM oM) λbr h7 aa D=>?_;obtain⟨bv,av,rfl,am,D⟩:=D;simp only[zE] at am D;rw[zae H] at D;have bc:=yL (yli (zcu X (zii H)));refine dQ ?_;refine gqL (vy,Y,av,X%Y,h7) ?_ ?_
  · exact⟨mle,hb.up,D,by rw[mX];exact hg,bd,zot⟩
  exact zcu _ (zii H)
 refine rS ?_;refine cnd (λao=>?_) λao=>?_
 ·
  have H:Y=0:=zdu λba=>by have:=yP.2 ba;omega
  refine go8 ?_;refine zC I I ?_;rw[H,yie] at hg;rw[<-hg];exact ha
 have H:Y≠0:=yP.1 oM;refine go2 ?_;refine jM (ι:=Value×Nat×Value×Nat×Mem) (λ(O,X2,M,Y2,k2)=>MLe k1 k2/\(Us .u32 k2 O (zB X2)/\Us .u32 k2 M (zB Y2)/\Nat.gcd X2 Y2=G/\(zB X2).length<=2/\(zB Y2).length<=2)) (λ(O,X2,M,Y2,k2)=>[(5,O),(6,M)]) (λ(O,X2,M,Y2,k2)=>[]) (λ(O,X2,M,Y2,k2)=>k2) ?_ ?_
 ·
  refine gc7 (λan=>?_) λan=>?_
  ·
   refine go4 ?_;refine cL (ev2 I I) call190 (λw hs=>zFH hs ha hb oM oM) λbq h7 aa C=>?_;obtain⟨bu,au,rfl,ak,C⟩:=C;simp only[zE] at ak C;rw[zae H] at C;have bc:=yL (yli (zcu X (zii H)));refine cD ?_;refine zU (vy,Y,au,X%Y,h7) ?_ e2z I I;refine⟨aa,?_⟩;replace hb:=hb.mono aa;exact⟨hb,C,by rw[mX];exact hg,zot,zot⟩
  refine go1 ?_;refine zU (vx,X,vy,Y,k1) ?_ e2z I I;refine⟨MLe.refl _,?_⟩;exact⟨ha,hb,hg,zot,zot⟩
 rintro⟨O,X2,M,Y2,k2⟩ ⟨bl,⟨bk,ac,bh,ax,aw⟩⟩
 refine yY ?_;refine go3 ?_;refine cL (ev1 I) call208 (λw hs=>zOY hs bk oM) λbp h7 aa ah=>?_;subst ah;rw[zE];have az:=nJ ax;refine go1 ?_;replace ac:=ac.mono aa;refine cL (ev1 I) call208 (λw hs=>zOY hs ac oM) λbo h8 cc ae=>?_;subst ae;rw[zE];have ay:=nJ aw;refine go6 ?_;refine gcL (ι:=Nat×Nat) (λ(m,n)=>(Nat.gcd m n=G/\m<18446744073709551616/\n<18446744073709551616,[(13,vU .u64 m),(14,vU .u64 n)],[],h8,n)) (X2,Y2) ?_ ?_
 · exact⟨bh,az,ay⟩
 rintro⟨m,n⟩ ⟨ab,hm,hn⟩
 refine yY ?_;refine go4 ?_;refine gv (tU (k:=.u64) (q:=0) I I) I (gc2 (λJ=>?_) λJ=>?_)
 ·
  refine go3 ?_;refine zJ 6 _ [] (zai 0 6 []) zX nX zou nX (λr hr=>hr) (go3 ?_);refine wZ I (λ_ _=>bU (k:=.u64) I I oM) I (go4 ?_);refine gqL (n,m%n) ?_ ?_
  ·
   have bz:=zcu m (zii J);exact⟨by rw[mX];exact ab,hn,zot⟩
  exact zcu _ (zii J)
 refine go8 ?_;refine cL (ev1 I) call192 (λw hs=>nat_of hs oM) λbn h9 cb ad=>(go4 ?_);refine zC I I ?_;have bb:n=0:=zdi J;rw[bb,yie] at ab;rw[<-ab];exact ad
theorem zAH{n:Nat}(hn:n<18446744073709551616):
 y8i 96 #[vU .u64 n] w0 h0 (λh r=>Us .u32 h r (zB n)):=by
 refine cb1 10 (vU .u64 n) func96 hs ?_;refine qC ?_;refine zG (zHB (kd:=.u32) underlying27 uW I I I I) I I I ?_;intro U Z D;obtain rfl:=D;refine yU (by intro x hx;simp only[zfu,zge,or_false] at hx;simp only[ub];omega) ?_;intro h1 J M;refine cL (ev1 I) call92 (λw hs=>tS hs M zo3) λO h2 H C=>(go4 ?_);refine zC I I ?_;have e:val [n%4294967296,n/2^32%4294967296]=n:=by simp only[val];omega
 rw[e] at C;exact C
theorem oQ{v v':Value}{X Y:Nat}(hv:Us .u32 h0 v (zB X))(hv':Us .u32 h0 v' (zB Y)):
 y8i 49 #[v,v'] w0 h0 (λ_ r=>r=vI (pQ X Y)):=by
 have U:=zE X;have D:=zE Y;generalize hA:zB X=AA at *;generalize hB:zB Y=BB at *;have fA:Fit AA:=hv.lt;have fB:Fit BB:=hv'.lt;have lA:=hv.lt63;have lB:=hv'.lt63;refine cb2 41 v v' func49 hs ?_;refine qE ?_;refine gv (vW underlying27 I hv') I (gc3 (λO=>?_) λO=>?_)
 ·
  refine go6 ?_;refine gv (vW underlying27 I hv') I (gc3 (λM=>?_) λM=>?_)
  ·
   refine go8 ?_;refine zC I I ?_;rw[zCQ (rY (by rw[hA,hB];omega))]
  refine go9 ?_;refine zC I I ?_;rw[zCR (rY (by rw[hA,hB];omega))]
 have hl:AA.length=BB.length:=by omega
 refine qC ?_;refine gcL (ι:=Nat) (λ(j:(Nat))=>(j<=AA.length/\AA.drop j=BB.drop j,[(0,v),(1,v'),(5,vI (↑j-1))],[],h0,j)) AA.length ?_ ?_
 · exact⟨zbe _,by rw[znu (zbe _),znu oM]⟩
 rintro j ⟨hj,hd⟩
 refine yY ?_;refine gc7 (λJ=>?_) λJ=>?_
 ·
  refine go6 ?_;refine zJ 9 _ [] (zai 0 9 []) zX nX zou nX (λr Z=>Z) (go2 ?_);refine w_q I (λh' L' hh hR=>zV (j-1) underlying27 sizeOf124 I I (hv.mono hh) oM oM) I (w_q I (λh' L' hh hR=>wB isAgg124 I (hv.mono hh) oM) I (go2 ?_));refine w_q I (λh' L' hh hR=>zV (j-1) underlying27 sizeOf124 I I (hv'.mono hh) oM oM) I (w_q I (λh' L' hh hR=>wB isAgg124 I (hv'.mono hh) oM) I (gc3 (λC=>?_) λC=>?_))
  ·
   refine qC ?_;refine zC I I ?_;rw[<-U,<-D,zCQ (zE9 fA hl oM hj hd C)]
  refine go3 ?_;refine zJ 9 _ [] (zai 0 9 []) zX nX zou nX (λr Z=>Z) (go2 ?_);refine w_q I (λh' L' hh hR=>zV (j-1) underlying27 sizeOf124 I I (hv.mono hh) oM oM) I (w_q I (λh' L' hh hR=>wB isAgg124 I (hv.mono hh) oM) I (go2 ?_));refine w_q I (λh' L' hh hR=>zV (j-1) underlying27 sizeOf124 I I (hv'.mono hh) oM oM) I (w_q I (λh' L' hh hR=>wB isAgg124 I (hv'.mono hh) oM) I (gc3 (λH=>?_) λH=>?_))
  ·
   refine qE ?_;refine zC I I ?_;rw[<-U,<-D,zCR (zE9 fB hl.symm oM oM hd.symm oM)]
  refine go8 ?_;refine gqL (j-1) ?_ ?_ (he:=⟨I,I,?_,y5i⟩)
  ·
   refine⟨zot,?_⟩;rw[tO AA (j-1) oM,tO BB (j-1) oM];have e:j-1+1=j:=by omega
   rw[e,hd,zdi (show ¬¬AA.getD (j-1) 0=BB.getD (j-1) 0 by omega)]
  · omega
  · exact y4e (zbi vI oM)
 refine qE ?_;refine zC I I ?_;have h0:j=0:=by omega
 subst h0;simp only[ycu] at hd;rw[<-U,<-D,hd,zUO]
theorem zZE{v:Value}{X:Nat}(hv:Us .u32 h0 v (zB X))(hl:(zB X).length<=1099511627776):
 y8i 169 #[v] w0 h0 (λ_ r=>r=vI ↑(uU X)):=by
 refine cb1 25 v func169 hs ?_;refine rS ?_;refine cnd (λU=>?_) λU=>?_
 ·
  refine go7 ?_;refine zC I I ?_;have h0:X=0:=zdu λO=>by have:=yP.2 O;omega
  rw[h0];rfl
 have H:0<(zB X).length:=by omega
 have hb:=zD9 (wU X) (k:=(zB X).length-1) oM (rD H);rw[zE] at hb;refine go7 ?_;refine gv (gK (p:=32) I I oM oM) I (uR ?_);refine gv (zV ((zB X).length-1) underlying27 sizeOf124 I I hv oM oM) I (go1 ?_);have D:=hv.get32 ((zB X).length-1);refine go4 ?_;refine gcL (ι:=Nat×Nat) (λ(c,x)=>(x<4294967296/\uU ((zB X).getD ((zB X).length-1) 0)=c+uU x/\c<=32,[(3,vI (32*(↑(zB X).length-1)+↑c)),(4,vU .u32 x)],[],h0,x)) (0,(zB X).getD ((zB X).length-1) 0) ?_ ?_ (he:=⟨y4e (zbi vI oM),I,y5i⟩)
 · exact⟨D,zot,zot⟩
 rintro⟨c,x⟩ ⟨hx,J,Z⟩
 refine yY ?_;have aa:=oE (n:=(zB X).getD ((zB X).length-1) 0) (k:=32) D;refine go4 ?_;refine gv (tU (k:=.u32) (q:=0) I I) I (gc2 (λC=>?_) λC=>?_)
 ·
  refine rS ?_;refine gv (fQ (k:=.u32) (s:=1) (yk:=.u64) I I I (by simp only[ub];omega)) I (go2 ?_);refine gqL (c+1,x/2^1) ?_ ?_ (he:=⟨y4e (zbi vI oM),I,y5i⟩)
  ·
   have h1:=zSV C;exact⟨zot,by rw[J,h1,show x/2^1=x/2 from I];omega,zot⟩
  omega
 refine qC ?_;refine zC I I ?_;have M:x=0:=zdi C;rw[M,zSU] at J;exact zbi vI oM
theorem yE4{v v':Value}{X Y:Nat}(hv:Us .u32 h0 v (zB X))(hv':Us .u32 h0 v' (zB Y))(hl:(zB X).length<=1099511627776)(hl':(zB Y).length<=1099511627776):
 y8i 83 #[v,v'] w0 h0 (λh r=>Us .u32 h r (zB (X+Y))):=by
 have ay:=yL (Nat.le_add_right X Y);have ax:=yL (Nat.le_add_left Y X);have aw:=gC X Y;refine cb2 54 v v' func83 hs ?_;refine go7 ?_;refine eP (pV (v:=.slice none 0 0) I) I I I (zDZ (E:=124) (k:=.u32) (go4 ?_));refine asg (v:=vU .u64 0) I I (go9 ?_);refine gcL (ι:=Value×List Nat×Nat×Mem) (λ(U,C,c,k1)=>(MLe h0 k1/\(C.length<=(zB (X+Y)).length/\Fit C/\c<=1/\val C+4294967296^C.length*c=val ((zB X).take C.length)+val ((zB Y).take C.length)),[(0,v),(1,v'),(5,U),(6,vU .u64 c),(7,vI ↑C.length)],[.us 124 .u32 U C],k1,(zB (X+Y)).length-C.length)) (.slice none 0 0,[],0,h0) ?_ ?_
 · exact⟨mle,zo3,λx hx=>by simp at hx,zot,by simp[val]⟩
 rintro⟨U,C,c,k1⟩ ⟨H,⟨aj,Z,az,O⟩⟩
 refine yY ?_;replace hv:=hv.mono H;replace hv':=hv'.mono H;have av:=hv.get32 C.length;have au:=hv'.get32 C.length;refine go7 ?_;refine gU 6 17 (vB (((↑C.length:Int)<↑(zB X).length)\/((↑C.length:Int)<↑(zB Y).length))) ?_ ?_
 ·
  refine zY ((↑C.length:Int)<↑(zB X).length) (λJ=>?_) (λJ=>?_)
  ·
   refine gT J I (go6 ?_);refine gqU ?_;exact y4e (uH J)
  refine gF J I (go5 ?_);refine gv (vW underlying27 I hv') I (go4 ?_);refine gqU ?_;exact y4e (uJ J)
 refine gU 4 21 (vB (((↑C.length:Int)<↑(zB X).length\/(↑C.length:Int)<↑(zB Y).length)\/(c≠0))) ?_ ?_
 ·
  refine zY ((↑C.length:Int)<↑(zB X).length\/(↑C.length:Int)<↑(zB Y).length) (λJ=>?_) (λJ=>?_)
  ·
   refine gT J I (go4 ?_);refine gqU ?_;exact y4e (uH J)
  refine gF J I (go3 ?_);refine gv (tU (k:=.u64) (q:=0) I I) I (go2 ?_);refine gqU ?_;exact y4e (uJ J)
 refine gc2 (λD=>?_) λD=>?_
 ·
  refine go4 ?_;refine jM (ι:=Unit) (λ(M:(Unit))=>True) (λ(M:(Unit))=>[(0,v),(1,v'),(5,U),(6,vU .u64 (c+(zB X).getD C.length 0)),(7,vI ↑C.length)]) (λ(M:(Unit))=>[.us 124 .u32 U C]) (λ(M:(Unit))=>k1) ?_ ?_
  ·
   refine gc8 (λah=>?_) λah=>?_
   ·
    refine go4 ?_;refine gv (zV (C.length) underlying27 sizeOf124 I I hv oM oM) I (go5 ?_);refine zU (()) ?_ e5z I I
    trivial
   refine go1 ?_;refine zU (()) ?_ ⟨I,I,I,?_,I,y5i⟩ I I
   · trivial
   · exact y4e (zbi (vU .u64) (by rw[sV (xs:=zB X) oM];omega))
  rintro M ad
  refine yY ?_;refine jM (ι:=Unit) (λ(M:(Unit))=>True) (λ(M:(Unit))=>[(0,v),(1,v'),(5,U),(6,vU .u64 (c+(zB X).getD C.length 0+(zB Y).getD C.length 0)),(7,vI ↑C.length)]) (λ(M:(Unit))=>[.us 124 .u32 U C]) (λ(M:(Unit))=>k1) ?_ ?_
  ·
   refine go4 ?_;refine gv (vW underlying27 I hv') I (gc3 (λae=>?_) λae=>?_)
   ·
    refine go4 ?_;refine gv (zV (C.length) underlying27 sizeOf124 I I hv' oM oM) I (gv (wB isAgg124 I hv' oM) I (go4 ?_));refine zU (()) ?_ e5z I I
    trivial
   refine go1 ?_;refine zU (()) ?_ ⟨I,I,I,?_,I,y5i⟩ I I
   · trivial
   · exact y4e (zbi (vU .u64) (by rw[sV (xs:=zB Y) oM];omega))
  rintro M ad
  refine yY ?_;refine go5 ?_;refine zG (pM (kd:=.u32) underlying27 uW I I I) I I I ?_;intro ap ar ab;obtain rfl:=ab;refine yU (by intro z hz;simp only[zui] at hz;subst hz;simp only[ub];omega) ?_;intro h1 ac am;refine xQ (A:=[]) (fF (kd:=.u32) (bytes:=4) underlying27 uW I I I I I am zo9 zo9) I I I ?_;intro ai aq aa;obtain rfl:=aa;refine cD ?_;generalize ao:(zB X).getD C.length 0=p at *;generalize an:(zB Y).getD C.length 0=q at *;have ak:C.length<(zB (X+Y)).length:=by
   rcases D with(h|h)|h
   · omega
   · omega
   · by_cases h1:C.length<(zB X).length
     · omega
     · by_cases h2:C.length<(zB Y).length
       · omega
       · rw[wH oM,wH oM,zE,zE] at O
         refine zCA ?_;have:=Nat.le_mul_of_pos_right (4294967296^C.length) (zii h);omega
  refine gqL (ai,C++[(c+p+q)%4294967296],(c+p+q)/2^32,h1) ?_ ?_ (he:=⟨I,I,I,I,y4e (zbi vI zo3),y5i⟩)
  ·
   refine⟨(H.trans ac),?_⟩;refine⟨by simp;omega,uT Z (aM oM),zot,?_⟩;rw[lAz,zke,uO,uO,ao,an,rN,zni];have e:=z8i (c+p+q) 4294967296;rw[show(2:Nat)^32=4294967296 from I];generalize (c+p+q)/4294967296=s at *;generalize (c+p+q)%4294967296=r at *;grind
  simp;omega
 refine go8 ?_;refine yU (by exact Z) ?_;intro h1 ac ho;refine go4 ?_;refine zC I I ?_;have h1:¬C.length<(zB X).length:=λh=>D (.inl (.inl oM));have h2:¬C.length<(zB Y).length:=λh=>D (.inl (.inr oM));have h3:c=0:=zdu λh=>D (.inr h);rw[wH oM,wH oM,zE,zE,h3] at O;have e:val C=X+Y:=by omega
 rw[<-e,zO7 Z (by rw[e];exact aj)];exact ho
theorem zDD{v v':Value}{X Y:Nat}(hv:Us .u32 h0 v (zB X))(hv':Us .u32 h0 v' (zB Y))(hle:Y<=X)(hl:(zB X).length<=1099511627776):
 y8i 128 #[v,v'] w0 h0 (λh r=>Us .u32 h r (zB (X-Y))):=by
 have am:=yL hle;refine cb2 50 v v' func128 hs ?_;refine go9 ?_;refine jB (kd:=.u32) (by':=4) _ underlying27 uW I I I I I I I oM oM I ?_;intro D;refine go5 ?_;refine asg (v:=vU .u64 0) I I (go9 ?_);refine gR (ι:=List Nat×Nat) (λ(C,c)=>C.length<=(zB X).length/\Fit C/\c<=1/\val C+val ((zB Y).take C.length)=val ((zB X).take C.length)+4294967296^C.length*c) (λ(C,c)=>[(0,v),(1,v'),(5,D),(6,vU .u64 c),(7,vI ↑C.length)]) (λ(C,c)=>[.us 124 .u32 D (tZ C (zB X).length)]) (λ(C,c)=>h0) (λ(C,c)=>(zB X).length-C.length) ([],0) ?_ e5z I I ?_
 · exact⟨zo3,λx hx=>by simp at hx,zot,by simp[val]⟩
 rintro⟨C,c⟩ ⟨aj,J,ar,M⟩
 refine yY ?_;have ai:=hv.get32 C.length;have ah:=hv'.get32 C.length;refine gc9 (λZ=>?_) λZ=>?_
 ·
  refine uR ?_;refine jM (ι:=Unit) (λ(_u:(Unit))=>True) (λ(_u:(Unit))=>[(0,v),(1,v'),(5,D),(7,vI ↑C.length),(8,vU .u64 (c+(zB Y).getD C.length 0))]) (λ(_u:(Unit))=>[.us 124 .u32 D (tZ C (zB X).length)]) (λ(_u:(Unit))=>h0) ?_ ?_
  ·
   refine go4 ?_;refine gv (vW underlying27 I hv') I (gc3 (λU=>?_) λU=>?_)
   ·
    refine go4 ?_;refine gv (zV (C.length) underlying27 sizeOf124 I I hv' oM oM) I (gv (wB isAgg124 I hv' oM) I (go4 ?_));refine zU (()) ?_ e5z I I
    trivial
   refine go1 ?_;refine zU (()) ?_ ⟨I,I,I,I,?_,y5i⟩ I I
   · trivial
   · exact y4e (zbi (vU .u64) (by rw[sV (xs:=zB Y) oM];omega))
  rintro _u ad
  refine yY ?_;refine go4 ?_;refine gv (zV (C.length) underlying27 sizeOf124 I I hv oM oM) I (go7 ?_);refine asg (v:=vU .u64 0) I I (go2 ?_);refine jM (ι:=Nat) (λ(d:(Nat))=>d<=1/\c+(zB Y).getD C.length 0<=(zB X).getD C.length 0+4294967296*d/\(zB X).getD C.length 0+4294967296*d<c+(zB Y).getD C.length 0+4294967296) (λ(d:(Nat))=>[(0,v),(1,v'),(5,D),(6,vU .u64 d),(7,vI ↑C.length),(8,vU .u64 (c+(zB Y).getD C.length 0)),(9,vU .u64 ((zB X).getD C.length 0+4294967296*d))]) (λ(d:(Nat))=>[.us 124 .u32 D (tZ C (zB X).length)]) (λ(d:(Nat))=>h0) ?_ ?_
  ·
   refine gc7 (λO=>?_) λO=>?_
   ·
    refine go3 ?_;refine gv (sQ (k:=.u64) (q:=4294967296) (W:=18446744073709551616) I I I I oM) I (go4 ?_);refine asg (v:=vU .u64 1) I I (go1 ?_);refine zU (1) ?_ e7 I I;exact⟨zot,zot,zot⟩
   refine go1 ?_;refine zU (0) ?_ e7 I I;exact⟨zot,zot,zot⟩
  rintro d ⟨aa,aq,ap⟩
  refine yY ?_;refine go5 ?_;refine gv (lE (k:=.u64) (W:=18446744073709551616) I I I I oM oM) I (gv (vX (k:=.u64) (k':=.u32) (W:=4294967296) underlying125 underlying124 I I I oM) I (gv (xH (A:=[]) (C.length) underlying27 sizeOf124 I I oM (by rw[uP oM];omega)) I (vH sizeOf124 I I (by rw[uP oM];omega) (go8 ?_))));generalize ac:(zB X).getD C.length 0=p at *;generalize ab:(zB Y).getD C.length 0=q at *;refine jW (C++[p+4294967296*d-(c+q)],d) ?_ ?_ ⟨I,I,I,I,?_,y5i⟩ ?_ I
  ·
   refine⟨by simp;omega,uT J (aM oM),aa,?_⟩;rw[lAz,zke,uO,uO,ac,ab,rN,zni];have e:p+4294967296*d-(c+q)+c+q=p+4294967296*d:=by omega
   generalize p+4294967296*d-(c+q)=r at *;grind
  ·
   dsimp only;simp;omega
  · exact y4e (zbi vI zo3)
  try dsimp only[List.nil_append,List.cons_append]
  rw[pP oM]
 refine go8 ?_;have hk:C.length=(zB X).length:=by omega
 rw[aA hk];refine yU (by exact J) ?_;intro h1 ao ho;refine cL (ev1 I) call92 (λw hs=>tS hs ho oM) λae h2 an H=>(go4 ?_);refine zC I I ?_;have hk:C.length=(zB X).length:=by omega
 rw[wH oM,wH oM,zE,zE] at M;have h1:=gG J;have h2:c=0:=zdu λak=>by
  have:c=1:=by omega
  subst this;omega
 subst h2;have e:val C=X-Y:=by omega
 rw[e] at H;exact H
theorem zTH{v v':Value}{X Y:Nat}(hv:Us .u32 h0 v (zB X))(hv':Us .u32 h0 v' (zB Y))(hl:(zB X).length<=1099511627776):
 y8i 84 #[v,v'] w0 h0 (λh r=>∃u,r=.tuple #[u,vI (if X<Y then 7 else 0)]/\Us .u32 h u (zB (X-Y))):=by
 refine cb2 13 v v' func84 hs ?_;refine qE ?_;refine cL (ev2 I I) call49 (λw hs=>oQ hs hv hv') λv8 h1 J M=>?_;subst M;refine gc3 (λC=>?_) λC=>?_
 ·
  have H:=rV.1 C;refine go8 ?_;refine wY I I I ?_;rw[zau H,Nat.sub_eq_zero_of_le (yli H),xM];exact⟨_,I,Us.nil _ _⟩
 have Z:Y<=X:=yfe λhc=>C (rV.2 hc);refine go6 ?_;replace hv:=hv.mono J;replace hv':=hv'.mono J;refine cL (ev2 I I) call128 (λw hs=>zDD hs hv hv' oM oM) λO h2 U D=>(go5 ?_);refine wY I I I ?_;rw[zae oM];exact⟨_,I,D⟩
theorem bN{v v':Value}{xs ys:List Nat}(hv:Us .u32 h0 v xs)(hv':Us .u32 h0 v' ys)(hl:xs.length<=1099511627776)(hl':ys.length<=1099511627776):
 y8i 50 #[v,v'] w0 h0 (λh r=>Us .u32 h r (zB (val xs*val ys))):=by
 have ar:Fit xs:=hv.lt;have aq:Fit ys:=hv'.lt;refine cb2 67 v v' func50 hs ?_;refine uR ?_;refine gv (vW underlying27 I hv') I (go1 ?_);refine jB (kd:=.u32) (by':=4) (xs.length+ys.length) underlying27 uW I I I I I oM oM oM oM I ?_;intro D;refine uR ?_;refine gcL (ι:=Nat×List Nat) (λ(k,H)=>(k<=xs.length/\H.length=xs.length+ys.length/\Fit H/\val H=val (xs.take k)*val ys/\∀i,k+ys.length<=i->H.getD i 0=0,[(0,v),(1,v'),(5,D),(6,vI ↑k)],[.us 124 .u32 D H],h0,xs.length-k)) (0,List.replicate (xs.length+ys.length) 0) ?_ ?_
 · exact⟨zuu _,zo3,kG _,by rw[bM];simp[val],λi _=>dS _ _⟩
 rintro⟨k,H⟩ ⟨hk,ae,ab,U,hz⟩
 refine yY ?_;refine gc9 (λad=>?_) λad=>?_
 ·
  refine go6 ?_;refine asg (v:=vU .u64 0) I I (go9 ?_);refine gcL (ι:=Nat×List Nat×Nat) (λ(j,C,c)=>(j<=ys.length/\C.length=xs.length+ys.length/\Fit C/\c<4294967296/\val C+4294967296^(k+j)*c=val H+4294967296^k*(xs.getD k 0*val (ys.take j))/\∀i,k+ys.length<=i->C.getD i 0=0,[(0,v),(1,v'),(5,D),(6,vI ↑k),(7,vU .u64 c),(8,vI ↑j)],[.us 124 .u32 D C],h0,ys.length-j)) (0,H,0) ?_ ?_
  · exact⟨zuu _,ae,ab,zot,by simp[val],hz⟩
  rintro⟨j,C,c⟩ ⟨hj,aa,O,ah,Z,M⟩
  refine yY ?_;have an:=hv.get32 k;have am:=hv'.get32 j;have ak:=qY O (k+j);have aj:xs.getD k 0*ys.getD j 0<=4294967295*4294967295:=z7u oM oM;refine go5 ?_;refine gv (vW underlying27 I hv') I (gc3 (λac=>?_) λac=>?_)
  ·
   refine go5 ?_;refine zJ 22 _ [] (zai 0 22 []) zX nX zou nX (λr hr=>hr) (go3 ?_);refine w_q I (λh' L' hh hR=>zV (k) underlying27 sizeOf124 I I (hv.mono hh) oM oM) I (w_q I (λh' L' hh hR=>wB isAgg124 I (hv.mono hh) oM) I (go3 ?_));refine w_q I (λh' L' hh hR=>zV (j) underlying27 sizeOf124 I I (hv'.mono hh) oM oM) I (w_q I (λh' L' hh hR=>wB isAgg124 I (hv'.mono hh) oM) I (go6 ?_));refine w_q I (λh' L' hh hR=>fG (hR _ mh0) (k+j) underlying27 sizeOf124 I I oM oM) I (w_q I (λh' L' hh hR=>sY (hR _ mh0) isAgg124 I oM) I (sH ?_));refine gv (xH (A:=[]) (k+j) underlying27 sizeOf124 I I oM oM) I (vH sizeOf124 I I oM (sH ?_));refine gqL (j+1,C.set (k+j) ((c+(xs.getD k 0*ys.getD j 0+C.getD (k+j) 0))%4294967296),(c+(xs.getD k 0*ys.getD j 0+C.getD (k+j) 0))/2^32) ?_ ?_
   ·
    refine⟨zot,by simp[aa],nO O _ oM,zot,?_,λi hi=>?_⟩
    · have h1:=nC (xs:=C) (i:=k+j) oM ((c+(xs.getD k 0*ys.getD j 0+C.getD (k+j) 0))%4294967296)
      have e:=z8i (c+(xs.getD k 0*ys.getD j 0+C.getD (k+j) 0)) 4294967296;have e2:(2:Nat)^32=4294967296:=I;rw[uX ys j oM,e2];have ep:(4294967296:Nat)^(k+(j+1))=4294967296^k*4294967296^j*4294967296:=by rw[<-z3e,zni,zne]
      rw[ep];rw[zne] at h1 Z;generalize (c+(xs.getD k 0*ys.getD j 0+C.getD (k+j) 0))/4294967296=q at *;generalize (c+(xs.getD k 0*ys.getD j 0+C.getD (k+j) 0))%4294967296=r at *;grind
    · rw[jL oM];exact M i hi
   omega
  refine go9 ?_;refine gv (vW underlying27 I hv') I (go3 ?_);refine gv (xH (A:=[]) (k+ys.length) underlying27 sizeOf124 I I oM oM) I (vH sizeOf124 I I oM (go8 ?_));refine gqL (k+1,C.set (k+ys.length) (c%4294967296)) ?_ ?_
  ·
   have hj:j=ys.length:=by omega
   subst hj;refine⟨zot,by simp[aa],nO O _ oM,?_,λi hi=>?_⟩
   · have h1:=nC (xs:=C) (i:=k+ys.length) oM (c%4294967296)
     rw[M _ (zbe _)] at h1;rw[wH (zbe _)] at Z;rw[zoh ah] at h1 ⊢;rw[uX xs k oM];grind
   · rw[jL oM];exact M i oM
  omega
 refine go8 ?_;refine yU (by exact ab) ?_;intro h1 ap ho;refine cL (ev1 I) call92 (λw hs=>tS hs ho oM) λai h2 ao J=>(go4 ?_);refine zC I I ?_;rw[U,wH oM] at J;exact J
theorem zVY{v:Value}{X d:Nat}(hv:Us .u32 h0 v (zB X))(hd:d<4294967296)(hl:(zB X).length<=1099511627776):
 y8i 172 #[v,vU .u32 d] w0 h0 (λh r=>Us .u32 h r (zB (X*d))):=by
 refine cb2 10 v (vU .u32 d) func172 hs ?_;refine uR ?_;refine cL (ev1 I) call96 (λw hs=>zAH hs oM) λU h1 H D=>?_;have M:=gN (n:=d) oM;replace hv:=hv.mono H;refine cL (ev2 I I) call50 (λw hs=>bN hs hv D oM oM) λO h2 J C=>?_;simp only[zE] at C;refine go4 ?_;refine zC I I ?_;exact C
theorem zGK{v:Value}{xs:List Nat}{b:Nat}(hv:Us .u32 h0 v xs)(hb:0<b)(hb':b<4294967296)(hl:xs.length<=1099511627776):
 y8i 168 #[v,vU .u32 b] w0 h0 (λh r=>∃u,r=.tuple #[u,vU .u32 (val xs%b)]/\Us .u32 h u (zB (val xs/b))):=by
 have hf:Fit xs:=hv.lt;refine cb2 43 v (vU .u32 b) func168 hs ?_;refine go3 ?_;refine asg (v:=vU .u32 0) I I (go6 ?_);refine jB (kd:=.u32) (by':=4) _ underlying27 uW I I I I I I I oM oM I ?_;intro H;refine go5 ?_;refine asg (v:=vU .u64 0) I I (qC ?_);refine gR (ι:=Nat×List Nat×Nat) (λ(j,D,r)=>j<=xs.length/\D.length=xs.length-j/\Fit D/\r<b/\val (xs.drop j)=b*val D+r) (λ(j,D,r)=>[(0,v),(1,vU .u32 b),(6,H),(7,vU .u64 r),(8,vI (↑j-1))]) (λ(j,D,r)=>[.us 124 .u32 H (fJ j D)]) (λ(j,D,r)=>h0) (λ(j,D,r)=>j) (xs.length,[],0) ?_ e5z ?_ I ?_
 · exact⟨zbe _,zo3,λx hx=>by simp at hx,hb,by rw[znu (zbe _)];rfl⟩
 ·
  try dsimp only[List.nil_append,List.cons_append]
  exact zbi (λz=>[Res.us 124 .u32 H z]) (lK _)
 rintro⟨j,D,r⟩ ⟨hj,ac,M,Z,C⟩
 refine yY ?_;refine gc7 (λO=>?_) λO=>?_
 ·
  refine go7 ?_;refine gv (fR (k:=.u64) (s:=32) (yk:=.u64) (W:=18446744073709551616) I I I I) I (go2 ?_);refine gv (zV (j-1) underlying27 sizeOf124 I I hv oM oM) I (go1 ?_);have U:=hv.get32 (j-1);refine go1 ?_;refine gv (rX (k:=.u64) I I I (by simp only[ub];omega) (by simp only[ub];omega)) I ?_;rw[cM oM U];generalize ht:r*4294967296+xs.getD (j-1) 0=t at *;have hq:t/b<4294967296:=z3u (by rw[<-ht];have h1:(r+1)*4294967296<=b*4294967296:=zgi _ Z;omega);refine uR ?_;refine gv (bV (k:=.u64) (W:=18446744073709551616) I I I I oM oM) I (gv (vX (k:=.u64) (k':=.u32) (W:=4294967296) underlying125 underlying124 I I I oM) I (gv (xH (A:=[]) (j-1) underlying27 sizeOf124 I I oM (by rw[jH];omega)) I (vH sizeOf124 I I (by rw[jH];omega) (go6 ?_))));refine gv (bU (k:=.u64) I I oM) I (go9 ?_);refine jW (j-1,t/b::D,t%b) ?_ ?_ ⟨I,I,I,I,?_,y5i⟩ ?_ I
  ·
   refine⟨zot,by simp only[lC];omega,rU.2 ⟨hq,M⟩,zcu _ hb,?_⟩;rw[kH xs (j-1) oM,show j-1+1=j by omega,val];exact zGB C ht.symm I I
  ·
   dsimp only;omega
  · exact y4e (zbi vI oM)
  try dsimp only[List.nil_append,List.cons_append]
  rw[lJ oM]
 refine go8 ?_;have aa:j=0:=by omega
 subst aa;rw[aB];refine yU (by exact M) ?_;intro h1 ae ho;refine cL (ev1 I) call92 (λw hs=>tS hs ho oM) λab h2 ad J=>(go1 ?_);refine gv (vX (k:=.u64) (k':=.u32) (W:=4294967296) underlying125 underlying124 I I I oM) I (go5 ?_);refine wY I I I ?_;simp only[ycu] at C;have e1:val xs/b=val D:=by rw[C,Nat.mul_add_div hb,z1i Z];omega
 have e2:val xs%b=r:=by rw[C,Nat.mul_add_mod,zoh Z]
 rw[e1,e2];exact⟨_,I,J⟩
theorem zGJ{v:Value}{X:Nat}(hv:Us .u32 h0 v (zB X))(hl:(zB X).length<=1099511627776):
 y8i 177 #[v] w0 h0 (λ_ r=>r=.string (qR (txt X))):=by
 have ar:=zP0 (wU X);rw[zE] at ar;refine cb1 65 v func177 hs ?_;refine rS ?_;refine cnd (λav=>?_) λav=>?_
 ·
  have bi:(zB X).length=0:=by omega
  refine go7 ?_;refine zC I I ?_;have e:X=0:=zdu λaa=>by have:=yP.2 aa;omega
  rw[e];rfl
 have bk:(zB X).length≠0:=by omega
 refine go4 ?_;refine eP (pV (v:=.slice none 0 0) I) I I I (zDZ (E:=5) (k:=.u8) (go4 ?_));refine gR (ι:=Value×Nat×Value×List Nat×Mem) (λ(va,n,Z,ds,J)=>MLe h0 J/\(Us .u32 J va (zB n)/\n<=X/\ds++j8 n=j8 (X))) (λ(va,n,Z,ds,J)=>[(0,va),(3,Z)]) (λ(va,n,Z,ds,J)=>[.us 5 .u8 Z ds]) (λ(va,n,Z,ds,J)=>J) (λ(va,n,Z,ds,J)=>n) (v,X,.slice none 0 0,[],h0) ?_ e2z I I ?_
 ·
  refine⟨MLe.refl _,?_⟩;exact⟨hv,zbe _,I⟩
 rintro⟨va,n,Z,ds,J⟩ ⟨ai,⟨ha,ao,ab⟩⟩
 refine yY ?_;have bb:(zB n).length<=(zB X).length:=yL ao;refine gc8 (λad=>?_) λad=>?_
 ·
  refine go6 ?_;refine cL (vs:=[_,vU .u32 1000000000]) e2z call168 (λw hs=>zGK hs ha oM oM oM) λbf h1 ap an=>?_;obtain⟨aj,rfl,D⟩:=an;rw[zE] at D ⊢;refine sH ?_;refine gR (ι:=Nat×Nat×Value×List Nat×Mem) (λ(i,x,M,C,O)=>MLe h1 O/\(i<=9/\x<10^(9-i)/\C++j8 (x+10^(9-i)*(n/1000000000))=j8 (X))) (λ(i,x,M,C,O)=>[(3,M),(4,aj),(5,vU .u32 x),(6,vI ↑i)]) (λ(i,x,M,C,O)=>[.us 5 .u8 M C]) (λ(i,x,M,C,O)=>O) (λ(i,x,M,C,O)=>9-i) (0,n%1000000000,Z,ds,h1) ?_ e4z I I ?_
  ·
   refine⟨MLe.refl _,?_⟩;exact⟨zot,zot,by rw[<-ab];congr 2;omega⟩
  rintro⟨i,x,M,C,O⟩ ⟨H,⟨hi,ah,U⟩⟩
  refine yY ?_;have bj:x<4294967296:=zme ah (zci (zju oM (show 9-i<=9 by omega)) dC);refine go5 ?_;refine gU 9 30 (vB (((i:Int)<9)/\(0<x\/(0:Int)<↑(zB (n/1000000000)).length))) ?_ ?_
  ·
   refine zY ((i:Int)<9) (λhg=>?_) (λhg=>?_)
   ·
    refine gT hg I (go3 ?_);refine gv (mT (k:=.u32) (q:=0) I I) I ?_;refine gU 5 29 (vB ((0<x)\/((0:Int)<↑(zB (n/1000000000)).length))) ?_ ?_
    ·
     refine zY (0<x) (λhg=>?_) (λhg=>?_)
     ·
      refine go1 ?_;refine gT hg I (go6 ?_);refine gqU ?_;exact y4e (uH hg)
     refine go1 ?_;refine gF hg I ?_;replace D:=D.mono H;refine go9 ?_;refine gqU ?_;exact y4e (uJ hg)
    refine go2 ?_;refine gqU ?_;exact y4e (xD hg)
   refine gF hg I (go9 ?_);refine gqU ?_;exact y4e (xE hg)
  refine gc2 (λac=>?_) λac=>?_
  ·
   have bc:C.length<=(j8 (X)).length:=by rw[<-U];simp
   refine go8 ?_;refine gv (bU (k:=.u32) (q:=10) I I oM) I (gv (sQ (k:=.u32) (p:=48) (W:=4294967296) I I I I oM) I (gv (vX (k:=.u32) (k':=.u8) (W:=256) underlying124 underlying5 I I I oM) I (zG (pM (kd:=.u8) underlying215 yBX I I I) I I I ?_)));intro be bh am;obtain rfl:=am;refine yU (by intro z hz;simp only[zui] at hz;subst hz;simp only[ub];omega) ?_;intro h2 az ba;refine xQ (A:=[]) (fF (kd:=.u8) (bytes:=1) underlying215 yBX I I I I I ba zo9 zo9) I I I ?_;intro aw bg ak;obtain rfl:=ak;refine go5 ?_;refine gv (bV (k:=.u32) (q:=10) (W:=4294967296) I I I I oM oM) I (go9 ?_);refine jW (i+1,x/10,aw,C++[48+x%10],h2) ?_ ?_ e4z I I
   ·
    refine⟨(H.trans az),?_⟩;obtain⟨h9,hor⟩:=ac;obtain⟨k,hk⟩:∃k,9-i=k+1:=⟨8-i,zot⟩;have bl:=yP (n:=n/1000000000);refine⟨zot,?_,?_⟩
    · rw[show 9-(i+1)=k by omega]
      rw[hk,zni] at ah;omega
    · rw[show 9-(i+1)=k by omega]
      rw[hk,zXK oM] at U;rw[zki];exact U
   dsimp only;omega
  refine uR ?_;refine jW (aj,n/1000000000,M,C,O) ?_ ?_ e2z I I
  ·
   refine⟨((ai.trans ap).trans H),?_⟩;replace D:=D.mono H;refine⟨D,zot,?_⟩;rw[<-U]
   congr 2
   by_cases h9:i=9
   · subst h9;simp at ah ⊢;omega
   · have h1:¬(0<x\/(0:Int)<↑(zB (n/1000000000)).length):=λh=>ac ⟨zot,h⟩
     have h2:n/1000000000=0:=zdu λaa=>h1 (.inr (by have:=yP.2 aa;omega));rw[h2,show x=0 by omega,z9i]
  dsimp only;have:=yP (n:=n);omega
 have ax:n=0:=zdu λaa=>ad (by have:=yP.2 aa;omega);subst ax;rw[zKN,zqi] at ab;have bd:ds.length<=10*(zB X).length:=by rw[ab];exact ar
 refine go8 ?_;refine gv (pG (A:=[]) underlying215 I) I (jB (kd:=.u8) (by':=1) (ds.length) underlying215 yBX I I I I I oM oM oM oM I ?_);intro ae;refine uR ?_;refine gR (ι:=Nat) (λ(k:(Nat))=>k<=ds.length) (λ(k:(Nat))=>[(3,Z),(7,ae),(8,vI ↑k)]) (λ(k:(Nat))=>[.us 5 .u8 ae (fJ (ds.length-k) (ds.take k).reverse),.us 5 .u8 Z ds]) (λ(k:(Nat))=>J) (λ(k:(Nat))=>ds.length-k) 0 ?_ e3z ?_ I ?_
 · exact zuu _
 ·
  try dsimp only[List.nil_append,List.cons_append]
  exact zbi (λz=>[Res.us 5 .u8 ae z,Res.us 5 .u8 Z ds]) (lK _)
 rintro k hk
 refine yY ?_;refine go5 ?_;refine gv (pG (A:=[_]) underlying215 I) I (gc3 (λau=>?_) λau=>?_)
 ·
  refine go7 ?_;refine gv (pG (A:=[_]) underlying215 I) I (go5 ?_);refine gv (xH (A:=[_]) (k) underlying215 sizeOf5 I I oM oM) I (gv (tC (A:=[_]) isAgg5 I oM) I (gv (xH (A:=[]) (ds.length-k-1) underlying215 sizeOf5 I I oM (by rw[jH,yyi,zei];omega)) I (vH sizeOf5 I I (by rw[jH,yyi,zei];omega) (go8 ?_))));refine jW (k+1) ?_ ?_ e3z ?_ I
  · omega
  · omega
  try dsimp only[List.nil_append,List.cons_append]
  rw[lJ oM,y4 ds k oM,List.reverse_append,List.reverse_singleton,List.singleton_append,Nat.sub_sub]
 refine go8 ?_;have ay:k=ds.length:=by omega
 rw[ay,yvi,aB,z6i];refine yU (by intro z hz;rw[ab] at hz;exact zUT _ z (List.mem_reverse.1 hz)) ?_;intro h1 ap aq;refine gv (zLK underlying215 underlying5 underlying9 I aq) I (go4 ?_);refine zC I I ?_;have e:X≠0:=yP.1 oM;rw[txt,zae e,<-ab]
theorem zZC{v:Value}{X n:Nat}(hv:Us .u32 h0 v (zB X))(hn:n<=16384)(hl:(zB X).length<=1099511627776):
 y8i 170 #[v,vI ↑n] w0 h0 (λh r=>Us .u32 h r (zB (X*2^n))):=by
 obtain⟨s,ba⟩:∃s,s=n%32:=⟨_,I⟩;have hp:2^s<=2147483648:=zju (n:=2) oM (show s<=31 by omega);have ak:0<2^s:=zwi oM;refine cb2 40 v (vI ↑n) func170 hs ?_;refine go8 ?_;refine gv (zGS (q:=32) I I oM oM oM) I (jB (kd:=.u32) (by':=4) (n/32) underlying27 uW I I I I I oM oM oM oM I ?_);intro aj;refine go5 ?_;refine asg (v:=vU .u64 0) I I (go9 ?_);refine gR (ι:=Value×List Nat×Nat×Mem) (λ(M,C,c,O)=>MLe h0 O/\(C.length<=(zB X).length/\Fit C/\c<2^s/\val C+4294967296^C.length*c=val ((zB X).take C.length)*2^s)) (λ(M,C,c,O)=>[(0,v),(1,vI ↑n),(5,M),(6,vU .u64 c),(7,vI ↑C.length)]) (λ(M,C,c,O)=>[.us 124 .u32 M (List.replicate (n/32) 0++C)]) (λ(M,C,c,O)=>O) (λ(M,C,c,O)=>(zB X).length-C.length) (aj,[],0,h0) ?_ e5z ?_ I ?_
 ·
  refine⟨MLe.refl _,?_⟩;exact⟨zo3,λx hx=>by simp at hx,ak,by simp[val]⟩
 ·
  try dsimp only[List.nil_append,List.cons_append]
  rw[zqi]
 rintro⟨M,C,c,O⟩ ⟨J,⟨az,ad,hc,D⟩⟩
 refine yY ?_;replace hv:=hv.mono J;refine gc9 (λah=>?_) λah=>?_
 ·
  refine go9 ?_;refine gv (zV (C.length) underlying27 sizeOf124 I I hv oM oM) I (go1 ?_);have ay:=hv.get32 C.length;have ax:(zB X).getD C.length 0*2^s<18446744073709551616-4294967296:=by
   have:=z7u (show(zB X).getD C.length 0<=4294967295 by omega) hp;omega
  refine go2 ?_;refine gv (wI (q:=32) I I oM oM) I ?_;rw[show(↑n:Int)%32=↑s by omega];refine gv (fR (k:=.u64) (s:=s) (yk:=.i64) (W:=18446744073709551616) I I I I) I ?_;rw[zoh oM];refine gv (rX (k:=.u64) I I I (by simp only[ub];omega) (by simp only[ub];omega)) I ?_;rw[zRI hc];refine go8 ?_;refine zG (pM (kd:=.u32) underlying27 uW I I I) I I I ?_;intro aq aw ab;obtain rfl:=ab;refine yU (by intro z hz;simp only[zui] at hz;subst hz;simp only[ub];omega) ?_;intro h1 ac am;refine xQ (A:=[]) (fF (kd:=.u32) (bytes:=4) underlying27 uW I I I I I am zo8 zo8) I I I ?_;intro ai av aa;obtain rfl:=aa;refine cD ?_;refine jW (ai,C++[((zB X).getD C.length 0*2^s+c)%4294967296],((zB X).getD C.length 0*2^s+c)/2^32,h1) ?_ ?_ ⟨I,I,I,I,?_,y5i⟩ ?_ I
  ·
   refine⟨(J.trans ac),?_⟩;refine⟨by simp;omega,uT ad (aM oM),?_,?_⟩
   · refine z3u ?_
     have:=zgi (2^s) (show(zB X).getD C.length 0+1<=2^32 by omega);rw[z2u] at this;omega
   · have e:=z8i ((zB X).getD C.length 0*2^s+c) 4294967296
     have e2:(2:Nat)^32=4294967296:=I;rw[lAz,zke,uX (zB X) _ oM,rN,zni,e2];generalize ((zB X).getD C.length 0*2^s+c)/4294967296=q at *;generalize ((zB X).getD C.length 0*2^s+c)%4294967296=r at *;grind
  ·
   dsimp only;simp;omega
  · exact y4e (zbi vI zo3)
  try dsimp only[List.nil_append,List.cons_append]
  rw[zki]
 refine uR ?_;refine zG (pM (kd:=.u32) underlying27 uW I I I) I I I ?_;intro ap au Z;obtain rfl:=Z;refine yU (by intro z hz;simp only[zui] at hz;subst hz;simp only[ub];omega) ?_;intro h1 ac ae;refine xQ (A:=[]) (fF (kd:=.u32) (bytes:=4) underlying27 uW I I I I I ae zo8 zo8) I I I ?_;intro ao ar U;obtain rfl:=U;refine yU (by exact uT (uT (kG _) ad) (aM oM)) ?_;intro h2 bc ho;refine cL (ev1 I) call92 (λw hs=>tS hs ho (by simp;omega)) λan h3 bb H=>(go4 ?_);refine zC I I ?_;have hk:C.length=(zB X).length:=by omega
 rw[wH oM,zE] at D;rw[zoh oM,zki,aW,bM,lR,rN,D,zIZ,zyi,show 32*(n/32)+s=n by omega] at H;exact H
theorem zZD{v:Value}{X n:Nat}(hv:Us .u32 h0 v (zB X))(hn:n<9223372036854775808)(hl:(zB X).length<=1099511627776):
 y8i 173 #[v,vI ↑n] w0 h0 (λh r=>Us .u32 h r (zB (X/2^n))):=by
 obtain⟨s,ai⟩:∃s,s=n%32:=⟨_,I⟩;refine cb2 55 v (vI ↑n) func173 hs ?_;refine go9 ?_;refine gv (zGS (q:=32) I I oM oM oM) I (gc5 (λaa=>?_) λaa=>?_)
 ·
  refine go7 ?_;refine zC I I ?_;rw[show X/2^n=0 from zM0 oM,xM];exact Us.nil _ _
 refine go6 ?_;refine gv (zGS (q:=32) I I oM oM oM) I ?_;rw[show(↑n:Int)/32=↑(n/32) by omega];refine gv (jI (n/32) underlying27 sizeOf124 I I hv.shape oM oM) I ?_;have D:=hv.sub (lo:=n/32) (hi:=(zB X).length) oM oM;rw[zvu (by rw[ziu];omega)] at D;have ao:(List.drop (n/32) (zB X)).length=(zB X).length-n/32:=ziu;refine go1 ?_;have O:Fit (List.drop (n/32) (zB X)):=dT (wU _) _;have ab:=kZ (wU X) (n/32);rw[zE] at ab;obtain⟨vR,ac⟩:∃z,z=tB 1 v (n/32) (zB X).length:=⟨_,I⟩;rw[<-ac] at D ⊢;generalize List.drop (n/32) (zB X)=Rs at *;refine go6 ?_;refine jB (kd:=.u32) (by':=4) (Rs.length) underlying27 uW I I I I I oM oM oM oM I ?_;intro H;refine uR ?_;refine gcL (ι:=List Nat) (λ(C:(List Nat))=>(C.length<=Rs.length/\C=(List.range C.length).map (iR s Rs),[(0,vR),(1,vI ↑n),(5,H),(6,vI ↑C.length)],[.us 124 .u32 H (tZ C Rs.length)],h0,Rs.length-C.length)) [] ?_ ?_
 · exact⟨zo3,I⟩
 rintro C ⟨ah,M⟩
 refine yY ?_;refine gc9 (λZ=>?_) λZ=>?_
 ·
  refine go8 ?_;refine gv (zV (C.length) underlying27 sizeOf124 I I D oM oM) I (go1 ?_);have an:=qY O C.length;have am:=qY O (C.length+1);refine go4 ?_;refine jM (ι:=Unit) (λ(_u:(Unit))=>True) (λ(_u:(Unit))=>[(0,vR),(1,vI ↑n),(5,H),(6,vI ↑C.length),(7,vU .u64 (Rs.getD C.length 0+4294967296*Rs.getD (C.length+1) 0))]) (λ(_u:(Unit))=>[.us 124 .u32 H (tZ C Rs.length)]) (λ(_u:(Unit))=>h0) ?_ ?_
  ·
   refine gc9 (λU=>?_) λU=>?_
   ·
    refine go5 ?_;refine gv (zV (C.length+1) underlying27 sizeOf124 I I D oM oM) I (go2 ?_);refine gv (fR (k:=.u64) (s:=32) (yk:=.u64) (W:=18446744073709551616) I I I I) I (gv (rX (k:=.u64) I I I (by simp only[ub];omega) (by simp only[ub];omega)) I ?_);rw[Nat.or_comm,cM oM oM];refine go2 ?_;refine zU (()) ?_ ⟨I,I,I,I,?_,y5i⟩ I I
    · trivial
    · exact y4e (zbi (vU .u64) oM)
   refine go1 ?_;refine zU (()) ?_ ⟨I,I,I,I,?_,y5i⟩ I I
   · trivial
   · exact y4e (zbi (vU .u64) (by rw[sV (xs:=Rs) (i:=C.length+1) oM];omega))
  rintro _u ad
  refine yY ?_;refine go5 ?_;refine gv (wI (q:=32) I I oM oM) I ?_;rw[show(↑n:Int)%32=↑s by omega];refine gv (fQ (k:=.u64) (s:=s) (yk:=.i64) I I I (by simp only[ub];omega)) I (go1 ?_);rw[zYW oM oM];refine gv (xH (A:=[]) (C.length) underlying27 sizeOf124 I I oM (by rw[uP oM];omega)) I (vH sizeOf124 I I (by rw[uP oM];omega) (go8 ?_));refine gqL (C++[iR s Rs C.length]) ?_ ?_ (he:=⟨I,I,I,?_,y5i⟩) (hL:=?_)
  ·
   refine⟨by simp;omega,?_⟩;rw[lAz,zke,yvu,zle,List.map_singleton,<-M]
  · simp;omega
  · exact y4e (zbi vI zo3)
  try dsimp only[List.nil_append,List.cons_append]
  rw[pP oM]
 refine go8 ?_;have hk:C.length=Rs.length:=by omega
 rw[aA hk];refine yU (by rw[M];intro z hz;obtain⟨w,_,rfl⟩:=zlu.1 hz;exact zTA s Rs w) ?_;intro h1 ak ho;refine cL (ev1 I) call92 (λw hs=>tS hs ho oM) λae h2 aj J=>(go4 ?_);refine zC I I ?_;rw[M,hk,zVN O,ab,zI9,show 32*(n/32)+s=n by omega] at J;exact J
theorem w3{v:Value}{X:Nat}(hv:Us .u32 h0 v (zB X)):
 y8i 167 #[v] w0 h0 (λ_ r=>r=.tuple #[vU .u64 (if(zB X).length<=2 then X else 0),vB ((zB X).length<=2)]):=by
 have Z:=hv.get32 0;have U:=hv.get32 1;have aa:=zE X;have O:=hv.lt63;refine cb1 26 v func167 hs ?_;refine go2 ?_;refine asg (v:=vU .u64 0) I I (nY ?_);refine cnd (λM=>?_) λM=>?_
 ·
  refine go2 ?_;refine asg (v:=vU .u64 0) I I (go6 ?_);refine wY I I I ?_;have h0:X=0:=zdu λH=>by have:=yP.2 H;omega
  rw[xW oM,zau oM,h0]
 refine gc6 (λJ=>?_) λJ=>?_
 ·
  have D:=zA5 (xs:=zB X) oM;refine go3 ?_;refine gv (zV (q:=0) (0) underlying27 sizeOf124 I I hv I oM) I (go9 ?_);refine wY I I I ?_;rw[xW oM,zau oM,<-D,zE]
 refine gc6 (λC=>?_) λC=>?_
 ·
  refine go1 ?_;refine zJ 12 _ [] (zai 0 12 []) zX nX zou nX (λr hr=>hr) (go1 ?_);refine w_q I (λh' L' hh hR=>zV (q:=0) (0) underlying27 sizeOf124 I I (hv.mono hh) I oM) I (w_q I (λh' L' hh hR=>wB isAgg124 I (hv.mono hh) oM) I (go2 ?_));refine w_q I (λh' L' hh hR=>zV (q:=1) (1) underlying27 sizeOf124 I I (hv.mono hh) I oM) I (w_q I (λh' L' hh hR=>wB isAgg124 I (hv.mono hh) oM) I (go1 ?_));refine wZ I (λ_ _=>fR (k:=.u64) (s:=32) (yk:=.u64) (W:=18446744073709551616) I I I I) I (wZ I (λ_ _=>rX (k:=.u64) I I I (by simp only[ub];omega) (by simp only[ub];omega)) I ?_);rw[Nat.or_comm,cM oM oM];refine go7 ?_;refine wY I I I ?_;have h1:=uO (zB X) 1;have h2:=uO (zB X) 0;rw[wH oM,zE] at h1;rw[List.take_zero] at h2;simp only[val,zyi] at h2;rw[xW oM,zau oM];have e:(zB X).getD 1 0*4294967296+(zB X).getD 0 0=X:=by omega
  rw[e]
 refine go5 ?_;refine asg (v:=vU .u64 0) I I (go4 ?_);refine wY I I I ?_;rw[yM oM,zae oM]
theorem zEM{v:Value}{X k:Nat}(hv:Us .u32 h0 v (zB X))(hk:k<=4398046511104)(hl:(zB X).length<=4398046511104):
 y8i 171 #[v,vI ↑k] w0 h0 (λh r=>Us .u32 h r (zB (X*4294967296^k))):=by
 refine cb2 12 v (vI ↑k) func171 hs ?_;refine rS ?_;refine cnd (λH=>?_) λH=>?_
 ·
  have h0:X=0:=zdu λD=>by have:=yP.2 D;omega
  refine go7 ?_;refine zC I I ?_;rw[h0,zwe,xM];exact Us.nil _ _
 have h0:X≠0:=yP.1 oM;refine go5 ?_;refine jB (kd:=.u32) (by':=4) (k) underlying27 uW I I I I I oM oM oM oM I ?_;intro Z;refine go1 ?_;refine xQ (A:=[]) (fF (kd:=.u32) (bytes:=4) underlying27 uW I I I I I hv (by rw[lR];omega) (by rw[lR];omega)) I I I ?_;intro J M C;obtain rfl:=C;refine yU (by exact uT (kG _) (wU _)) ?_;intro h1 U O;refine go4 ?_;refine zC I I ?_;rw[<-zO6 h0];exact O
end
set_option maxHeartbeats 1000000 in
section
variable{w0:World}{h0:Mem}(hs:MLe h0 (mem w0))
include hs
theorem zLC{v v':Value}{X Y:Nat}(hv:Us .u32 h0 v (zB X))(hv':Us .u32 h0 v' (zB Y))(hl:(zB X).length<=549755813888)(hl':(zB Y).length<=549755813888):
 y8i 127 #[v,v'] w0 h0 (λh z=>∃q r,z=.tuple #[q,r,vI (if Y=0 then 3 else 0)]/\Us .u32 h q (zB (X/Y))/\Us .u32 h r (zB (if Y=0 then 0 else X%Y))):=by
 refine cb2 163 v v' func127 hs ?_;refine qE ?_;refine gv (vW underlying27 I hv') I (gc3 (λck=>?_) λck=>?_)
 ·
  have cq:Y=0:=zdu λcz=>by have:=yP.2 cz;omega
  refine go9 ?_;refine qU I I I I ?_;rw[cq,Nat.div_zero,zau I,zau I,xM];exact⟨_,_,I,Us.nil _ _,Us.nil _ _⟩
 have C:Y≠0:=yP.1 oM;refine go7 ?_;refine cL (ev2 I I) call49 (λw hs=>oQ hs hv hv') λeh h1 ax bx=>?_;subst bx;refine gc3 (λaq=>?_) λaq=>?_
 ·
  have Z:=rV.1 aq;refine go3 ?_;replace hv:=hv.mono ax;refine cL (ev1 I) call92 (λw hs=>tS hs hv oM) λeg h2 ao bb=>?_;rw[zE] at bb;refine go7 ?_;refine qU I I I I ?_;rw[z1i Z,zoh Z,zae C,zae C,xM];exact⟨_,_,I,Us.nil _ _,bb⟩
 have cc:Y<=X:=yfe λhc=>aq (rV.2 hc);have eq:=yL cc;refine go6 ?_;replace hv:=hv.mono ax;refine cL (ev1 I) call167 (λw hs=>w3 hs hv) λef h2 ao bw=>?_;subst bw;refine zI8 (λap=>?_) λap=>?_
 ·
  have hw:=nJ ap;have ej:=nJ (n:=Y) oM;refine go3 ?_;replace hv':=hv'.mono (ax.trans ao);refine cL (ev1 I) call167 (λw hs=>w3 hs hv') λee h3 aw bv=>?_;subst bv;refine go2 ?_;rw[zau ap,zau (show(zB Y).length<=2 by omega)];refine go6 ?_;refine zJ 11 _ [] [(0,.q),(1,.q),(2,.q),(4,.q),(5,.q),(6,.q),(3,.c),(7,.c),(8,.q),(9,.q),(10,.q)] zX nX zou nX (λr hr=>hr) (go2 ?_);refine wZ I (λ_ _=>bV (k:=.u64) (W:=18446744073709551616) I I I I oM oM) I (go2 ?_);refine wZ I (λ_ _=>bU (k:=.u64) I I oM) I ?_;refine w_c I ?_;have du:=zti X Y;have bq:=zcu X (zii C);refine sC (ev1 I) call96 (λw hs=>zAH hs oM) λed h4 av ah=>?_;refine w_c I (sC (ev1 I) call96 (λw hs=>zAH hs oM) λec h5 bj bu=>(go2 ?_));refine zXV (v:=vI (0)) I I I (go4 ?_);refine qU I I I I ?_;replace ah:=ah.mono bj;rw[zae C,zae C];exact⟨_,_,I,ah,bu⟩
 refine go6 ?_;replace hv':=hv'.mono (ax.trans ao);refine gv (vW underlying27 I hv') I (gc3 (λcj=>?_) λcj=>?_)
 ·
  have bc:(zB Y).length=1:=by omega
  have dd:(zB Y).getD 0 0≠0:=by have:=rD (n:=Y) oM;rwa [bc] at this
  have bo:=zA5 bc;rw[zE] at bo;refine go4 ?_;refine gv (zV (q:=0) (0) underlying27 sizeOf124 I I hv' I oM) I (gv (wB isAgg124 I hv' oM) I ?_);have eu:=hv'.get32 0;replace hv:=hv.mono ao;refine cL (ev2 I I) call168 (λw hs=>zGK hs hv oM oM oM) λeb h3 aw bt=>?_;obtain⟨ei,rfl,M⟩:=bt;rw[zE] at M ⊢;have bq:=zcu X (zii dd);refine qC ?_;refine cL (ev1 I) call96 (λw hs=>zAH hs oM) λea h4 av ba=>(go7 ?_);refine qU I I I I ?_;replace M:=M.mono av;rw[<-bo] at M ba;rw[zae C,zae C];exact⟨_,_,I,M,ba⟩
 have ca:2<=(zB Y).length:=by omega
 refine go6 ?_;refine gv (vW underlying27 I hv') I (go1 ?_);refine gv (jI ((zB Y).length-1) underlying27 sizeOf124 I I hv'.shape oM oM) I ?_;have ae:=hv'.sub (lo:=(zB Y).length-1) (hi:=(zB Y).length) oM oM;rw[zvu (by rw[ziu];omega),zSE oM] at ae;have hgt:=hv'.get32 ((zB Y).length-1);have ek:=gN (n:=(zB Y).getD ((zB Y).length-1) 0) oM;have dy:=oE (n:=(zB Y).getD ((zB Y).length-1) 0) (k:=32) hgt;refine cL (ev1 I) call169 (λw hs=>zZE hs ae oM) λdz h3 aw bs=>?_;subst bs;refine gv (qT (p:=32) I I oM oM) I ?_;obtain⟨s,cy⟩:∃s,s=32-uU ((zB Y).getD ((zB Y).length-1) 0):=⟨_,I⟩;rw[show(32:Int)-↑(uU ((zB Y).getD ((zB Y).length-1) 0))=↑s by omega];obtain⟨bp,ad,cv⟩:=zG9 (k:=(zB Y).length-1) C oM cy;refine go7 ?_;replace hv':=hv'.mono aw;refine cL (ev2 I I) call170 (λw hs=>zZC hs hv' oM oM) λar h4 av D=>(go2 ?_);replace hv:=hv.mono ((ao.trans aw).trans av);refine cL (ev2 I I) call170 (λw hs=>zZC hs hv oM oM) λco h5 bj az=>(go2 ?_);replace D:=D.mono bj;replace ad:(zB (Y*2^s)).length=(zB Y).length:=by omega
 have cl:=rJ (n:=Y*2^s) (k:=(zB Y).length-1) oM;generalize en:(zB Y).length=n at *;obtain⟨V,hV⟩:∃V,V=Y*2^s:=⟨_,I⟩;obtain⟨U,hU⟩:∃U,U=X*2^s:=⟨_,I⟩;rw[<-hV] at D ad cv cl;rw[<-hU] at az;have cn:=zS3 ca ad;rw[zE] at cn;have cu:=gG (fZ (wU V) (n-2));rw[zei,ztu oM] at cu;have ey:(zB U).length<=(zB X).length+1:=by rw[hU];exact zci (yO X (2^s)) (Nat.add_le_add_left (qL (k:=1) (by rw[Nat.pow_one];exact zme (Nat.pow_lt_pow_right dC bp) dC)) _)
 have dh:V<=U:=by rw[hV,hU];exact zgi _ cc
 have bz:=yL dh;rw[ad] at bz;have cw:=zQW (uZ U) cl oM bz;generalize br:(zB U).length=r at *;have dt:=qY (wU V) (n-1);refine go6 ?_;rw[ad];refine go7 ?_;rw[br];refine go3 ?_;refine jB (kd:=.u32) (by':=4) (r-n+1) underlying27 uW I I I I I oM oM oM oM I ?_;intro H;refine go8 ?_;rw[br];refine go6 ?_;refine gR (ι:=Nat×Value×Nat×List Nat×Mem) (λ(K,vr,R,qs,k1)=>MLe h5 k1/\(Us .u32 k1 vr (zB R)/\K<=r-n+1/\qs.length=r-n+1-K/\Fit qs/\R+4294967296^K*(val qs*V)=U/\R<4294967296^K*V/\(zB R).length<=r)) (λ(K,vr,R,qs,k1)=>[(1,ar),(4,H),(5,vr),(13,vI ↑s),(14,vI ↑n),(15,vI (↑K-1))]) (λ(K,vr,R,qs,k1)=>[.us 124 .u32 H (fJ K qs)]) (λ(K,vr,R,qs,k1)=>k1) (λ(K,vr,R,qs,k1)=>K) (r-n+1,co,U,[],h5) ?_ ⟨?_,?_,?_,?_,?_,?_,y5i⟩ ?_ I ?_
 ·
  refine⟨MLe.refl _,?_⟩;exact⟨az,zbe _,zo3,λx hx=>by simp at hx,by simp[val],cw,zot⟩
 · exact I
 · exact I
 · exact I
 · exact I
 · exact I
 · exact y4e (zbi vI oM)
 ·
  try dsimp only[List.nil_append,List.cons_append]
  exact zbi (λz=>[Res.us 124 .u32 H z]) (lK _)
 rintro⟨K,vr,R,qs,k1⟩ ⟨bd,⟨hR,hK,em,cd,ab,Z,ez⟩⟩
 refine yY ?_;refine gc7 (λci=>?_) λci=>?_
 ·
  refine go6 ?_;refine asg (v:=vU .u64 0) I I (go2 ?_);have ew:=qY (wU R) (K-1+n);have ev:=qY (wU R) (K-1+n-1);have de:=qY (wU R) (K-1+n-2);refine jM (ι:=Unit) (λ(_u:(Unit))=>True) (λ(_u:(Unit))=>[(1,ar),(4,H),(5,vr),(13,vI ↑s),(14,vI ↑n),(15,vI (↑K-1)),(16,vU .u64 ((zB R).getD (K-1+n) 0))]) (λ(_u:(Unit))=>[.us 124 .u32 H (fJ K qs)]) (λ(_u:(Unit))=>k1) ?_ ?_
  ·
   refine zAY (λch=>?_) λch=>?_
   ·
    refine go5 ?_;refine gv (zV (K-1+n) underlying27 sizeOf124 I I hR oM oM) I (go4 ?_);refine zU (()) ?_ e7 I I
    trivial
   refine go1 ?_;refine zU (()) ?_ ⟨I,I,I,I,I,I,?_,y5i⟩ I I
   · trivial
   · exact y4e (zbi (vU .u64) (by rw[sV (xs:=zB R) oM]))
  rintro _u cg
  refine yY ?_;refine jM (ι:=Unit) (λ(_u:(Unit))=>True) (λ(_u:(Unit))=>[(1,ar),(4,H),(5,vr),(13,vI ↑s),(14,vI ↑n),(15,vI (↑K-1)),(16,vU .u64 ((zB R).getD (K-1+n) 0*4294967296+(zB R).getD (K-1+n-1) 0))]) (λ(_u:(Unit))=>[.us 124 .u32 H (fJ K qs)]) (λ(_u:(Unit))=>k1) ?_ ?_
  ·
   refine zD0 (λbk=>?_) λbk=>?_
   ·
    refine go2 ?_;refine gv (fR (k:=.u64) (s:=32) (yk:=.u64) (W:=18446744073709551616) I I I I) I (go5 ?_);refine gv (zV (K-1+n-1) underlying27 sizeOf124 I I hR oM oM) I (go2 ?_);refine gv (rX (k:=.u64) I I I (by simp only[ub];omega) (by simp only[ub];omega)) I ?_;rw[cM oM oM];refine go2 ?_;refine zU (()) ?_ e7 I I
    trivial
   refine go2 ?_;refine gv (fR (k:=.u64) (s:=32) (yk:=.u64) (W:=18446744073709551616) I I I I) I (go2 ?_);refine zU (()) ?_ ⟨I,I,I,I,I,I,?_,y5i⟩ I I
   · trivial
   · exact y4e (zbi (vU .u64) (by rw[sV (xs:=zB R) (i:=K-1+n-1) oM];omega))
  rintro _u cg
  refine yY ?_;have df:V<4294967296^n:=by rw[<-ad];exact uZ V
  have di:R<4294967296^(K+n):=zme Z (by rw[zne];exact zsi _ (yli df));have cp:∀i,K+n<=i->(zB R).getD i 0=0:=λi hi=>iG (by rw[zE];exact di) hi;obtain⟨wr,hW,ct⟩:=zJF (j:=K-1) ca (λi hi=>cp i oM) (wU R);rw[kZ (wU R),zE] at hW;have cm:=zZF (R:=R) (V:=V) (k:=K-1) (by rw[zzi oM];exact Z);obtain⟨top,ay⟩:∃t,t=(zB R).getD (K-1+n) 0*4294967296+(zB R).getD (K-1+n-1) 0:=⟨_,I⟩;rw[<-ay];rw[<-ay] at hW;have el:top<18446744073709551616:=by omega
  have ce:=zWZ (by rw[hW] at cm ⊢;exact zZG cn I de ct oM cm);have dr:0<(zB V).getD (n-1) 0:=by omega
  refine go6 ?_;replace D:=D.mono bd;refine gv (zV (n-1) underlying27 sizeOf124 I I D oM oM) I (go2 ?_);refine gv (bV (k:=.u64) (W:=18446744073709551616) I I I I oM oM) I (gv (zZ1 (k:=.u64) (q:=4294967295) I I) I ?_);rw[Nat.min_def];rw[<-Nat.min_def];refine go7 ?_;refine gv (vX (k:=.u64) (k':=.u32) (W:=4294967296) underlying125 underlying124 I I I oM) I (cL (ev2 I I) call172 (λw hs=>zVY hs D oM oM) λdq h6 an bi=>?_);have ep:=yO V (min (top/(zB V).getD (n-1) 0) 4294967295);have er:=gN (n:=min (top/(zB V).getD (n-1) 0) 4294967295) oM;refine go1 ?_;rw[show(↑K:Int)-1=↑(K-1) by omega];refine cL (ev2 I I) call171 (λw hs=>zEM hs bi oM oM) λbn h7 am bh=>(go5 ?_);refine gR (ι:=Value×Nat×Mem) (λ(vp,d,k2)=>MLe h7 k2/\(Us .u32 k2 vp (zB (V*d*4294967296^(K-1)))/\d<=4294967295/\R<V*(d+1)*4294967296^(K-1))) (λ(vp,d,k2)=>[(1,ar),(4,H),(5,vr),(13,vI ↑s),(14,vI ↑n),(15,vI ↑(K-1)),(17,vU .u64 d),(18,vp)]) (λ(vp,d,k2)=>[.us 124 .u32 H (fJ K qs)]) (λ(vp,d,k2)=>k2) (λ(vp,d,k2)=>d) (bn,min (top/(zB V).getD (n-1) 0) 4294967295,h7) ?_ e8 I I ?_
  ·
   refine⟨MLe.refl _,?_⟩;exact⟨bh,Nat.min_le_right _ _,ce⟩
  rintro⟨vp,d,k2⟩ ⟨ac,⟨hp,es,da⟩⟩
  refine yY ?_;refine go5 ?_;replace hR:=hR.mono ((an.trans am).trans ac);refine cL (ev2 I I) call49 (λw hs=>oQ hs hp hR) λdp h8 O bg=>?_;subst bg;refine gc3 (λaa=>?_) λaa=>?_
  ·
   have hgt:=zPX.1 aa;have cf:1<=d:=zii λh0=>by rw[h0,z9i,zwe] at hgt;omega
   obtain⟨dc,db⟩:=yE1 (V:=V) (p:=4294967296^(K-1)) cf;refine go6 ?_;refine gv (lE (k:=.u64) (q:=1) (W:=18446744073709551616) I I I I oM oM) I (go7 ?_);replace D:=D.mono (((an.trans am).trans ac).trans O);refine cL (ev2 I I) call171 (λw hs=>zEM hs D oM oM) λdn h9 au bf=>?_;have eo:=zI2 (V*d) (K-1);have dw:=yO V d;have dv:=gN (n:=d) oM;replace hp:=hp.mono (O.trans au);refine cL (ev2 I I) call128 (λw hs=>zDD hs hp bf db oM) λbm dk cb aj=>?_;rw[dc] at aj;refine go3 ?_;refine jW (bm,d-1,dk) ?_ ?_ e8 I I
   ·
    refine⟨(((ac.trans O).trans au).trans cb),?_⟩;exact⟨aj,zot,by rw[zzi cf];exact hgt⟩
   dsimp only;omega
  have ak:V*d*4294967296^(K-1)<=R:=yfe λhc=>aa (zPX.2 hc);refine uR ?_;refine gv (vX (k:=.u64) (k':=.u32) (W:=4294967296) underlying125 underlying124 I I I oM) I (gv (xH (A:=[]) (K-1) underlying27 sizeOf124 I I oM (by rw[jH];omega)) I (vH sizeOf124 I I (by rw[jH];omega) (go5 ?_)));replace hR:=hR.mono O;replace hp:=hp.mono O;refine cL (ev2 I I) call128 (λw hs=>zDD hs hR hp ak oM) λbl h9 au be=>(go9 ?_);refine jW (K-1,bl,R-V*d*4294967296^(K-1),d::qs,h9) ?_ ?_ ⟨I,I,I,I,I,?_,y5i⟩ ?_ I
  ·
   refine⟨(((((bd.trans an).trans am).trans ac).trans O).trans au),?_⟩;have eK:(4294967296:Nat)^K=4294967296^(K-1)*4294967296:=by rw[<-zni,Nat.succ_eq_add_one,zzi oM]
   rw[eK] at ab;have dx:=yL (yiu R (V*d*4294967296^(K-1)));exact⟨be,zot,by simp only[lC];omega,rU.2 ⟨zot,cd⟩,yE0 ab ak,yND da ak,zot⟩
  ·
   dsimp only;omega
  · exact y4e (zbi vI oM)
  try dsimp only[List.nil_append,List.cons_append]
  rw[lJ oM]
 refine go6 ?_;have dj:K=0:=by omega
 subst dj;rw[aB];rw[y3i,yne] at ab Z;refine go2 ?_;refine yU (by exact cd) ?_;intro h6 an hq;refine cL (ev1 I) call92 (λw hs=>tS hs hq oM) λdm h7 am J=>(go2 ?_);replace hR:=hR.mono (an.trans am);refine cL (ev2 I I) call173 (λw hs=>zZD hs hR oM oM) λdl h8 O ai=>(go6 ?_);refine qU I I I I ?_;replace J:=J.mono O;obtain⟨e1,e2⟩:=zUK (X:=X) (Y:=Y) (s:=s) (u:=R) (q:=val qs) oM (by rw[<-hV,<-hU];exact ab) (by rw[<-hV];exact Z);rw[e1] at J;rw[e2] at ai;rw[zae C,zae C];exact⟨_,_,I,J,ai⟩
theorem yE3{v v':Value}{A B:Nat}(hv:Us .u32 h0 v (zB A))(hv':Us .u32 h0 v' (zB B))(hl:(zB A).length<=549755813888)(hl':(zB B).length<=549755813888):
 y8i 126 #[v,v'] w0 h0 (λh r=>Us .u32 h r (zB (Nat.gcd A B))):=by
 obtain⟨G,hG⟩:∃G,G=Nat.gcd A B:=⟨_,I⟩;rw[<-hG];refine cb2 51 v v' func126 hs ?_;refine go8 ?_;refine cL (ev1 I) call92 (λw hs=>tS hs hv oM) λaj h1 au U=>?_;rw[zE] at U;refine go1 ?_;replace hv':=hv'.mono au;refine cL (ev1 I) call92 (λw hs=>tS hs hv' oM) λai h2 bf O=>?_;rw[zE] at O;refine go6 ?_;refine gcL (ι:=Value×Nat×Value×Nat×Mem) (λ(vx,X,vy,Y,k1)=>(MLe h2 k1/\(Us .u32 k1 vx (zB X)/\Us .u32 k1 vy (zB Y)/\Nat.gcd X Y=G/\(zB X).length<=549755813888/\(zB Y).length<=549755813888),[(0,vx),(1,vy)],[],k1,Y)) (aj,A,ai,B,h2) ?_ ?_
 · exact⟨mle,U.up,O,hG.symm,zot,zot⟩
 rintro⟨vx,X,vy,Y,k1⟩ ⟨aw,⟨ha,hb,M,be,aq⟩⟩
 refine yY ?_;refine gc8 (λah=>?_) λah=>?_
 ·
  have J:Y≠0:=yP.1 oM;refine go6 ?_;refine cL (ev1 I) call167 (λw hs=>w3 hs ha) λba h3 ae ac=>?_;subst ac;refine uR ?_;replace hb:=hb.mono ae;refine cL (ev1 I) call167 (λw hs=>w3 hs hb) λaz h4 ad ab=>?_;subst ab;refine qE ?_;refine gU 3 32 (vB (((zB X).length<=2)/\((zB Y).length<=2))) ?_ ?_
  ·
   refine zY ((zB X).length<=2) (λM=>?_) (λM=>?_)
   ·
    refine gT M I (go4 ?_);refine gqU ?_;exact y4e (xD M)
   refine gF M I (go3 ?_);refine gqU ?_;exact y4e (xE M)
  refine gc2 (λC=>?_) λC=>?_
  ·
   rw[zau C.1,zau C.2];have an:=nJ C.1;have am:=nJ C.2;refine go2 ?_;refine gcL (ι:=Nat×Nat) (λ(m,n)=>(Nat.gcd m n=G/\m<18446744073709551616/\n<18446744073709551616,[(5,vU .u64 m),(7,vU .u64 n)],[],h4,n)) (X,Y) ?_ ?_
   · exact⟨M,an,am⟩
   rintro⟨m,n⟩ ⟨Z,hm,hn⟩
   refine yY ?_;refine go4 ?_;refine gv (tU (k:=.u64) (q:=0) I I) I (gc2 (λH=>?_) λH=>?_)
   ·
    refine go3 ?_;refine zJ 6 _ [] (zai 0 6 []) zX nX zou nX (λr hr=>hr) (go3 ?_);refine wZ I (λ_ _=>bU (k:=.u64) I I oM) I (go4 ?_);refine gqL (n,m%n) ?_ ?_
    ·
     have bc:=zcu m (zii H);exact⟨by rw[mX];exact Z,hn,zot⟩
    exact zcu _ (zii H)
   refine go8 ?_;refine cL (ev1 I) call96 (λw hs=>zAH hs oM) λay h5 ar aa=>(go9 ?_);refine zC I I ?_;have ap:n=0:=zdi H;rw[ap,yie] at Z;rw[<-Z];exact aa
  refine go6 ?_;replace ha:=ha.mono (ae.trans ad);replace hb:=hb.mono ad;refine cL (ev2 I I) call127 (λw hs=>zLC hs ha hb oM oM) λax h5 ar D=>?_;obtain⟨bb,ak,rfl,av,D⟩:=D;rw[zae J] at D;have bd:=yL (yli (zcu X (zii J)));refine dQ ?_;refine gqL (vy,Y,ak,X%Y,h5) ?_ ?_
  · exact⟨mle,hb.up,D,by rw[mX];exact M,aq,zot⟩
  exact zcu _ (zii J)
 have J:Y=0:=zdu λao=>by have:=yP.2 ao;omega
 refine qC ?_;refine zC I I ?_;rw[J,yie] at M;rw[<-M];exact ha
theorem zTI:
 y8i 157 #[] w0 h0 (λh r=>Us .u32 h r [1]):=by
 refine cb0 2 func157 hs ?_;refine go7 ?_;refine zG (pM (kd:=.u32) (p:=1) underlying27 uW I I I) I I I ?_;intro v1 r1 C;obtain rfl:=C;refine yU (by intro z hz;simp only[zui] at hz;subst hz;decide) ?_;intro h1 D h1;refine go4 ?_;refine zC I I ?_;exact h1
theorem sE{sa:Bool}{vna vda:Value}{na da:List Nat}(hna:Us .u32 h0 vna na)(hda:Us .u32 h0 vda da):
 Calls prog 166 #[.agg #[.bool sa,vna,vda]] w0 (Ret w0 h0 (λh r=>Us .u32 h r (if da=[] then[1] else da))):=by
 refine cb1 10 (.agg #[.bool sa,vna,vda]) func166 hs ?_;refine go2 ?_;refine zG (vG (cs:=[_,_,_]) I I) I I I ?_;intro v1 r1 H;obtain⟨U,rfl,rfl⟩:=H;refine zI8 (λD=>?_) λD=>?_
 ·
  refine go2 ?_;refine cL (vs:=[]) trivial call157 (λw hs=>zTI hs) λO h1 M C=>?_;rw[w5] at C;have J:=zMC;refine go5 ?_;refine zC I I ?_;rw[zau (zof oM),w5];exact C
 refine uR ?_;refine zC I I ?_;rw[zae (λh=>D (by rw[h];rfl))];exact hda
theorem zBM{v:Value}{xs:List Nat}(hv:Us .u32 h0 v xs)(hl:xs.length<=2):
 y8i 188 #[v] w0 h0 (λ_ r=>r=vU .u64 (val xs)):=by
 have hf:Fit xs:=hv.lt;refine cb1 21 v func188 hs ?_;refine go2 ?_;refine asg (v:=vU .u64 0) I I (go4 ?_);refine asg (v:=vU .u64 0) I I (qC ?_);have D:val (xs.drop xs.length)=0:=by rw[znu (zbe _)];rfl
 refine gR (ι:=Nat) (λ(j:(Nat))=>j<=xs.length) (λ(j:(Nat))=>[(0,v),(3,vU .u64 (val (xs.drop j))),(4,vI (↑j-1))]) (λ(j:(Nat))=>[]) (λ(j:(Nat))=>h0) (λ(j:(Nat))=>j) xs.length ?_ ⟨?_,?_,?_,y5i⟩ I I ?_
 · exact zbe _
 · exact I
 · exact y4e (zbi (vU .u64) D.symm)
 · exact I
 rintro j J
 refine yY ?_;refine gc7 (λH=>?_) λH=>?_
 ·
  refine go6 ?_;refine gv (fR (k:=.u64) (s:=32) (yk:=.u64) (W:=18446744073709551616) I I I I) I (go2 ?_);refine gv (zV (j-1) underlying27 sizeOf124 I I hv oM oM) I (go1 ?_);have C:=hv.get32 (j-1);refine go1 ?_;refine gv (rX (k:=.u64) I I I (by simp only[ub];omega) (by simp only[ub];omega)) I ?_;rw[cM (by
   have h2:=gG (dT hf j);rw[ziu] at h2;have h3:(4294967296:Nat)^(xs.length-j)<=4294967296^1:=zju oM oM;omega) C]
  refine go9 ?_;refine jW (j-1) ?_ ?_ ⟨I,?_,?_,y5i⟩ I I
  · omega
  · omega
  ·
   rw[kH xs (j-1) oM];exact y4e (zbi (vU .u64) (by rw[show j-1+1=j by omega];omega))
  · exact y4e (zbi vI oM)
 refine qC ?_;refine zC I I ?_;rw[show j=0 by omega];rfl
theorem zNZ{m n:Nat}(hm0:m<18446744073709551616)(hn0:n<18446744073709551616):
 y8i 198 #[vU .u64 m,vU .u64 n] w0 h0 (λ_ r=>r=vU .u64 (Nat.gcd m n)):=by
 refine cb2 12 (vU .u64 m) (vU .u64 n) func198 hs ?_;refine go2 ?_;refine asg (v:=vU .u64 0) I I (go4 ?_);refine gcL (ι:=Nat×Nat) (λ(x,y)=>(Nat.gcd x y=Nat.gcd m n/\x<18446744073709551616/\y<18446744073709551616,[(0,vU .u64 x),(1,vU .u64 y)],[],h0,y)) (m,n) ?_ ?_
 · exact⟨I,hm0,hn0⟩
 rintro⟨x,y⟩ ⟨D,U,M⟩
 refine yY ?_;refine go4 ?_;refine gv (tU (k:=.u64) (q:=0) I I) I (gc2 (λC=>?_) λC=>?_)
 ·
  refine go3 ?_;refine zJ 6 _ [] (zai 0 6 []) zX nX zou nX (λr J=>J) (go3 ?_);refine wZ I (λ_ _=>bU (k:=.u64) I I oM) I (go4 ?_);refine gqL (y,x%y) ?_ ?_
  ·
   have O:=zcu x (zii C);exact⟨by rw[mX];exact D,M,zot⟩
  exact zcu _ (zii C)
 refine qC ?_;refine zC I I ?_;have H:y=0:=zdi C;rw[H,yie] at D;rw[D]
theorem zZI{n:Int}(hn:-9223372036854775808<=n)(hn':n<9223372036854775808):
 y8i 156 #[vI n] w0 h0 (λh r=>Us .u32 h r (zB n.natAbs)):=by
 refine cb1 12 (vI n) func156 hs ?_;refine zI8 (λM=>?_) λM=>?_
 ·
  have H:n.natAbs=9223372036854775808:=by omega
  refine go2 ?_;refine cL (vs:=[vU .u64 9223372036854775808]) ⟨I,y5i⟩ call192 (λw hs=>nat_of hs oM) λU h1 J D=>(go5 ?_);refine zC I I ?_;rw[H];exact D
 refine go6 ?_;refine gv (mR I oM oM) I (gv (zN4 I I) I (gv (zAJ (p:=n.natAbs) (k':=.u64) (W:=18446744073709551616) underlying2 underlying125 I I (y4e (zbi vI oM)) oM) I (cL (ev1 I) call192 (λw hs=>nat_of hs oM) λO h1 J C=>(go4 ?_))));refine zC I I ?_;exact C
end
theorem zJO{w0 w:World}{h0 h:Mem}{v u:Value}{xs:List Nat}{L:List Res}{lo n:Nat}(hu:u=tB 1 v lo xs.length)(hlo:lo+2<=xs.length)(hn0:n≠0)(hn:n<18446744073709551616)(hs:St w0 h0 (.us 124 .u32 v xs::L) h w):
 Calls prog 199 #[u,vU .u64 n] w (tP w0 h0 (λg r K=>g=h/\K=.us 124 .u32 v (xs.take lo++zB n++xs.drop (lo+(zB n).length))::L/\r=vI ↑(zB n).length)):=by
 refine qK (n:=17) (e:=[(0,u),(1,vU .u64 n)]) (vs:=[u,vU .u64 n]) func199 rfl rfl (bL rfl) hs e2z (uR ?_);refine gv (s0 (q:=0) mh0 hu (0) underlying27 sizeOf124 I I I oM) I (vH sizeOf124 I I oM (go7 ?_));refine gv (fS (k:=.u64) (q:=0) I I) I (gc2 (λD=>?_) λD=>?_)
 ·
  refine go7 ?_;refine qB I I ?_;have C:n<4294967296:=by omega
  refine⟨I,?_,by rw[gW hn0 C];rfl⟩;rw[zoh C,zpi,putL oM hn0 C]
 refine go8 ?_;refine gv (s0 (q:=1) mh0 (by rw[lS];exact hu) (1) underlying27 sizeOf124 I I I (by rw[lS];omega)) I (vH sizeOf124 I I (by simp;omega) (go8 ?_));refine qB I I ?_;have C:4294967296<=n:=by omega
 have H:n/2^32%4294967296=n/4294967296:=by omega
 refine⟨I,?_,?_⟩
 · rw[H,zpi,yNG hlo hn C]
 · rw[gE oM,gW (t:=n/4294967296) oM oM];rfl
section
variable{w0:World}{h0:Mem}(hs:MLe h0 (mem w0))
include hs
theorem aQ{s:Prop}{n d:Nat}(hn:n<18446744073709551616)(hd:d<18446744073709551616)(hd0:d≠0):
 y8i 164 #[vB s,vU .u64 n,vU .u64 d] w0 h0 (λh r=>vQ h r (mkRat (sg s n) d)):=by
 refine cb3 50 (vB s) (vU .u64 n) (vU .u64 d) func164 hs ?_;refine go2 ?_;refine zG (vY (cs:=[vB ((0:Rat).num<0),.slice none 0 0,.slice none 0 0]) xU I (by simp only[zb];rfl)) I I I ?_;intro v6 r6 aj;obtain⟨b6,rfl,rfl⟩:=aj;refine go6 ?_;refine gv (fS (k:=.u64) (q:=0) I I) I (gc2 (λO=>?_) λO=>?_)
 ·
  refine go2 ?_;refine gv (wJ (ps':=[]) (vs:=[vB ((0:Rat).num<0),.slice none 0 0,.slice none 0 0]) underlying29 xU I (qG underlying29) trivial (by simp only[zb];exact jX)) I (wT (A:=[]) (r':=.var b6 29 [vB ((0:Rat).num<0),.slice none 0 0,.slice none 0 0]) (zM (k:=0) (cs:=[_,_,_]) (vs:=[_,_,_]) I I I I yF (bL I)) I I I (go4 ?_));refine yN (λE S=>zS I (vD (cs:=[_,_,_]) mh0 underlying29 I yF I) E S) ?_;rw[O,zB4];exact vQ.zero _
 have ac:n≠0:=by omega
 refine go6 ?_;refine cL (ev2 I I) call198 (λw hs=>zNZ hs oM oM) λaz h1 bf aa=>?_;subst aa;refine go1 ?_;have ae:0<Nat.gcd n d:=yhu d oM;have ak:n/Nat.gcd n d≠0:=yru (Nat.div_pos (y0e oM (yte n d)) ae);have ap:d/Nat.gcd n d≠0:=yru (Nat.div_pos (y0e oM (Nat.gcd_dvd_right n d)) ae);have bc:=zti n (Nat.gcd n d);have bg:=zti d (Nat.gcd n d);refine go3 ?_;refine zJ 8 _ [] (zai 0 8 []) zX nX zou nX (λr hr=>hr) (go2 ?_);refine wZ I (λ_ _=>bV (k:=.u64) (W:=18446744073709551616) I I I I oM oM) I (go2 ?_);refine wZ I (λ_ _=>bV (k:=.u64) (W:=18446744073709551616) I I I I oM oM) I (go2 ?_);generalize hA:n/Nat.gcd n d=A at *;generalize hB:d/Nat.gcd n d=B at *;have be:=gN (n:=A) oM;have bd:=gN (n:=B) oM;refine go4 ?_;refine jB (kd:=.u32) (by':=4) (q:=4) (q':=4) 4 underlying27 uW I I I I I I I oM oM I ?_;intro D;refine go7 ?_;refine nM (vs:=[_,_]) I I I I call199 e2z (λw hs=>zJO (hs.own_self (.head _)) dC ak oM hs) ?_;intro ay ar av J;obtain⟨e1,e2,J⟩:=J;rw[e1,e2]
 clear e1 e2 ar av
 subst J;rw[show List.take 0 (List.replicate 4 0)++zB A++List.drop (0+(zB A).length) (List.replicate 4 0)=zB A++List.replicate (4-(zB A).length) 0 from by rw[List.take_zero,zhe,zyi,List.drop_replicate]];have an:(zB A++List.replicate (4-(zB A).length) 0).length=4:=by simp;omega
 refine go9 ?_;refine yCE (.head _) (λad bh Z aw=>?_);have M:gV 1 D 0 (zB A).length (zB A).length=.slice (if(zB A).length=0 then ad else ad.map (·.add (0*1))) ((zB A).length-0) ((zB A).length-0):=by rw[Z];rfl
 refine gv (zGR mh0 _ _ underlying27 sizeOf124 I I I I I oM oM) I (gv (wJ (ps':=[(0,_),(1,_)]) (vs:=[vB s,gV 1 D 0 _ _,.slice none 0 0]) underlying29 xU I (qG underlying29) e4z (vO (A:=[]) (B:=[_]) (C:=[_,_]) (cs:=[_]) (off:=0) (size:=1) I I I I I (vO (A:=[_]) (B:=[_]) (C:=[_]) (cs:=[_]) (off:=1) (size:=1) I I I I (by rw[M];rfl) jX))) I (zG (vY (cs:=[vB ((0:Rat).num<0),.slice none 0 0,.slice none 0 0]) xU I (by simp only[zb];rfl)) I I I ?_));intro ba bb ab;obtain⟨ai,rfl,rfl⟩:=ab;refine wT (A:=[]) (r':=.var ai 29 [vB s,gV 1 D 0 _ _,.slice none 0 0]) (zM (k:=0) (cs:=[_,_,_]) (vs:=[vB s,gV 1 D 0 _ _,.slice none 0 0]) I I I (by rw[M];rfl) yF (bL I)) I I I (go6 ?_);refine gv (mT (k:=.u64) (q:=1) I I) I (gc2 (λah=>?_) λah=>?_)
 ·
  refine go5 ?_;refine gv (zGQ mh1 _ underlying27 sizeOf124 I I I oM) I (go1 ?_);refine dR (A:=[_]) ?_;refine nM (vs:=[_,_]) I I I I call199 e2z (λw hs=>zJO (lo:=(zB A).length) zo5 oM ap oM hs) ?_;intro ax aq au H;obtain⟨e1,e2,H⟩:=H;rw[e1,e2]
  clear e1 e2 aq au
  subst H;rw[show List.take (zB A).length (zB A++List.replicate (4-(zB A).length) 0)++zB B++List.drop ((zB A).length+(zB B).length) (zB A++List.replicate (4-(zB A).length) 0)=zB A++zB B++List.replicate (4-(zB A).length-(zB B).length) 0 from by simp];have am:(zB A++zB B++List.replicate (4-(zB A).length-(zB B).length) 0).length=4:=by simp;omega
  refine go9 ?_;have U:gV 1 D (zB A).length ((zB A).length+(zB B).length) ((zB A).length+(zB B).length)=.slice (if(zB A).length+(zB B).length=(zB A).length then ad else ad.map (·.add ((zB A).length*1))) ((zB A).length+(zB B).length-(zB A).length) ((zB A).length+(zB B).length-(zB A).length):=by rw[Z];rfl
  refine gv (zIT mh0 ((zB A).length) ((zB A).length+(zB B).length) ((zB A).length+(zB B).length) underlying27 sizeOf124 I I I I oM oM oM oM oM oM) I (go1 ?_);refine wT (A:=[_]) (r':=.var ai 29 [vB s,gV 1 D 0 _ _,gV 1 D ((zB A).length) ((zB A).length+(zB B).length) ((zB A).length+(zB B).length)]) (zM (k:=2) (cs:=[_,_,_]) (vs:=[gV 1 D ((zB A).length) ((zB A).length+(zB B).length) ((zB A).length+(zB B).length)]) I I (by rw[U];rfl) (by rw[U];rfl) yJG (bL I)) I I I (go4 ?_);refine yU (by first|exact uT (uT (wU A) (wU B)) (kG _)|exact uT (wU A) (kG _)) ?_;intro h2 ao hz;refine go1 ?_;refine wT (A:=[_]) (r':=.var b6 29 [vB s,gV 1 D 0 _ _,gV 1 D ((zB A).length) ((zB A).length+(zB B).length) ((zB A).length+(zB B).length)]) (zM (k:=0) (cs:=[_,_,_]) (vs:=[vB s,gV 1 D 0 _ _,gV 1 D ((zB A).length) ((zB A).length+(zB B).length) ((zB A).length+(zB B).length)]) I I I (by rw[M,U];rfl) yF (bL I)) I I I (go3 ?_);refine yN (λE S=>zS I (vD (cs:=[_,_,_]) mh1 underlying29 I yF I) E S) ?_;have z1:=hz.sub3 (lo:=0) (hi:=(zB A).length) (mx:=(zB A).length) oM oM oM;have z2:=hz.sub3 (lo:=(zB A).length) (hi:=(zB A).length+(zB B).length) (mx:=(zB A).length+(zB B).length) oM oM oM;refine vQ.make ac hd0 ?_ ?_
  · rw[hA];simpa using z1
  · rw[hB];rw[nQ oM];simpa using z2
 refine go4 ?_;refine zI6 (by first|exact uT (uT (wU A) (wU B)) (kG _)|exact uT (wU A) (kG _)) ?_;intro h2 ao hz;refine go1 ?_;refine wT (A:=[_]) (r':=.var b6 29 [vB s,gV 1 D 0 _ _,.slice none 0 0]) (zM (k:=0) (cs:=[_,_,_]) (vs:=[vB s,gV 1 D 0 _ _,.slice none 0 0]) I I I (by rw[M];rfl) yF (bL I)) I I I (go3 ?_);refine yN (λE S=>zS I (vD (cs:=[_,_,_]) mh1 underlying29 I yF I) E S) ?_;have z1:=hz.sub3 (lo:=0) (hi:=(zB A).length) (mx:=(zB A).length) oM oM oM;refine vQ.make ac hd0 ?_ ?_
 · rw[hA];simpa using z1
 · rw[hB];rw[show B=1 by omega,aC,xM];exact Us.nil _ _
theorem pT{qa:Rat}{vna vda:Value}(hna:Us .u32 h0 vna (zB qa.num.natAbs))(hda:Us .u32 h0 vda (zB (vC qa.den))):
 Calls prog 163 #[.agg #[vB (qa.num<0),vna,vda]] w0 (Ret w0 h0 (λ_ r=>r=.tuple #[vU .u64 (pN qa),vU .u64 (pD qa),vB (sJ qa)])):=by
 refine cb1 30 (.agg #[vB (qa.num<0),vna,vda]) func163 hs ?_;refine go2 ?_;refine zG (vG (cs:=[_,_,_]) I I) I I I ?_;intro v1 r1 aa;obtain⟨b1,rfl,rfl⟩:=aa;refine asg (v:=vU .u64 0) I I (asg (v:=vU .u64 0) I I (uR ?_));refine gU 6 14 (vB (((1:Int)<(↑(zB qa.num.natAbs).length:Int))\/((1:Int)<(↑(zB (vC qa.den)).length:Int)))) ?_ ?_
 ·
  refine zY ((1:Int)<(↑(zB qa.num.natAbs).length:Int)) (λU=>?_) (λU=>?_)
  ·
   refine gT U I (go6 ?_);refine gqU ?_;exact y4e (uH U)
  refine gF U I (uR ?_);refine gqU ?_;exact y4e (uJ U)
 refine gc2 (λJ=>?_) λJ=>?_
 ·
  have M:¬sJ qa:=zQO J;refine go2 ?_;refine asg (v:=vU .u64 0) I I (asg (v:=vU .u64 0) I I (go5 ?_));refine qU I I I I ?_;rw[pN_f M,pD_f M,yM M]
 have C:sJ qa:=zVJ J;have ac:=tF C;have ad:=tG C;refine go4 ?_;refine asg (v:=vU .u64 1) I I (zD0 (λH=>?_) λH=>?_)
 ·
  have O:(zB (vC qa.den)).getD 0 0=qa.den:=yCZ H;refine go3 ?_;refine gv (zV (q:=0) (0) underlying27 sizeOf124 I I hda I oM) I (go1 ?_);rw[O];refine go8 ?_;refine cL (ev1 I) call188 (λw hs=>zBM hs hna oM) λZ h1 ab D=>?_
  try simp only[zE] at D
  subst D;refine go2 ?_;refine gv (OpV.tr (by have:=qa.den_nz;omega) (tU (k:=.u64) (q:=0) I I)) I (go6 ?_);refine qU I I I I ?_;rw[zIR C,zIS C,xW C]
 have O:qa.den=1:=yC0 H C;refine go6 ?_;refine cL (ev1 I) call188 (λw hs=>zBM hs hna oM) λZ h1 ab D=>?_
 try simp only[zE] at D
 subst D;refine go2 ?_;refine gv (OpV.tr (by have:=qa.den_nz;omega) (tU (k:=.u64) (q:=0) I I)) I (go6 ?_);refine qU I I I I ?_;rw[zIR C,zIS C,xW C,O]
theorem gJ{s:Prop}{vn vd:Value}{xs ys:List Nat}(hn:Us .u32 h0 vn xs)(hd:Us .u32 h0 vd ys)(hl:xs.length<=1000000000000)(hl':ys.length<=1000000000000):
 y8i 155 #[vB s,vn,vd] w0 h0 (λh r=>vQ h r (mkRat (sg s (val xs)) (val ys))):=by
 have ck:=mA (n:=val xs);have cj:=mA (n:=val ys);have ce:=qA hn.lt;have cd:=qA hd.lt;refine cb3 68 (vB s) vn vd func155 hs ?_;refine go2 ?_;refine zG (vY (cs:=[vB ((0:Rat).num<0),.slice none 0 0,.slice none 0 0]) xU I (by simp only[zb];rfl)) I I I ?_;intro v6 r6 bk;obtain⟨b6,rfl,rfl⟩:=bk;refine go6 ?_;refine cL (ev1 I) call162 (λw hs=>zB2 hs hn oM) λv9 h1 an be=>?_
 try simp only[zE] at be
 subst be;refine go1 ?_;refine qH (ι:=Mem) 5 (λm_=>MLe h1 m_) (λ_=>[(15,vB (((↑(uU (val (xs))):Int)=(0:Int))\/((↑(uU (val (ys))):Int)=(0:Int)))),(0,vB s),(1,vn),(2,vd),(6,vP b6 0)]) (λ_=>[.var b6 29 [vB ((0:Rat).num<0),.slice none 0 0,.slice none 0 0]]) (λm_=>m_) ?_ ?_
 ·
  refine zY ((↑(uU (val (xs))):Int)=(0:Int)) (λO=>?_) (λO=>?_)
  ·
   refine gT O I (go5 ?_);refine zU h1 (MLe.refl _) ⟨?_,I,I,I,I,y5i⟩ I I;exact y4e (uH O)
  refine gF O I (go3 ?_);replace hd:=hd.mono an;refine cL (ev1 I) call162 (λw hs=>zB2 hs hd oM) λbw h2 aa ax=>?_
  try simp only[zE] at ax
  subst ax;refine go4 ?_;refine zU h2 aa ⟨?_,I,I,I,I,y5i⟩ I I;exact y4e (uJ O)
 intro bj J;refine rA ?_;refine gc2 (λad=>?_) λad=>?_
 ·
  refine go2 ?_;refine gv (wJ (ps':=[]) (vs:=[vB ((0:Rat).num<0),.slice none 0 0,.slice none 0 0]) underlying29 xU I (qG underlying29) trivial (by simp only[zb];exact jX)) I (wT (A:=[]) (r':=.var b6 29 [vB ((0:Rat).num<0),.slice none 0 0,.slice none 0 0]) (zM (k:=0) (cs:=[_,_,_]) (vs:=[_,_,_]) I I I I yF (bL I)) I I I (go4 ?_));refine yN (λE S=>zS I (vD (cs:=[_,_,_]) mh0 underlying29 I yF I) E S) ?_
  rcases ad with h|h
  · rw[show val xs=0 by omega,zB4];exact vQ.zero _
  · rw[show val ys=0 by omega,zHG];exact vQ.zero _
 have ap:val xs≠0:=λh=>ad (.inl oM);have ar:val ys≠0:=λh=>ad (.inr oM);replace hn:=hn.mono (an.trans J);refine go8 ?_;refine gU 5 24 (vB (((↑(xs).length:Int)<=(2:Int))/\((↑(ys).length:Int)<=(2:Int)))) ?_ ?_
 ·
  refine zY ((↑(xs).length:Int)<=(2:Int)) (λO=>?_) (λO=>?_)
  ·
   refine gT O I ?_;replace hd:=hd.mono (an.trans J);refine go8 ?_;refine gqU ?_;exact y4e (xD O)
  refine gF O I (go5 ?_);refine gqU ?_;exact y4e (xE O)
 refine gc2 (λbi=>?_) λbi=>?_
 ·
  have cc:=nJ (n:=val xs) oM;have ci:=nJ (n:=val ys) oM;refine go4 ?_;refine cL (ev1 I) call188 (λw hs=>zBM hs hn oM) λbv h2 aa aw=>?_
  try simp only[zE] at aw
  subst aw;refine go1 ?_;replace hd:=hd.mono ((an.trans J).trans aa);refine cL (ev1 I) call188 (λw hs=>zBM hs hd oM) λbu h3 ae av=>?_
  try simp only[zE] at av
  subst av;refine cL (ev3 I I I) call164 (λw hs=>aQ hs oM oM oM) λbt h4 am bf=>?_;obtain⟨bc,bd,rfl,ay,az⟩:=bf;refine wT (A:=[]) (r':=.var b6 29 [vB ((mkRat (sg (s) (val (xs))) (val (ys))).num<0),bc,bd]) (zM (k:=0) (cs:=[_,_,_]) (vs:=[_,_,_]) I I I (ocr I (ocu ay (ocu az oc0))) yF (bL I)) I I I (go4 ?_);refine yN (λE S=>zS I (vD (cs:=[_,_,_]) mh0 underlying29 I yF I) E S) ?_;exact⟨_,_,I,ay,az⟩
 refine go7 ?_;replace hd:=hd.mono (an.trans J);refine cL (ev2 I I) call189 (λw hs=>yFP hs hn hd oM oM) λbs h2 aa M=>?_
 try simp only[zE] at M
 have bn:=s6 (val (xs)) (val (ys));have bh:Nat.gcd (val xs) (val ys)≠0:=yru (yhu _ oM);have ch:=yL (y0e oM (yte (val xs) (val ys)));refine go6 ?_;refine cL (ev1 I) call162 (λw hs=>zB2 hs M oM) λbr h3 ae au=>?_
 try simp only[zE] at au
 subst au;refine gc3 (λao=>?_) λao=>?_
 ·
  refine go4 ?_;replace hn:=hn.mono (aa.trans ae);replace M:=M.mono ae;refine cL (ev2 I I) call190 (λw hs=>zFH hs hn M oM oM) λbq h4 am ak=>?_;obtain⟨cb,bz,rfl,ac,ak⟩:=ak
  try simp only[zE] at ac ak ⊢
  have bm:=yL (zti (val (xs)) (((Nat.gcd (val (xs)) (val (ys))))));have cg:=yL (zti (val xs) (Nat.gcd (val xs) (val ys)));refine uR ?_;replace hd:=hd.mono ((aa.trans ae).trans am);replace M:=M.mono am;refine cL (ev2 I I) call190 (λw hs=>zFH hs hd M oM oM) λbp h5 aq aj=>?_;obtain⟨ca,bx,rfl,ab,aj⟩:=aj
  try simp only[zE] at ab aj ⊢
  have bl:=yL (zti (val (ys)) (((Nat.gcd (val (xs)) (val (ys))))));have cf:=yL (zti (val ys) (Nat.gcd (val xs) (val ys)));refine uR ?_;replace ac:=ac.mono aq;refine cL (ev2 I I) call191 (λw hs=>w6 hs ac (Us.nil _ _) zo6 zo6) λZ h6 bo D=>?_
  try simp only[zE] at D
  have bb:=gC ((((val (xs))/(((Nat.gcd (val (xs)) (val (ys)))))))) (val ([]));refine go1 ?_;replace ab:=ab.mono bo;refine cL (ev2 I I) call191 (λw hs=>w6 hs ab (Us.nil _ _) zo6 zo6) λai h7 bg H=>?_
  try simp only[zE] at H
  have ba:=gC ((((val (ys))/(((Nat.gcd (val (xs)) (val (ys)))))))) (val ([]));refine uR ?_;refine gU 6 63 (vB (((↑(zB (((((val (ys))/(((Nat.gcd (val (xs)) (val (ys))))))))+(val ([])))).length:Int)=(1:Int))/\(((zB (((((val (ys))/(((Nat.gcd (val (xs)) (val (ys))))))))+(val ([])))).getD (0) 0)=(1:Nat)))) ?_ ?_
  ·
   refine zY ((↑(zB (((((val (ys))/(((Nat.gcd (val (xs)) (val (ys))))))))+(val ([])))).length:Int)=(1:Int)) (λO=>?_) (λO=>?_)
   ·
    refine gT O I (go3 ?_);refine gv (zV (q:=0) (0) underlying27 sizeOf124 I I H I oM) I (go3 ?_);refine gv (fS (k:=.u32) (q:=1) I I) I (go2 ?_);refine gqU ?_;exact y4e (xD O)
   refine gF O I (go6 ?_);refine gqU ?_;exact y4e (xE O)
  refine gc2 (λU=>?_) λU=>?_
  ·
   refine go9 ?_;replace D:=D.mono bg;refine gv (wJ (ps':=[(0,_),(1,_),(2,_)]) (vs:=[vB s,Z,.slice none 0 0]) underlying29 xU I (qG underlying29) e6 (vO (A:=[]) (B:=[_]) (C:=[_,_]) (cs:=[_]) (off:=0) (size:=1) I I I I I (vO (A:=[_]) (B:=[_]) (C:=[_]) (cs:=[_]) (off:=1) (size:=1) I I I I D.cells (vO (A:=[_,_]) (B:=[_]) (C:=[]) (cs:=[_]) (off:=2) (size:=1) I I I I I jX)))) I (wT (A:=[]) (r':=.var b6 29 [vB s,Z,.slice none 0 0]) (zM (k:=0) (cs:=[_,_,_]) (vs:=[_,_,_]) I I I (ocr I (ocu D (ocr I oc0))) yF (bL I)) I I I (go3 ?_));refine yN (λE S=>zS I (vD (cs:=[_,_,_]) mh0 underlying29 I yF I) E S) ?_;exact vQ.fin1 ap ar D U
  refine go7 ?_;replace D:=D.mono bg;refine gv (wJ (ps':=[(0,_),(1,_),(2,_)]) (vs:=[vB s,Z,ai]) underlying29 xU I (qG underlying29) e6 (vO (A:=[]) (B:=[_]) (C:=[_,_]) (cs:=[_]) (off:=0) (size:=1) I I I I I (vO (A:=[_]) (B:=[_]) (C:=[_]) (cs:=[_]) (off:=1) (size:=1) I I I I D.cells (vO (A:=[_,_]) (B:=[_]) (C:=[]) (cs:=[_]) (off:=2) (size:=1) I I I I H.cells jX)))) I (wT (A:=[]) (r':=.var b6 29 [vB s,Z,ai]) (zM (k:=0) (cs:=[_,_,_]) (vs:=[_,_,_]) I I I (ocr I (ocu D (ocu H oc0))) yF (bL I)) I I I (go3 ?_));refine yN (λE S=>zS I (vD (cs:=[_,_,_]) mh0 underlying29 I yF I) E S) ?_;exact vQ.fin ap ar D H U
 refine go5 ?_;replace hn:=hn.mono (aa.trans ae);refine cL (ev2 I I) call191 (λw hs=>w6 hs hn (Us.nil _ _) zo6 zo6) λZ h4 am D=>?_
 try simp only[zE] at D
 have bb:=gC (val (xs)) (val ([]));refine go1 ?_;replace hd:=hd.mono ((aa.trans ae).trans am);refine cL (ev2 I I) call191 (λw hs=>w6 hs hd (Us.nil _ _) zo6 zo6) λai h5 aq H=>?_
 try simp only[zE] at H
 have ba:=gC (val (ys)) (val ([]));refine uR ?_;refine gU 6 63 (vB (((↑(zB ((val (ys))+(val ([])))).length:Int)=(1:Int))/\(((zB ((val (ys))+(val ([])))).getD (0) 0)=(1:Nat)))) ?_ ?_
 ·
  refine zY ((↑(zB ((val (ys))+(val ([])))).length:Int)=(1:Int)) (λO=>?_) (λO=>?_)
  ·
   refine gT O I (go3 ?_);refine gv (zV (q:=0) (0) underlying27 sizeOf124 I I H I oM) I (go3 ?_);refine gv (fS (k:=.u32) (q:=1) I I) I (go2 ?_);refine gqU ?_;exact y4e (xD O)
  refine gF O I (go6 ?_);refine gqU ?_;exact y4e (xE O)
 refine gc2 (λU=>?_) λU=>?_
 ·
  refine go9 ?_;replace D:=D.mono aq;refine gv (wJ (ps':=[(0,_),(1,_),(2,_)]) (vs:=[vB s,Z,.slice none 0 0]) underlying29 xU I (qG underlying29) e6 (vO (A:=[]) (B:=[_]) (C:=[_,_]) (cs:=[_]) (off:=0) (size:=1) I I I I I (vO (A:=[_]) (B:=[_]) (C:=[_]) (cs:=[_]) (off:=1) (size:=1) I I I I D.cells (vO (A:=[_,_]) (B:=[_]) (C:=[]) (cs:=[_]) (off:=2) (size:=1) I I I I I jX)))) I (wT (A:=[]) (r':=.var b6 29 [vB s,Z,.slice none 0 0]) (zM (k:=0) (cs:=[_,_,_]) (vs:=[_,_,_]) I I I (ocr I (ocu D (ocr I oc0))) yF (bL I)) I I I (go3 ?_));refine yN (λE S=>zS I (vD (cs:=[_,_,_]) mh0 underlying29 I yF I) E S) ?_;have ah:=zKQ ao bh;exact vQ.fin1 ap ar (by rw[ah,z4i];exact D) (by rw[ah,z4i];exact U)
 refine go7 ?_;replace D:=D.mono aq;refine gv (wJ (ps':=[(0,_),(1,_),(2,_)]) (vs:=[vB s,Z,ai]) underlying29 xU I (qG underlying29) e6 (vO (A:=[]) (B:=[_]) (C:=[_,_]) (cs:=[_]) (off:=0) (size:=1) I I I I I (vO (A:=[_]) (B:=[_]) (C:=[_]) (cs:=[_]) (off:=1) (size:=1) I I I I D.cells (vO (A:=[_,_]) (B:=[_]) (C:=[]) (cs:=[_]) (off:=2) (size:=1) I I I I H.cells jX)))) I (wT (A:=[]) (r':=.var b6 29 [vB s,Z,ai]) (zM (k:=0) (cs:=[_,_,_]) (vs:=[_,_,_]) I I I (ocr I (ocu D (ocu H oc0))) yF (bL I)) I I I (go3 ?_));refine yN (λE S=>zS I (vD (cs:=[_,_,_]) mh0 underlying29 I yF I) E S) ?_;have ah:=zKQ ao bh;exact vQ.fin ap ar (by rw[ah,z4i];exact D) (by rw[ah,z4i];exact H) (by rw[ah,z4i];exact U)
theorem zBD{v v':Value}{xs ys:List Nat}(hv:Us .u32 h0 v xs)(hv':Us .u32 h0 v' ys):
 y8i 193 #[v,v'] w0 h0 (λ_ r=>r=vB (xs=ys)):=by
 have O:=hv.lt63;have M:=hv'.lt63;refine cb2 26 v v' func193 hs ?_;refine qE ?_;refine gv (vW underlying27 I hv') I (gc3 (λD=>?_) λD=>?_)
 ·
  refine go7 ?_;refine zC I I ?_;rw[yM (λe=>D (by rw[e]))]
 have J:xs.length=ys.length:=by omega
 refine qE ?_;refine gcL (ι:=Nat) (λ(i:(Nat))=>(i<=xs.length/\xs.take i=ys.take i,[(0,v),(1,v'),(12,vI ↑xs.length),(13,vI ↑i)],[],h0,xs.length-i)) 0 ?_ ?_
 · exact⟨zot,zo3⟩
 rintro i ⟨hi,ht⟩
 refine yY ?_;refine gc6 (λH=>?_) λH=>?_
 ·
  refine qE ?_;refine zJ 9 _ [] (zai 0 9 []) zX nX zou nX (λr U=>U) (go2 ?_);refine w_q I (λh' L' hh hR=>zV (i) underlying27 sizeOf124 I I (hv.mono hh) oM oM) I (w_q I (λh' L' hh hR=>wB isAgg124 I (hv.mono hh) oM) I (go2 ?_));refine w_q I (λh' L' hh hR=>zV (i) underlying27 sizeOf124 I I (hv'.mono hh) oM oM) I (w_q I (λh' L' hh hR=>wB isAgg124 I (hv'.mono hh) oM) I (gc3 (λC=>?_) λC=>?_))
  ·
   refine qE ?_;refine zC I I ?_;rw[yM (λe=>C (by rw[e]))]
  refine go7 ?_;refine gqL (i+1) ?_ ?_ (he:=⟨I,I,I,?_,y5i⟩)
  ·
   refine⟨zot,?_⟩;rw[y4 xs i oM,y4 ys i oM,ht];have e:=zdi C;rw[e]
  · omega
  · exact y4e (zbi vI oM)
 refine qE ?_;refine zC I I ?_;have Z:xs=ys:=by
  have e:i=xs.length:=by omega
  rw[e,z6i,J,z6i] at ht;exact ht
 rw[xW Z]
theorem zBN{qa:Rat}{vna vda:Value}(hna:Us .u32 h0 vna (zB qa.num.natAbs))(hda:Us .u32 h0 vda (zB (vC qa.den)))(hqa:lq qa<=100000000000):
 Calls prog 122 #[.agg #[vB (qa.num<0),vna,vda]] w0 (Ret w0 h0 (λ_ r=>r=vI (yQ qa))):=by
 have M:=uG qa;have O:=uF qa;have U:=vS qa;refine cb1 11 (.agg #[vB (qa.num<0),vna,vda]) func122 hs ?_;refine go2 ?_;refine zG (vG (cs:=[_,_,_]) I I) I I I ?_;intro v1 r1 J;obtain⟨b1,rfl,rfl⟩:=J;refine go9 ?_;refine cL (ev1 I) call162 (λw hs=>zB2 hs hna oM) λv6 h1 Z H=>?_
 try simp only[zE] at H
 subst H;refine gc4 (λD=>?_) λD=>?_
 ·
  refine go8 ?_;refine zC I I ?_;rw[aP (zIY D)]
 refine gc7 (λC=>?_) λC=>?_
 ·
  refine go8 ?_;refine zC I I ?_;rw[zBG C]
 refine go9 ?_;refine zC I I ?_;rw[zBF (λh=>D (zJB h)) C]
theorem zZJ{qa:Rat}{vna vda:Value}(hna:Us .u32 h0 vna (zB qa.num.natAbs))(hda:Us .u32 h0 vda (zB (vC qa.den))){qb:Rat}{vnb vdb:Value}(hnb:Us .u32 h0 vnb (zB qb.num.natAbs))(hdb:Us .u32 h0 vdb (zB (vC qb.den)))(hqa:lq qa<=100000000000)(hqb:lq qb<=100000000000):
 Calls prog 159 #[.agg #[vB (qa.num<0),vna,vda],.agg #[vB (qb.num<0),vnb,vdb]] w0 (Ret w0 h0 (λ_ r=>r=vB (qa=qb))):=by
 have ae:=uG qa;have ai:=uF qa;have ak:=vS qa;have ad:=uG qb;have ah:=uF qb;have aj:=vS qb;refine cb2 24 (.agg #[vB (qa.num<0),vna,vda]) (.agg #[vB (qb.num<0),vnb,vdb]) func159 hs ?_;refine go2 ?_;refine zG (vG (cs:=[_,_,_]) I I) I I I ?_;intro v2 r2 ac;obtain⟨b2,rfl,rfl⟩:=ac;refine zG (vG (cs:=[_,_,_]) I I) I I I ?_;intro v3 r3 ab;obtain⟨b3,rfl,rfl⟩:=ab;refine go9 ?_;refine gv (lF underlying4 I I) I ?_;refine qH (ι:=Mem) 7 (λJ=>MLe h0 J) (λ_=>[(16,vB (((qa.num<0)↔(qb.num<0))/\((zB qa.num.natAbs)=(zB qb.num.natAbs)))),(2,vP b2 0),(3,vP b3 0)]) (λ_=>[.var b3 29 [vB (qb.num<0),vnb,vdb],.var b2 29 [vB (qa.num<0),vna,vda]]) (λJ=>J) ?_ ?_
 ·
  refine zY ((qa.num<0)↔(qb.num<0)) (λH=>?_) (λH=>?_)
  ·
   refine gT H I (go9 ?_);refine cL (ev2 I I) call193 (λw hs=>zBD hs hna hnb) λan h1 M Z=>?_;subst Z;refine go2 ?_;refine zU h1 M ⟨?_,I,I,y5i⟩ I I;exact y4e (xD H)
  refine gF H I (go7 ?_);refine zU h0 (MLe.refl _) ⟨?_,I,I,y5i⟩ I I;exact y4e (xE H)
 intro D C;refine rA ?_;refine qH (ι:=Mem) 7 (λJ=>MLe D J) (λ_=>[(23,vB ((((qa.num<0)↔(qb.num<0))/\((zB qa.num.natAbs)=(zB qb.num.natAbs)))/\((zB (vC qa.den))=(zB (vC qb.den)))))]) (λ_=>[.var b3 29 [vB (qb.num<0),vnb,vdb],.var b2 29 [vB (qa.num<0),vna,vda]]) (λJ=>J) ?_ ?_
 ·
  refine zY (((qa.num<0)↔(qb.num<0))/\((zB qa.num.natAbs)=(zB qb.num.natAbs))) (λH=>?_) (λH=>?_)
  ·
   refine gT H I (go9 ?_);replace hda:=hda.mono C;replace hdb:=hdb.mono C;refine cL (ev2 I I) call193 (λw hs=>zBD hs hda hdb) λam h1 M U=>?_;subst U;refine go2 ?_;refine zU h1 M ⟨?_,y5i⟩ I I;exact y4e (xD H)
  refine gF H I (go7 ?_);refine zU D (MLe.refl _) ⟨?_,y5i⟩ I I;exact y4e (xE H)
 intro aa O;refine rA ?_;refine go4 ?_;refine zC I I ?_;exact kS zNQ
theorem yE9{qa:Rat}{vna vda:Value}(hna:Us .u32 h0 vna (zB qa.num.natAbs))(hda:Us .u32 h0 vda (zB (vC qa.den))){qb:Rat}{vnb vdb:Value}(hnb:Us .u32 h0 vnb (zB qb.num.natAbs))(hdb:Us .u32 h0 vdb (zB (vC qb.den)))(hqa:lq qa<=100000000000)(hqb:lq qb<=100000000000):
 Calls prog 182 #[.agg #[vB (qa.num<0),vna,vda],.agg #[vB (qb.num<0),vnb,vdb]] w0 (Ret w0 h0 (λ_ r=>r=vI (xZ qa qb))):=by
 have bp:=uG qa;have br:=uF qa;have bt:=vS qa;have bo:=uG qb;have bq:=uF qb;have bs:=vS qb;refine cb2 80 (.agg #[vB (qa.num<0),vna,vda]) (.agg #[vB (qb.num<0),vnb,vdb]) func182 hs ?_;refine go2 ?_;refine zG (vG (cs:=[_,_,_]) I I) I I I ?_;intro v2 r2 bh;obtain⟨b2,rfl,rfl⟩:=bh;refine zG (vG (cs:=[_,_,_]) I I) I I I ?_;intro v3 r3 bg;obtain⟨b3,rfl,rfl⟩:=bg;refine go5 ?_;refine zJ 6 _ [] [(0,.q),(2,.q),(1,.c),(3,.c),(4,.q),(5,.q)] zX nX zou nX (λr hr=>hr) (go2 ?_);refine w_c I (sC (ev1 I) call122 (λw hs=>zBN hs hna hda oM) λcg h1 ah az=>?_);have bd:=xC qa;subst az;refine w_c I ?_;replace hnb:=hnb.mono ah;replace hdb:=hdb.mono ah;refine sC (ev1 I) call122 (λw hs=>zBN hs hnb hdb oM) λcf h2 O ay=>?_;have bc:=xC qb;subst ay;refine zD0 (λM=>?_) λM=>?_
 ·
  refine gc8 (λaa=>?_) λaa=>?_
  ·
   refine go8 ?_;refine zC I I ?_;rw[zCP M,zau aa]
  refine go9 ?_;refine zC I I ?_;rw[zCP M,zae aa]
 have au:=zNL M;refine go7 ?_;refine jM (ι:=Mem) (λ(mc:(Mem))=>MLe h2 mc/\(True)) (λ(mc:(Mem))=>[(2,vP b2 0),(7,vI (cN qa qb))]) (λ(mc:(Mem))=>[.var b3 29 [vB (qb.num<0),vnb,vdb],.var b2 29 [vB (qa.num<0),vna,vda]]) (λ(mc:(Mem))=>mc) ?_ ?_
 ·
  refine go3 ?_;replace hna:=hna.mono (ah.trans O);replace hda:=hda.mono (ah.trans O);refine cL (ev1 I) call163 (λw hs=>pT hs hna hda) λce h3 D ax=>?_;subst ax;refine cD ?_;replace hda:=hda.mono D;replace hdb:=hdb.mono (O.trans D);refine cL (ev2 I I) call193 (λw hs=>zBD hs hda hdb) λcd h4 C aw=>?_;subst aw;refine gc2 (λaq=>?_) λaq=>?_
  ·
   refine go5 ?_;replace hna:=hna.mono (D.trans C);replace hnb:=hnb.mono ((O.trans D).trans C);refine cL (ev2 I I) call204 (λw hs=>zFI hs hna hnb) λcc h5 H an=>?_
   try simp only[zE] at an
   subst an;refine go2 ?_;refine zU (h5) ?_ ⟨I,?_,y5i⟩ I I
   ·
    refine⟨((D.trans C).trans H),?_⟩
    trivial
   · exact y4e (zbi vI ((yL0 aq).symm))
  refine go3 ?_;replace hnb:=hnb.mono ((O.trans D).trans C);replace hdb:=hdb.mono C;refine cL (ev1 I) call163 (λw hs=>pT hs hnb hdb) λcb h5 H av=>?_;subst av;refine qC ?_;refine gU 3 49 (vB ((sJ qa)/\(sJ qb))) ?_ ?_
  ·
   refine zY (sJ qa) (λhg=>?_) (λhg=>?_)
   ·
    refine gT hg I (go4 ?_);refine gqU ?_;exact y4e (xD hg)
   refine gF hg I (go3 ?_);refine gqU ?_;exact y4e (xE hg)
  refine gc2 (λZ=>?_) λZ=>?_
  ·
   have ac:=Z.1;have ab:=Z.2;have bj:=tF ac;have bf:=tG ac;have bi:=tF ab;have be:=tG ab;have ci:=jE bj be;have ch:=jE bi bf;rw[zIR ac,zIS ac,zIR ab,zIS ab];refine zD0 (λap=>?_) λap=>?_
   ·
    refine go3 ?_;refine zU (h5) ?_ ⟨I,?_,y5i⟩ I I
    ·
     refine⟨((D.trans C).trans H),?_⟩
     trivial
    · exact y4e (zbi vI ((zCQ ap).symm))
   refine zD0 (λao=>?_) λao=>?_
   ·
    refine go3 ?_;refine zU (h5) ?_ ⟨I,?_,y5i⟩ I I
    ·
     refine⟨((D.trans C).trans H),?_⟩
     trivial
    · exact y4e (zbi vI ((zCR ao).symm))
   refine go1 ?_;refine zU (h5) ?_ ⟨I,?_,y5i⟩ I I
   ·
    refine⟨((D.trans C).trans H),?_⟩
    trivial
   · exact y4e (zbi vI ((zD6.2 oM).symm))
  refine zJ 12 _ [] [(0,.q),(1,.q),(2,.q),(5,.q),(6,.q),(7,.q),(3,.c),(4,.c),(8,.c),(9,.c),(10,.c),(11,.q)] zX nX zou nX (λr hr=>hr) (go6 ?_);refine w_c I ?_;replace hnb:=hnb.mono H;replace hdb:=hdb.mono H;refine sC (ev1 I) call166 (λw hs=>sE hs hnb hdb) λca h6 ae am=>?_;rw[qD] at am;refine w_c I ?_;replace hna:=hna.mono (((D.trans C).trans H).trans ae);refine sC (ev2 I I) call165 (λw hs=>rB hs hna am oM oM) λbz h7 ad J=>?_
  try simp only[zE] at J
  have bl:=yO ((qa.num.natAbs)) ((qb.den));refine w_c I ?_;replace hna:=hna.mono ad;replace hda:=hda.mono (((C.trans H).trans ae).trans ad);refine sC (ev1 I) call166 (λw hs=>sE hs hna hda) λbx h8 ar ak=>?_;rw[qD] at ak;refine w_c I ?_;replace hnb:=hnb.mono ((ae.trans ad).trans ar);refine sC (ev2 I I) call165 (λw hs=>rB hs hnb ak oM oM) λbw h9 ba aj=>?_
  try simp only[zE] at aj
  have bk:=yO ((qb.num.natAbs)) ((qa.den));refine w_c I ?_;replace J:=J.mono (ar.trans ba);refine sC (ev2 I I) call204 (λw hs=>zFI hs J aj) λbv bm bb ai=>?_
  try simp only[zE] at ai
  subst ai;refine go2 ?_;refine zU (bm) ?_ e2z I I;refine⟨(((((((D.trans C).trans H).trans ae).trans ad).trans ar).trans ba).trans bb),?_⟩
  trivial
 rintro mc ⟨bn,bu⟩
 refine yY ?_;have cj:=zP1 qa qb;refine gc7 (λU=>?_) λU=>?_
 ·
  refine go3 ?_;refine gv (mR I oM oM) I (go5 ?_);refine zC I I ?_;rw[zUN au U]
 refine go9 ?_;refine zC I I ?_;rw[zPW au U]
theorem yE7{qa:Rat}{vna vda:Value}(hna:Us .u32 h0 vna (zB qa.num.natAbs))(hda:Us .u32 h0 vda (zB (vC qa.den))){qb:Rat}{vnb vdb:Value}(hnb:Us .u32 h0 vnb (zB qb.num.natAbs))(hdb:Us .u32 h0 vdb (zB (vC qb.den)))(hqa:lq qa<=100000000000)(hqb:lq qb<=100000000000):
 Calls prog 153 #[.agg #[vB (qa.num<0),vna,vda],.agg #[vB (qb.num<0),vnb,vdb]] w0 (Ret w0 h0 (λh r=>vQ h r (qa*qb))):=by
 have bn:=uG qa;have bp:=uF qa;have br:=vS qa;have bm:=uG qb;have bo:=uF qb;have bq:=vS qb;rw[<-yAZ];refine cb2 64 (.agg #[vB (qa.num<0),vna,vda]) (.agg #[vB (qb.num<0),vnb,vdb]) func153 hs ?_;refine go2 ?_;refine zG (vG (cs:=[_,_,_]) I I) I I I ?_;intro v2 r2 bl;obtain⟨b2,rfl,rfl⟩:=bl;refine zG (vG (cs:=[_,_,_]) I I) I I I ?_;intro v3 r3 bk;obtain⟨b3,rfl,rfl⟩:=bk;refine zG (vY (cs:=[vB ((0:Rat).num<0),.slice none 0 0,.slice none 0 0]) xU I (by simp only[zb];rfl)) I I I ?_;intro v4 r4 bj;obtain⟨b4,rfl,rfl⟩:=bj;refine go9 ?_;refine gU 6 20 (vB (((↑(zB qa.num.natAbs).length:Int)=(0:Int))\/((↑(zB qb.num.natAbs).length:Int)=(0:Int)))) ?_ ?_
 ·
  refine zY ((↑(zB qa.num.natAbs).length:Int)=(0:Int)) (λhg=>?_) (λhg=>?_)
  ·
   refine gT hg I (go6 ?_);refine gqU ?_;exact y4e (uH hg)
  refine gF hg I (uR ?_);refine gqU ?_;exact y4e (uJ hg)
 refine gc2 (λap=>?_) λap=>?_
 ·
  refine go2 ?_;refine gv (wJ (ps':=[]) (vs:=[vB ((0:Rat).num<0),.slice none 0 0,.slice none 0 0]) underlying29 xU I (qG underlying29) trivial (by simp only[zb];exact jX)) I (wT (A:=[]) (r':=.var b4 29 [vB ((0:Rat).num<0),.slice none 0 0,.slice none 0 0]) (zM (k:=0) (cs:=[_,_,_]) (vs:=[_,_,_]) I I I I yF (bL I)) I I I (go4 ?_));refine yN (λE S=>zS I (vD (cs:=[_,_,_]) mh0 underlying29 I yF I) E S) ?_
  rcases ap with h|h
  · rw[bX h,show(0:Rat).num.natAbs=0 from I,zwe,zB4];exact vQ.zero _
  · rw[bX h,show(0:Rat).num.natAbs=0 from I,z9i,zB4];exact vQ.zero _
 refine go6 ?_;refine cL (ev1 I) call163 (λw hs=>pT hs hna hda) λbu h1 aa bb=>?_;subst bb;refine sH ?_;refine cnd (λao=>?_) λao=>?_
 ·
  have ai:=ao;have bc:=tF ai;have aq:=tG ai;refine go3 ?_;replace hnb:=hnb.mono aa;replace hdb:=hdb.mono aa;refine cL (ev1 I) call163 (λw hs=>pT hs hnb hdb) λbt h2 J ba=>?_;subst ba;refine sH ?_;refine cnd (λan=>?_) λan=>?_
  ·
   have ah:=an;have ar:=tF ah;have ay:=tG ah;have ca:=jE bc ay;have bz:=jE ar aq;have bx:=jE aq ay;have bw:=jE bc ar;have bv:=jE aq ar;have cc:qa.den*qb.den≠0:=z5i qa.den_nz qb.den_nz;simp only[zIR ai,zIS ai,zIR ah,zIS ah];refine go6 ?_;refine gv (sO underlying4 I I) I (go6 ?_);refine cL (ev3 I I I) call164 (λw hs=>aQ hs oM oM oM) λbs h3 H az=>?_;obtain⟨aw,ax,rfl,ak,am⟩:=az;refine wT (A:=[]) (r':=.var b4 29 [vB ((mkRat (sg (¬((qa.num<0)↔(qb.num<0))) (qa.num.natAbs*qb.num.natAbs)) (qa.den*qb.den)).num<0),aw,ax]) (zM (k:=0) (cs:=[_,_,_]) (vs:=[_,_,_]) I I I (ocr I (ocu ak (ocu am oc0))) yF (bL I)) I I I (go4 ?_);refine yN (λE S=>zS I (vD (cs:=[_,_,_]) mh0 underlying29 I yF I) E S) ?_;exact⟨_,_,I,ak,am⟩
  refine go3 ?_;refine zJ 16 _ [] (zai 0 9 [(10,.q),(12,.q),(9,.c),(11,.c),(13,.c),(14,.c),(15,.c),(16,.t)]) zX nX zou nX (λr hr=>hr) (go4 ?_);refine wZ I (λ_ _=>sO underlying4 I I) I (go6 ?_);refine w_c I ?_;replace hna:=hna.mono (aa.trans J);replace hnb:=hnb.mono J;refine sC (ev2 I I) call165 (λw hs=>rB hs hna hnb oM oM) λbi h3 H D=>?_
  try simp only[zE] at D
  have av:=yO ((qa.num.natAbs)) ((qb.num.natAbs));refine w_c I ?_;replace hna:=hna.mono H;replace hda:=hda.mono ((aa.trans J).trans H);refine sC (ev1 I) call166 (λw hs=>sE hs hna hda) λbh h4 ac C=>?_;rw[qD] at C;refine w_c I ?_;replace hnb:=hnb.mono (H.trans ac);replace hdb:=hdb.mono ((J.trans H).trans ac);refine sC (ev1 I) call166 (λw hs=>sE hs hnb hdb) λbg h5 aj U=>?_;rw[qD] at U;refine w_c I ?_;replace C:=C.mono aj;refine sC (ev2 I I) call165 (λw hs=>rB hs C U oM oM) λbf h6 bd O=>?_
  try simp only[zE] at O
  have au:=yO ((qa.den)) ((qb.den));refine w_c I ?_;replace D:=D.mono ((ac.trans aj).trans bd);refine sC (ev3 I I I) call155 (λw hs=>gJ hs D O oM oM) λbe h7 cb M=>?_
  try simp only[zE] at M
  obtain⟨ad,ae,rfl,Z,ab⟩:=M;refine cF (A:=[]) (q':=.var b4 29 [vB ((mkRat (sg (¬((qa.num<0)↔(qb.num<0))) (((((qa.num.natAbs))*((qb.num.natAbs)))))) (((((qa.den))*((qb.den)))))).num<0),ad,ae]) I (zM (k:=0) (cs:=[_,_,_]) (vs:=[_,_,_]) I I I (ocr I (ocu Z (ocu ab oc0))) yF (bL I)) I (go3 ?_);refine yN (λE S=>zS I (vD (cs:=[_,_,_]) mh0 underlying29 I yF I) E S) ?_;exact⟨_,_,I,Z,ab⟩
 refine go3 ?_;refine zJ 16 _ [] (zai 0 9 [(10,.q),(12,.q),(9,.c),(11,.c),(13,.c),(14,.c),(15,.c),(16,.t)]) zX nX zou nX (λr hr=>hr) (go4 ?_);refine wZ I (λ_ _=>sO underlying4 I I) I (go6 ?_);refine w_c I ?_;replace hna:=hna.mono aa;replace hnb:=hnb.mono aa;refine sC (ev2 I I) call165 (λw hs=>rB hs hna hnb oM oM) λbi h2 J D=>?_
 try simp only[zE] at D
 have av:=yO ((qa.num.natAbs)) ((qb.num.natAbs));refine w_c I ?_;replace hna:=hna.mono J;replace hda:=hda.mono (aa.trans J);refine sC (ev1 I) call166 (λw hs=>sE hs hna hda) λbh h3 H C=>?_;rw[qD] at C;refine w_c I ?_;replace hnb:=hnb.mono (J.trans H);replace hdb:=hdb.mono ((aa.trans J).trans H);refine sC (ev1 I) call166 (λw hs=>sE hs hnb hdb) λbg h4 ac U=>?_;rw[qD] at U;refine w_c I ?_;replace C:=C.mono ac;refine sC (ev2 I I) call165 (λw hs=>rB hs C U oM oM) λbf h5 aj O=>?_
 try simp only[zE] at O
 have au:=yO ((qa.den)) ((qb.den));refine w_c I ?_;replace D:=D.mono ((H.trans ac).trans aj);refine sC (ev3 I I I) call155 (λw hs=>gJ hs D O oM oM) λbe h6 bd M=>?_
 try simp only[zE] at M
 obtain⟨ad,ae,rfl,Z,ab⟩:=M;refine cF (A:=[]) (q':=.var b4 29 [vB ((mkRat (sg (¬((qa.num<0)↔(qb.num<0))) (((((qa.num.natAbs))*((qb.num.natAbs)))))) (((((qa.den))*((qb.den)))))).num<0),ad,ae]) I (zM (k:=0) (cs:=[_,_,_]) (vs:=[_,_,_]) I I I (ocr I (ocu Z (ocu ab oc0))) yF (bL I)) I (go3 ?_);refine yN (λE S=>zS I (vD (cs:=[_,_,_]) mh0 underlying29 I yF I) E S) ?_;exact⟨_,_,I,Z,ab⟩
theorem yE6{qa:Rat}{vna vda:Value}(hna:Us .u32 h0 vna (zB qa.num.natAbs))(hda:Us .u32 h0 vda (zB (vC qa.den))){qb:Rat}{vnb vdb:Value}(hnb:Us .u32 h0 vnb (zB qb.num.natAbs))(hdb:Us .u32 h0 vdb (zB (vC qb.den)))(hqa:lq qa<=100000000000)(hqb:lq qb<=100000000000):
 Calls prog 123 #[.agg #[vB (qa.num<0),vna,vda],.agg #[vB (qb.num<0),vnb,vdb]] w0 (Ret w0 h0 (λh r=>∃u,r=.tuple #[u,vI (if qb=0 then 3 else 0)]/\vQ h u (if qb=0 then 0 else qa/qb))):=by
 have bs:=uG qa;have bu:=uF qa;have bw:=vS qa;have br:=uG qb;have bt:=uF qb;have bv:=vS qb;refine cb2 58 (.agg #[vB (qa.num<0),vna,vda]) (.agg #[vB (qb.num<0),vnb,vdb]) func123 hs ?_;refine go2 ?_;refine zG (vG (cs:=[_,_,_]) I I) I I I ?_;intro v2 r2 bp;obtain⟨b2,rfl,rfl⟩:=bp;refine zG (vG (cs:=[_,_,_]) I I) I I I ?_;intro v3 r3 bo;obtain⟨b3,rfl,rfl⟩:=bo;refine zG (vY (cs:=[vB ((0:Rat).num<0),.slice none 0 0,.slice none 0 0]) xU I (by simp only[zb];rfl)) I I I ?_;intro v4 r4 bn;obtain⟨b4,rfl,rfl⟩:=bn;refine go7 ?_;refine cL (ev1 I) call122 (λw hs=>zBN hs hnb hdb oM) λcb h1 ae be=>?_;have bm:=xC qb;subst be;refine gc3 (λaj=>?_) λaj=>?_
 ·
  have ac:=uL.1 aj;rw[zau ac,zau ac];refine go2 ?_;refine gv (wJ (ps':=[]) (vs:=[vB ((0:Rat).num<0),.slice none 0 0,.slice none 0 0]) underlying29 xU I (qG underlying29) trivial (by simp only[zb];exact jX)) I (wT (A:=[]) (r':=.var b4 29 [vB ((0:Rat).num<0),.slice none 0 0,.slice none 0 0]) (zM (k:=0) (cs:=[_,_,_]) (vs:=[_,_,_]) I I I I yF (bL I)) I I I (go5 ?_));refine yN (λE S=>qO I (vD (cs:=[_,_,_]) mh0 underlying29 I yF I) (gH I) E S) ?_;exact⟨_,I,vQ.zero _⟩
 have ac:qb≠0:=λh=>aj (uL.2 h);rw[zae ac,zae ac,<-zZK qa ac];have bq:=zG8.2 ac;refine go6 ?_;replace hna:=hna.mono ae;replace hda:=hda.mono ae;refine cL (ev1 I) call163 (λw hs=>pT hs hna hda) λca h2 aa bd=>?_;subst bd;refine sH ?_;refine cnd (λar=>?_) λar=>?_
 ·
  have am:=ar;have bf:=tF am;have au:=tG am;refine go3 ?_;replace hnb:=hnb.mono (ae.trans aa);replace hdb:=hdb.mono (ae.trans aa);refine cL (ev1 I) call163 (λw hs=>pT hs hnb hdb) λbz h3 Z bc=>?_;subst bc;refine sH ?_;refine cnd (λaq=>?_) λaq=>?_
  ·
   have ak:=aq;have av:=tF ak;have ba:=tG ak;have cg:=jE bf ba;have cf:=jE av au;have ce:=jE au ba;have cd:=jE bf av;have cc:=jE au av;have ci:qa.den*qb.num.natAbs≠0:=z5i qa.den_nz bq;simp only[zIR am,zIS am,zIR ak,zIS ak];refine go6 ?_;refine gv (sO underlying4 I I) I (go6 ?_);refine cL (ev3 I I I) call164 (λw hs=>aQ hs oM oM oM) λbx h4 U bb=>?_;obtain⟨ay,az,rfl,ao,ap⟩:=bb;refine wT (A:=[]) (r':=.var b4 29 [vB ((mkRat (sg (¬((qa.num<0)↔(qb.num<0))) (qa.num.natAbs*qb.den)) (qa.den*qb.num.natAbs)).num<0),ay,az]) (zM (k:=0) (cs:=[_,_,_]) (vs:=[_,_,_]) I I I (ocr I (ocu ao (ocu ap oc0))) yF (bL I)) I I I (go5 ?_);refine yN (λE S=>qO I (vD (cs:=[_,_,_]) mh0 underlying29 I yF I) (gH I) E S) ?_;exact⟨_,I,_,_,I,ao,ap⟩
  refine go3 ?_;refine zJ 16 _ [] (zai 0 8 [(10,.q),(12,.q),(13,.q),(8,.c),(9,.c),(11,.c),(14,.c),(15,.c),(16,.t),(17,.t)]) zX nX zou nX (λr hr=>hr) (go4 ?_);refine wZ I (λ_ _=>sO underlying4 I I) I (go6 ?_);refine w_c I ?_;replace hnb:=hnb.mono Z;replace hdb:=hdb.mono Z;refine sC (ev1 I) call166 (λw hs=>sE hs hnb hdb) λbl h4 U M=>?_;rw[qD] at M;refine w_c I ?_;replace hna:=hna.mono ((aa.trans Z).trans U);refine sC (ev2 I I) call165 (λw hs=>rB hs hna M oM oM) λbk h5 ad C=>?_
  try simp only[zE] at C
  have ax:=yO ((qa.num.natAbs)) ((qb.den));refine w_c I ?_;replace hna:=hna.mono ad;replace hda:=hda.mono (((aa.trans Z).trans U).trans ad);refine sC (ev1 I) call166 (λw hs=>sE hs hna hda) λbj h6 an J=>?_;rw[qD] at J;refine w_c I ?_;replace hnb:=hnb.mono ((U.trans ad).trans an);refine sC (ev2 I I) call165 (λw hs=>rB hs J hnb oM oM) λbi h7 bg H=>?_
  try simp only[zE] at H
  have aw:=yO ((qa.den)) ((qb.num.natAbs));refine w_c I ?_;replace C:=C.mono (an.trans bg);refine sC (ev3 I I I) call155 (λw hs=>gJ hs C H oM oM) λbh h8 ch D=>?_
  try simp only[zE] at D
  obtain⟨ah,ai,rfl,O,ab⟩:=D;refine cF (A:=[]) (q':=.var b4 29 [vB ((mkRat (sg (¬((qa.num<0)↔(qb.num<0))) (((((qa.num.natAbs))*((qb.den)))))) (((((qa.den))*((qb.num.natAbs)))))).num<0),ah,ai]) I (zM (k:=0) (cs:=[_,_,_]) (vs:=[_,_,_]) I I I (ocr I (ocu O (ocu ab oc0))) yF (bL I)) I (zE8 I (pV (v:=vI (0)) I) I (go3 ?_));refine yN (λE S=>qO I (vD (cs:=[_,_,_]) mh0 underlying29 I yF I) (gH I) E S) ?_;exact⟨_,I,_,_,I,O,ab⟩
 refine go3 ?_;refine zJ 16 _ [] (zai 0 8 [(10,.q),(12,.q),(13,.q),(8,.c),(9,.c),(11,.c),(14,.c),(15,.c),(16,.t),(17,.t)]) zX nX zou nX (λr hr=>hr) (go4 ?_);refine wZ I (λ_ _=>sO underlying4 I I) I (go6 ?_);refine w_c I ?_;replace hnb:=hnb.mono (ae.trans aa);replace hdb:=hdb.mono (ae.trans aa);refine sC (ev1 I) call166 (λw hs=>sE hs hnb hdb) λbl h3 Z M=>?_;rw[qD] at M;refine w_c I ?_;replace hna:=hna.mono (aa.trans Z);refine sC (ev2 I I) call165 (λw hs=>rB hs hna M oM oM) λbk h4 U C=>?_
 try simp only[zE] at C
 have ax:=yO ((qa.num.natAbs)) ((qb.den));refine w_c I ?_;replace hna:=hna.mono U;replace hda:=hda.mono ((aa.trans Z).trans U);refine sC (ev1 I) call166 (λw hs=>sE hs hna hda) λbj h5 ad J=>?_;rw[qD] at J;refine w_c I ?_;replace hnb:=hnb.mono ((Z.trans U).trans ad);refine sC (ev2 I I) call165 (λw hs=>rB hs J hnb oM oM) λbi h6 an H=>?_
 try simp only[zE] at H
 have aw:=yO ((qa.den)) ((qb.num.natAbs));refine w_c I ?_;replace C:=C.mono (ad.trans an);refine sC (ev3 I I I) call155 (λw hs=>gJ hs C H oM oM) λbh h7 bg D=>?_
 try simp only[zE] at D
 obtain⟨ah,ai,rfl,O,ab⟩:=D;refine cF (A:=[]) (q':=.var b4 29 [vB ((mkRat (sg (¬((qa.num<0)↔(qb.num<0))) (((((qa.num.natAbs))*((qb.den)))))) (((((qa.den))*((qb.num.natAbs)))))).num<0),ah,ai]) I (zM (k:=0) (cs:=[_,_,_]) (vs:=[_,_,_]) I I I (ocr I (ocu O (ocu ab oc0))) yF (bL I)) I (zE8 I (pV (v:=vI (0)) I) I (go3 ?_));refine yN (λE S=>qO I (vD (cs:=[_,_,_]) mh0 underlying29 I yF I) (gH I) E S) ?_;exact⟨_,I,_,_,I,O,ab⟩
theorem zN0{qa:Rat}{vna vda:Value}(hna:Us .u32 h0 vna (zB qa.num.natAbs))(hda:Us .u32 h0 vda (zB (vC qa.den))){qb:Rat}{vnb vdb:Value}(hnb:Us .u32 h0 vnb (zB qb.num.natAbs))(hdb:Us .u32 h0 vdb (zB (vC qb.den)))(hqa:lq qa<=100000000000)(hqb:lq qb<=100000000000){s:Prop}:
 Calls prog 161 #[.agg #[vB (qa.num<0),vna,vda],.agg #[vB (qb.num<0),vnb,vdb],vB s] w0 (Ret w0 h0 (λh r=>vQ h r (qa+sgd s qb))):=by
 have eb:=uG qa;have ed:=uF qa;have ef:=vS qa;have ea:=uG qb;have ec:=uF qb;have ee:=vS qb;refine cb3 152 (.agg #[vB (qa.num<0),vna,vda]) (.agg #[vB (qb.num<0),vnb,vdb]) (vB s) func161 hs ?_;refine go2 ?_;refine zG (vG (cs:=[_,_,_]) I I) I I I ?_;intro v3 r3 dq;obtain⟨b3,rfl,rfl⟩:=dq;refine zG (vG (cs:=[_,_,_]) I I) I I I ?_;intro v4 r4 dp;obtain⟨b4,rfl,rfl⟩:=dp;refine zG (vY (cs:=[vB ((0:Rat).num<0),.slice none 0 0,.slice none 0 0]) xU I (by simp only[zb];rfl)) I I I ?_;intro v6 r6 dn;obtain⟨b6,rfl,rfl⟩:=dn;refine go2 ?_;refine jM (ι:=Mem) (λ(mc:(Mem))=>MLe h0 mc/\(True)) (λ(mc:(Mem))=>[(2,vB s),(3,vP b3 0),(4,vP b4 0),(6,vP b6 0)]) (λ(mc:(Mem))=>[.var b6 29 [vB ((0:Rat).num<0),.slice none 0 0,.slice none 0 0],.var b4 29 [vB (qb.num<0),vnb,vdb],.var b3 29 [vB (qa.num<0),vna,vda]]) (λ(mc:(Mem))=>mc) ?_ ?_
 ·
  refine go3 ?_;refine cL (ev1 I) call163 (λw hs=>pT hs hna hda) λem h1 aa dh=>?_;subst dh;refine sH ?_;refine cnd (λce=>?_) λce=>?_
  ·
   have br:=ce;have di:=tF br;have cg:=tG br;refine go3 ?_;replace hnb:=hnb.mono aa;replace hdb:=hdb.mono aa;refine cL (ev1 I) call163 (λw hs=>pT hs hnb hdb) λel h2 U df=>?_;subst df;refine sH ?_;refine cnd (λcd=>?_) λcd=>?_
   ·
    have bq:=cd;have ci:=tF bq;have db:=tG bq;have er:=jE di db;have eq:=jE ci cg;have ep:=jE cg db;have eo:=jE di ci;have en:=jE cg ci;have es:qa.den*qb.den≠0:=z5i qa.den_nz qb.den_nz;simp only[zIR br,zIS br,zIR bq,zIS bq];refine dQ ?_;refine gv (zZ4 (vs:=[_,_,vU .u64 0]) (yON _ _) e3z) I (rS ?_);refine gv (lF underlying4 I I) I ?_;refine gU 4 56 (vB (((qa.num<0)↔(s))/\((((qa.num.natAbs*qb.den)+(qb.num.natAbs*qa.den))/18446744073709551616)=(0:Nat)))) ?_ ?_
    ·
     refine zY ((qa.num<0)↔(s)) (λhg=>?_) (λhg=>?_)
     ·
      refine gT hg I (go3 ?_);refine gv (fS (k:=.u64) (q:=0) I I) I (go2 ?_);refine gqU ?_;exact y4e (xD hg)
     refine gF hg I (go4 ?_);refine gqU ?_;exact y4e (xE hg)
    refine gc3 (λcc=>?_) λcc=>?_
    ·
     obtain⟨cf,eu⟩:=cc;refine go7 ?_;refine cL (ev3 I I I) call164 (λw hs=>aQ hs oM oM oM) λek h3 O de=>?_;obtain⟨cm,cp,rfl,bh,bm⟩:=de;refine wT (A:=[]) (r':=.var b6 29 [vB ((mkRat (sg (s) (((qa.num.natAbs*qb.den)+(qb.num.natAbs*qa.den))%18446744073709551616)) (qa.den*qb.den)).num<0),cm,cp]) (zM (k:=0) (cs:=[_,_,_]) (vs:=[_,_,_]) I I I (ocr I (ocu bh (ocu bm oc0))) yF (bL I)) I I I (go5 ?_);refine yN (λE S=>zS I (vD (cs:=[_,_,_]) mh0 underlying29 I yF I) E S) ?_;have e:=zoh (a:=qa.num.natAbs*qb.den+qb.num.natAbs*qa.den) (b:=18446744073709551616) oM;rw[e] at bh bm ⊢;rw[zFV cf];exact⟨_,_,I,bh,bm⟩
    refine go5 ?_;refine gv (sO underlying4 I I) I ?_;refine gU 5 72 (vB ((¬((qa.num<0)↔(s)))/\((qb.num.natAbs*qa.den)<=(qa.num.natAbs*qb.den)))) ?_ ?_
    ·
     refine zY (¬((qa.num<0)↔(s))) (λhg=>?_) (λhg=>?_)
     ·
      refine gT hg I (go8 ?_);refine gqU ?_;exact y4e (xD hg)
     refine gF hg I (go5 ?_);refine gqU ?_;exact y4e (xE hg)
    refine gc3 (λbo=>?_) λbo=>?_
    ·
     obtain⟨cf,bl⟩:=bo;refine go6 ?_;refine gv (lE (k:=.u64) (W:=18446744073709551616) I I I I oM oM) I (go3 ?_);refine cL (ev3 I I I) call164 (λw hs=>aQ hs oM oM oM) λej h3 O dd=>?_;obtain⟨cl,co,rfl,bz,cb⟩:=dd;refine wT (A:=[]) (r':=.var b6 29 [vB ((mkRat (sg (qa.num<0) ((qa.num.natAbs*qb.den)-(qb.num.natAbs*qa.den))) (qa.den*qb.den)).num<0),cl,co]) (zM (k:=0) (cs:=[_,_,_]) (vs:=[_,_,_]) I I I (ocr I (ocu bz (ocu cb oc0))) yF (bL I)) I I I (go5 ?_);refine yN (λE S=>zS I (vD (cs:=[_,_,_]) mh0 underlying29 I yF I) E S) ?_;rw[zFB cf bl];exact⟨_,_,I,bz,cb⟩
    refine go5 ?_;refine gv (sO underlying4 I I) I (gc3 (λbn=>?_) λbn=>?_)
    ·
     have bs:¬qb.num.natAbs*qa.den<=qa.num.natAbs*qb.den:=λh=>bo ⟨bn,h⟩;refine go5 ?_;refine gv (lE (k:=.u64) (W:=18446744073709551616) I I I I oM oM) I (go3 ?_);refine cL (ev3 I I I) call164 (λw hs=>aQ hs oM oM oM) λei h3 O dc=>?_;obtain⟨ck,cn,rfl,bx,ca⟩:=dc;refine wT (A:=[]) (r':=.var b6 29 [vB ((mkRat (sg (s) ((qb.num.natAbs*qa.den)-(qa.num.natAbs*qb.den))) (qa.den*qb.den)).num<0),ck,cn]) (zM (k:=0) (cs:=[_,_,_]) (vs:=[_,_,_]) I I I (ocr I (ocu bx (ocu ca oc0))) yF (bL I)) I I I (go5 ?_);refine yN (λE S=>zS I (vD (cs:=[_,_,_]) mh0 underlying29 I yF I) E S) ?_;rw[zBB bn oM];exact⟨_,_,I,bx,ca⟩
    refine go2 ?_;refine zU (h2) ?_ e4z I I;refine⟨(aa.trans U),?_⟩
    trivial
   refine go1 ?_;refine zU (h2) ?_ e4z I I;refine⟨(aa.trans U),?_⟩
   trivial
  refine go1 ?_;refine zU (h1) ?_ e4z I I;refine⟨aa,?_⟩
  trivial
 rintro mc ⟨aq,eh⟩
 refine yY ?_;refine go1 ?_;refine zJ 9 _ [] (zai 0 5 [(5,.c),(6,.q),(7,.q),(8,.q)]) zX nX zou nX (λr hr=>hr) (go5 ?_);refine w_c I ?_;replace hna:=hna.mono aq;replace hda:=hda.mono aq;refine sC (ev1 I) call166 (λw hs=>sE hs hna hda) λdz h1 aa C=>?_;rw[qD] at C;refine qC ?_;replace hda:=hda.mono aa;replace hdb:=hdb.mono (aq.trans aa);refine cL (ev2 I I) call193 (λw hs=>zBD hs hda hdb) λdy h2 U ch=>?_;subst ch;refine gc3 (λbp=>?_) λbp=>?_
 ·
  refine zJ 15 _ [] [(0,.q),(1,.q),(4,.q),(5,.q),(8,.q),(9,.q),(2,.c),(3,.c),(6,.c),(7,.c),(10,.c),(11,.c),(12,.q),(13,.q),(14,.q)] zX nX zou nX (λr hr=>hr) (go6 ?_);refine w_c I ?_;replace hnb:=hnb.mono ((aq.trans aa).trans U);replace hdb:=hdb.mono U;refine sC (ev1 I) call166 (λw hs=>sE hs hnb hdb) λdx h3 O bg=>?_;rw[qD] at bg;refine w_c I ?_;replace hna:=hna.mono ((aa.trans U).trans O);refine sC (ev2 I I) call165 (λw hs=>rB hs hna bg oM oM) λdw h4 ar J=>?_
  try simp only[zE] at J
  have dm:=yO ((qa.num.natAbs)) ((qb.den));refine w_c I ?_;replace hna:=hna.mono ar;replace hda:=hda.mono ((U.trans O).trans ar);refine sC (ev1 I) call166 (λw hs=>sE hs hna hda) λdv h5 bd bf=>?_;rw[qD] at bf;refine w_c I ?_;replace hnb:=hnb.mono ((O.trans ar).trans bd);refine sC (ev2 I I) call165 (λw hs=>rB hs hnb bf oM oM) λdu h6 bj H=>?_
  try simp only[zE] at H
  have dl:=yO ((qb.num.natAbs)) ((qa.den));refine w_c I ?_;replace hnb:=hnb.mono bj;replace hdb:=hdb.mono (((O.trans ar).trans bd).trans bj);refine sC (ev1 I) call166 (λw hs=>sE hs hnb hdb) λdt h7 bi be=>?_;rw[qD] at be;refine w_c I ?_;replace C:=C.mono (((((U.trans O).trans ar).trans bd).trans bj).trans bi);refine sC (ev2 I I) call165 (λw hs=>rB hs C be oM oM) λdr h8 bw D=>?_
  try simp only[zE] at D
  have dk:=yO ((qa.den)) ((qb.den));refine qE ?_;refine gv (lF underlying4 I I) I (gc2 (λM=>?_) λM=>?_)
  ·
   refine go5 ?_;replace J:=J.mono (((bd.trans bj).trans bi).trans bw);replace H:=H.mono (bi.trans bw);refine cL (ev2 I I) call191 (λw hs=>w6 hs J H oM oM) λcy h9 bc ai=>?_
   try simp only[zE] at ai
   have bv:=gC (((((qa.num.natAbs))*((qb.den))))) (((((qb.num.natAbs))*((qa.den)))));refine go1 ?_;replace D:=D.mono bc;refine cL (ev3 I I I) call155 (λw hs=>gJ hs ai D oM oM) λcw dj bk ah=>?_
   try simp only[zE] at ah
   obtain⟨aw,az,rfl,am,ap⟩:=ah;refine wT (A:=[]) (r':=.var b6 29 [vB ((mkRat (sg (s) ((((((((qa.num.natAbs))*((qb.den)))))+(((((qb.num.natAbs))*((qa.den))))))))) (((((qa.den))*((qb.den)))))).num<0),aw,az]) (zM (k:=0) (cs:=[_,_,_]) (vs:=[_,_,_]) I I I (ocr I (ocu am (ocu ap oc0))) yF (bL I)) I I I (go4 ?_);refine yN (λE S=>zS I (vD (cs:=[_,_,_]) mh0 underlying29 I yF I) E S) ?_;rw[zFV M];exact⟨_,_,I,am,ap⟩
  refine go7 ?_;replace J:=J.mono (((bd.trans bj).trans bi).trans bw);replace H:=H.mono (bi.trans bw);refine cL (ev2 I I) call195 (λw hs=>zFG hs J H oM) λcv h9 bc bb=>?_;obtain⟨da,rfl,ac⟩:=bb
  try simp only[zE] at ac ⊢
  have bu:=yL (yiu (((((qa.num.natAbs))*((qb.den))))) (((((qb.num.natAbs))*((qa.den))))));refine rS ?_;refine cnd (λZ=>?_) λZ=>?_
  ·
   have bl:=zYL Z;rw[zae bl];refine go6 ?_;replace D:=D.mono bc;refine cL (ev3 I I I) call155 (λw hs=>gJ hs ac D oM oM) λcu dj bk ae=>?_
   try simp only[zE] at ae
   obtain⟨av,ay,rfl,ak,ao⟩:=ae;refine wT (A:=[]) (r':=.var b6 29 [vB ((mkRat (sg (qa.num<0) ((((((((qa.num.natAbs))*((qb.den)))))-(((((qb.num.natAbs))*((qa.den))))))))) (((((qa.den))*((qb.den)))))).num<0),av,ay]) (zM (k:=0) (cs:=[_,_,_]) (vs:=[_,_,_]) I I I (ocr I (ocu ak (ocu ao oc0))) yF (bL I)) I I I (go4 ?_);refine yN (λE S=>zS I (vD (cs:=[_,_,_]) mh0 underlying29 I yF I) E S) ?_;rw[zFB M oM];exact⟨_,_,I,ak,ao⟩
  have bs:=zYM Z;rw[zau bs];refine go6 ?_;replace J:=J.mono bc;replace H:=H.mono bc;refine cL (ev2 I I) call195 (λw hs=>zFG hs H J oM) λct dj bk ba=>?_;obtain⟨cz,rfl,ab⟩:=ba
  try simp only[zE] at ab ⊢
  have bt:=yL (yiu (((((qb.num.natAbs))*((qa.den))))) (((((qa.num.natAbs))*((qb.den))))));refine qC ?_;replace D:=D.mono (bc.trans bk);refine cL (ev3 I I I) call155 (λw hs=>gJ hs ab D oM oM) λcq ev eg ad=>?_
  try simp only[zE] at ad
  obtain⟨au,ax,rfl,aj,an⟩:=ad;refine wT (A:=[]) (r':=.var b6 29 [vB ((mkRat (sg (s) ((((((((qb.num.natAbs))*((qa.den)))))-(((((qa.num.natAbs))*((qb.den))))))))) (((((qa.den))*((qb.den)))))).num<0),au,ax]) (zM (k:=0) (cs:=[_,_,_]) (vs:=[_,_,_]) I I I (ocr I (ocu aj (ocu an oc0))) yF (bL I)) I I I (go3 ?_);refine yN (λE S=>zS I (vD (cs:=[_,_,_]) mh0 underlying29 I yF I) E S) ?_;rw[zBB M oM];exact⟨_,_,I,aj,an⟩
 have cj:=zSP.1 (zdi bp);refine go8 ?_;refine gv (lF underlying4 I I) I (gc2 (λM=>?_) λM=>?_)
 ·
  refine go5 ?_;replace hna:=hna.mono (aa.trans U);replace hnb:=hnb.mono ((aq.trans aa).trans U);refine cL (ev2 I I) call191 (λw hs=>w6 hs hna hnb oM oM) λcy h3 O ai=>?_
  try simp only[zE] at ai
  have bv:=gC ((qa.num.natAbs)) ((qb.num.natAbs));refine go1 ?_;replace C:=C.mono (U.trans O);refine cL (ev3 I I I) call155 (λw hs=>gJ hs ai C oM oM) λcw h4 ar ah=>?_
  try simp only[zE] at ah
  obtain⟨aw,az,rfl,am,ap⟩:=ah;refine wT (A:=[]) (r':=.var b6 29 [vB ((mkRat (sg (s) (((((qa.num.natAbs))+((qb.num.natAbs)))))) ((qa.den))).num<0),aw,az]) (zM (k:=0) (cs:=[_,_,_]) (vs:=[_,_,_]) I I I (ocr I (ocu am (ocu ap oc0))) yF (bL I)) I I I (go4 ?_);refine yN (λE S=>zS I (vD (cs:=[_,_,_]) mh0 underlying29 I yF I) E S) ?_;rw[yD2 M cj];exact⟨_,_,I,am,ap⟩
 refine go7 ?_;replace hna:=hna.mono (aa.trans U);replace hnb:=hnb.mono ((aq.trans aa).trans U);refine cL (ev2 I I) call195 (λw hs=>zFG hs hna hnb oM) λcv h3 O bb=>?_;obtain⟨da,rfl,ac⟩:=bb
 try simp only[zE] at ac ⊢
 have bu:=yL (yiu ((qa.num.natAbs)) ((qb.num.natAbs)));refine rS ?_;refine cnd (λZ=>?_) λZ=>?_
 ·
  have bl:=zYL Z;rw[zae bl];refine go6 ?_;replace C:=C.mono (U.trans O);refine cL (ev3 I I I) call155 (λw hs=>gJ hs ac C oM oM) λcu h4 ar ae=>?_
  try simp only[zE] at ae
  obtain⟨av,ay,rfl,ak,ao⟩:=ae;refine wT (A:=[]) (r':=.var b6 29 [vB ((mkRat (sg (qa.num<0) (((((qa.num.natAbs))-((qb.num.natAbs)))))) ((qa.den))).num<0),av,ay]) (zM (k:=0) (cs:=[_,_,_]) (vs:=[_,_,_]) I I I (ocr I (ocu ak (ocu ao oc0))) yF (bL I)) I I I (go4 ?_);refine yN (λE S=>zS I (vD (cs:=[_,_,_]) mh0 underlying29 I yF I) E S) ?_;rw[zYK M cj oM];exact⟨_,_,I,ak,ao⟩
 have bs:=zYM Z;rw[zau bs];refine go6 ?_;replace hna:=hna.mono O;replace hnb:=hnb.mono O;refine cL (ev2 I I) call195 (λw hs=>zFG hs hnb hna oM) λct h4 ar ba=>?_;obtain⟨cz,rfl,ab⟩:=ba
 try simp only[zE] at ab ⊢
 have bt:=yL (yiu ((qb.num.natAbs)) ((qa.num.natAbs)));refine qC ?_;replace C:=C.mono ((U.trans O).trans ar);refine cL (ev3 I I I) call155 (λw hs=>gJ hs ab C oM oM) λcq h5 bd ad=>?_
 try simp only[zE] at ad
 obtain⟨au,ax,rfl,aj,an⟩:=ad;refine wT (A:=[]) (r':=.var b6 29 [vB ((mkRat (sg (s) (((((qb.num.natAbs))-((qa.num.natAbs)))))) ((qa.den))).num<0),au,ax]) (zM (k:=0) (cs:=[_,_,_]) (vs:=[_,_,_]) I I I (ocr I (ocu aj (ocu an oc0))) yF (bL I)) I I I (go3 ?_);refine yN (λE S=>zS I (vD (cs:=[_,_,_]) mh0 underlying29 I yF I) E S) ?_;rw[zVH M cj oM];exact⟨_,_,I,aj,an⟩
theorem yFA{qa:Rat}{vna vda:Value}(hna:Us .u32 h0 vna (zB qa.num.natAbs))(hda:Us .u32 h0 vda (zB (vC qa.den))){qb:Rat}{vnb vdb:Value}(hnb:Us .u32 h0 vnb (zB qb.num.natAbs))(hdb:Us .u32 h0 vdb (zB (vC qb.den)))(hqa:lq qa<=100000000000)(hqb:lq qb<=100000000000):
 Calls prog 160 #[.agg #[vB (qa.num<0),vna,vda],.agg #[vB (qb.num<0),vnb,vdb]] w0 (Ret w0 h0 (λh r=>vQ h r (qa+qb))):=by
 have ad:=uG qa;have ah:=uF qa;have aj:=vS qa;have ac:=uG qb;have ae:=uF qb;have ai:=vS qb;refine cb2 10 (.agg #[vB (qa.num<0),vna,vda]) (.agg #[vB (qb.num<0),vnb,vdb]) func160 hs ?_;refine go2 ?_;refine zG (vG (cs:=[_,_,_]) I I) I I I ?_;intro v2 r2 Z;obtain⟨b2,rfl,rfl⟩:=Z;refine zG (vG (cs:=[_,_,_]) I I) I I I ?_;intro v3 r3 U;obtain⟨b3,rfl,rfl⟩:=U;refine zG (vY (cs:=[vB ((0:Rat).num<0),.slice none 0 0,.slice none 0 0]) xU I (by simp only[zb];rfl)) I I I ?_;intro v4 r4 O;obtain⟨b4,rfl,rfl⟩:=O;refine go8 ?_;refine cL (ev3 I I I) call161 (λw hs=>zN0 hs hna hda hnb hdb oM oM) λv9 h1 ak M=>?_;obtain⟨H,J,rfl,C,D⟩:=M;have ab:=lH qa (sgd (qb.num<0) qb);have aa:=yA9 (qb.num<0) qb;refine wT (A:=[]) (r':=.var b4 29 [vB ((qa+sgd (qb.num<0) qb).num<0),H,J]) (zM (k:=0) (cs:=[_,_,_]) (vs:=[_,_,_]) I I I (ocr I (ocu C (ocu D oc0))) yF (bL I)) I I I (go3 ?_);refine yN (λE S=>zS I (vD (cs:=[_,_,_]) mh0 underlying29 I yF I) E S) ?_;rw[zBH] at C D ⊢;exact⟨_,_,I,C,D⟩
theorem yE5{qa:Rat}{vna vda:Value}(hna:Us .u32 h0 vna (zB qa.num.natAbs))(hda:Us .u32 h0 vda (zB (vC qa.den))){qb:Rat}{vnb vdb:Value}(hnb:Us .u32 h0 vnb (zB qb.num.natAbs))(hdb:Us .u32 h0 vdb (zB (vC qb.den)))(hqa:lq qa<=100000000000)(hqb:lq qb<=100000000000):
 Calls prog 121 #[.agg #[vB (qa.num<0),vna,vda],.agg #[vB (qb.num<0),vnb,vdb]] w0 (Ret w0 h0 (λh r=>vQ h r (qa-qb))):=by
 have ad:=uG qa;have ah:=uF qa;have aj:=vS qa;have ac:=uG qb;have ae:=uF qb;have ai:=vS qb;refine cb2 11 (.agg #[vB (qa.num<0),vna,vda]) (.agg #[vB (qb.num<0),vnb,vdb]) func121 hs ?_;refine go2 ?_;refine zG (vG (cs:=[_,_,_]) I I) I I I ?_;intro v2 r2 Z;obtain⟨b2,rfl,rfl⟩:=Z;refine zG (vG (cs:=[_,_,_]) I I) I I I ?_;intro v3 r3 U;obtain⟨b3,rfl,rfl⟩:=U;refine zG (vY (cs:=[vB ((0:Rat).num<0),.slice none 0 0,.slice none 0 0]) xU I (by simp only[zb];rfl)) I I I ?_;intro v4 r4 O;obtain⟨b4,rfl,rfl⟩:=O;refine go9 ?_;refine cL (ev3 I I I) call161 (λw hs=>zN0 hs hna hda hnb hdb oM oM) λak h1 am M=>?_;obtain⟨H,J,rfl,C,D⟩:=M;have ab:=lH qa (sgd (¬(qb.num<0)) qb);have aa:=yA9 (¬(qb.num<0)) qb;refine wT (A:=[]) (r':=.var b4 29 [vB ((qa+sgd (¬(qb.num<0)) qb).num<0),H,J]) (zM (k:=0) (cs:=[_,_,_]) (vs:=[_,_,_]) I I I (ocr I (ocu C (ocu D oc0))) yF (bL I)) I I I (go3 ?_);refine yN (λE S=>zS I (vD (cs:=[_,_,_]) mh0 underlying29 I yF I) E S) ?_;rw[yEY,<-y0u] at C D ⊢;exact⟨_,_,I,C,D⟩
theorem yE8{n:Int}(hn1:-9223372036854775808<=n)(hn2:n<9223372036854775808):
 y8i 116 #[vI n] w0 h0 (λh r=>vQ h r (n:Rat)):=by
 refine cb1 9 (vI n) func116 hs ?_;refine go2 ?_;refine zG (vY (cs:=[vB ((0:Rat).num<0),.slice none 0 0,.slice none 0 0]) xU I (by simp only[zb];rfl)) I I I ?_;intro v2 r2 Z;obtain⟨b2,rfl,rfl⟩:=Z;refine go7 ?_;refine cL (ev1 I) call156 (λw hs=>zZI hs oM oM) λv6 h1 ae C=>?_;have ac:=fI (n:=n) oM oM;refine cL (vs:=[]) trivial call157 (λw hs=>zTI hs) λv7 h2 aa M=>?_;rw[w5] at M;have ab:=zMC;replace C:=C.mono aa;refine cL (ev3 I I I) call155 (λw hs=>gJ hs C M oM oM) λv8 h3 ad J=>?_
 try simp only[zE] at J
 obtain⟨O,U,rfl,D,H⟩:=J;refine wT (A:=[]) (r':=.var b2 29 [vB ((mkRat (sg (n<(0:Int)) (((n).natAbs))) ((1))).num<0),O,U]) (zM (k:=0) (cs:=[_,_,_]) (vs:=[_,_,_]) I I I (ocr I (ocu D (ocu H oc0))) yF (bL I)) I I I (go3 ?_);refine yN (λE S=>zS I (vD (cs:=[_,_,_]) mh0 underlying29 I yF I) E S) ?_;rw[zMI] at D H ⊢;exact⟨_,_,I,D,H⟩
theorem rO{sa:Prop}{ba vna vda:Value}{xa ya:List Nat}(hba:ba=vB sa)(hna:Us .u32 h0 vna xa)(hda:Us .u32 h0 vda ya):
 Calls prog 51 #[.agg #[ba,vna,vda]] w0 (Ret w0 h0 (λh r=>Us .u32 h r (if ya=[] then[1] else ya))):=by
 subst hba;have M:=qA hna.lt;have J:=qA hda.lt;refine cb1 10 (.agg #[vB sa,vna,vda]) func51 hs ?_;refine go2 ?_;refine zG (vG (cs:=[_,_,_]) I I) I I I ?_;intro v1 r1 H;obtain⟨b1,rfl,rfl⟩:=H;refine zI8 (λC=>?_) λC=>?_
 ·
  refine go2 ?_;refine zG (pM (kd:=.u32) (p:=1) underlying27 uW I I I) I I I ?_;intro Z r7 D;obtain rfl:=D;refine yU (by intro z hz;simp only[zui] at hz;subst hz;decide) ?_;intro h1 O U;refine go5 ?_;refine zC I I ?_;rw[zau (zO9.1 C)];exact U
 refine uR ?_;refine zC I I ?_;rw[zae (λh=>C (zO9.2 h))];exact hda
end
end Go.Proofs.YtpkaegemlpaenaaGreat
