/- Texts that the proof needs, part 3. -/
import Derived.Test.YtboaboflnckgoaaGreatKE2
set_option linter.unusedVariables false
set_option linter.unusedSimpArgs false
set_option linter.defProp false
namespace Bk
def y1u:=@Pc.here
def y1e:=@Pc.arr
def y2i:=@Pc.fst
def y2u:=@Pc.snd
def y2e:=@Pc.tx
def y3i:=@Pc.ty
def y3u:=@Pc.tz
end Bk
namespace Go.Proofs.YtboaboflnckgoaaGreat
open Bk Go Tryz
set_option maxRecDepth 10000
set_option maxHeartbeats 1000000
attribute [local irreducible] GL GC GQ W OpV
section
variable{w0:World}{h0:Mem}(hs:MLe h0 (mem w0))
include hs
theorem qB{v:Value}{xs:List Nat}(hv:Us .u32 h0 v xs):
 Calls prog 144 #[v] w0 (Ret w0 h0 (λh r=>r=fF 1 v 0 (zB (val xs)).length/\Us .u32 h r (zB (val xs)))):=by
 have H:=hv.lt63;refine cb1 21 v func144 hs ?_;refine sN ?_;refine gcL (ι:=Nat) (λ(k:(Nat))=>(k<=xs.length/\∀i,k<=i->xs.getD i 0=0,[(0,v),(3,vI ↑k)],[],h0,k)) xs.length ?_ ?_
 · exact⟨zbe _,λi hi=>by rw[zoa,zsi hi];rfl⟩
 rintro k ⟨J,hz⟩
 refine yQ ?_;refine go5 ?_;refine gU 8 15 (vB (((0:Int)<↑k)/\(xs.getD (k-1) 0=0))) ?_ ?_
 ·
  refine yD ((0:Int)<↑k) (λG=>?_) (λG=>?_)
  ·
   refine gT G I (go7 ?_);refine gv (zU (k-1) underlying22 sizeOf127 I I hv oM oM) I (go3 ?_);refine gv (gW (k:=.u32) (q:=0) I I) I (go2 ?_);refine gqU ?_;exact y0e (xS G)
  refine gF G I (go8 ?_);refine gqU ?_;exact y0e (xT G)
 refine gc2 (λC=>?_) λC=>?_
 ·
  refine go9 ?_;refine gqL (k-1) ?_ ?_ (he:=⟨I,?_,y1i⟩)
  ·
   exact⟨by omega,λi hi=>by
    by_cases e:i=k-1
    · rw[e];exact C.2
    · exact hz i oM⟩
  · have:=C.1;omega
  · exact y0e (zbi vI (by have:=C.1;omega))
 refine go9 ?_;refine gv (z5 _ underlying22 sizeOf127 I I hv.shape I oM) I ?_;have D:=hv.sub (lo:=0) (hi:=_) oM oM;refine go4 ?_;refine zD I I ?_;have e:(xs.drop 0).take (k-0)=zB (val xs):=zGE hv.lt J hz (by
  by_cases h0:k=0
  · exact .inl h0
  · exact .inr λh1=>C ⟨by omega,h1⟩)
 rw[e] at D;have M:(zB (val xs)).length=k:=by
  rw[<-e,zei,zhe];omega
 refine⟨?_,D⟩;rw[M]
theorem nat_of{n:Nat}(hn:n<18446744073709551616):
 Calls prog 167 #[vU .u64 n] w0 (Ret w0 h0 (λh r=>Us .u32 h r (zB n))):=by
 refine cb1 10 (vU .u64 n) func167 hs ?_;refine uV ?_;refine zF (zEN (kd:=.u32) underlying22 wS I I I I) I I I ?_;intro M O D;obtain rfl:=D;refine yK (by intro x hx;simp only[zfi,zgi,or_false] at hx;simp only[ub];omega) ?_;intro h1 H hb;refine cL (ev1 I) call144 (λw hs=>qB hs hb) λJ h2 G C=>?_;replace C:=C.2;refine go4 ?_;refine zD I I ?_;have e:val [n%4294967296,n/2^32%4294967296]=n:=by simp only[val];omega
 rw[e] at C;exact C
theorem iP{v v':Value}{xs ys:List Nat}(hv:Us .u32 h0 v xs)(hv':Us .u32 h0 v' ys):
 Calls prog 98 #[v,v'] w0 (Ret w0 h0 (λ_ r=>r=vI (tS (val xs) (val ys)))):=by
 refine cb2 45 v v' func98 hs ?_;refine go8 ?_;refine cL (ev1 I) call144 (λw hs=>qB hs hv) λv7 h1 ab C=>?_;replace C:=C.2;refine go1 ?_;replace hv':=hv'.mono ab;refine cL (ev1 I) call144 (λw hs=>qB hs hv') λv9 h2 aa D=>?_;replace D:=D.2;replace C:=C.mono aa;generalize hA:zB (val xs)=AA at *;generalize hB:zB (val ys)=BB at *;have vA:val AA=val xs:=by rw[<-hA,zE]
 have J:val BB=val ys:=by rw[<-hB,zE]
 have fA:Fit AA:=C.lt;have fB:Fit BB:=D.lt;have lA:=C.lt63;have lB:=D.lt63;refine sN ?_;refine cnd (λZ=>?_) λZ=>?_
 ·
  refine zAV (λU=>?_) λU=>?_
  ·
   refine go8 ?_;refine zD I I ?_;rw[zA0 (sQ (by rw[hA,hB];omega))]
  refine go9 ?_;refine zD I I ?_;rw[zA1 (sQ (by rw[hA,hB];omega))]
 have hl:AA.length=BB.length:=by omega
 refine uV ?_;refine gcL (ι:=Nat) (λ(j:(Nat))=>(j<=AA.length/\AA.drop j=BB.drop j,[(0,v7),(1,v9),(5,vI (↑j-1))],[],h2,j)) AA.length ?_ ?_
 · exact⟨zbe _,by rw[zle (zbe _),zle oM]⟩
 rintro j ⟨hj,M⟩
 refine yQ ?_;refine gc7 (λO=>?_) λO=>?_
 ·
  refine go5 ?_;refine zK 9 _ [] (zai 0 9 []) yC nX zot nX (λr hr=>hr) (go2 ?_);refine w_q I (λh' L' hh hR=>zU (j-1) underlying22 sizeOf127 I I (C.mono hh) oM oM) I (w_q I (λh' L' hh hR=>xO isAgg127 I (C.mono hh) oM) I (go2 ?_));refine w_q I (λh' L' hh hR=>zU (j-1) underlying22 sizeOf127 I I (D.mono hh) oM oM) I (w_q I (λh' L' hh hR=>xO isAgg127 I (D.mono hh) oM) I (gc3 (λH=>?_) λH=>?_))
  ·
   refine go2 ?_;refine zK 9 _ [] (zai 0 9 []) yC nX zot nX (λr hr=>hr) (go2 ?_);refine w_q I (λh' L' hh hR=>zU (j-1) underlying22 sizeOf127 I I (C.mono hh) oM oM) I (w_q I (λh' L' hh hR=>xO isAgg127 I (C.mono hh) oM) I (go2 ?_));refine w_q I (λh' L' hh hR=>zU (j-1) underlying22 sizeOf127 I I (D.mono hh) oM oM) I (w_q I (λh' L' hh hR=>xO isAgg127 I (D.mono hh) oM) I (gc3 (λG=>?_) λG=>?_))
   ·
    refine uV ?_;refine zD I I ?_;rw[<-vA,<-J,zA0 (zCY fA hl oM hj M G)]
   refine rN ?_;refine zD I I ?_;rw[<-vA,<-J,zA1 (zCY fB hl.symm oM oM M.symm oM)]
  refine go8 ?_;refine gqL (j-1) ?_ ?_ (he:=⟨I,I,?_,y1i⟩)
  ·
   refine⟨by omega,?_⟩;rw[fT AA (j-1) oM,fT BB (j-1) oM];have e:j-1+1=j:=by omega
   rw[e,M,zdi H]
  · omega
  · exact y0e (zbi vI oM)
 refine qG ?_;refine zD I I ?_;have h0:j=0:=by omega
 subst h0;simp only[ybu] at M;rw[<-vA,<-J,M,zQJ]
theorem cE{v:Value}{xs:List Nat}(hv:Us .u32 h0 v xs)(hl:xs.length<=1099511627776):
 Calls prog 103 #[v] w0 (rG w0 h0 (λ_ r L=>L=[.us 127 .u32 r xs])):=by
 refine cb1 8 v func103 hs ?_;refine go9 ?_;refine gv (y0 underlying22 I (let ⟨a,c,hv⟩:=hv.one;⟨a,_,c,hv⟩)) I (gc2 (λC=>?_) λC=>?_)
 ·
  refine go3 ?_;refine zBZ (E:=127) (k:=.u32) (go4 ?_);refine uY I I ?_;obtain⟨m,H,rfl⟩:=C;have hx:xs=[]:=hv.nil_of;subst hx
  rfl
 refine go4 ?_;refine zF (zEO (kd:=.u32) underlying22 wS I I) I I I ?_;intro M U G;obtain rfl:=G;refine go1 ?_;refine xL (A:=[]) (jO (kd:=.u32) (bytes:=4) underlying22 wS I I I I I hv (by simp only[lN];omega) (by simp only[lN];omega)) I I I ?_;intro J O D;obtain rfl:=D;refine go4 ?_;refine uY I I ?_
 rfl
theorem aQ{v v':Value}{xs ys:List Nat}(hv:Us .u32 h0 v xs)(hv':Us .u32 h0 v' ys)(hl:xs.length<=1099511627776)(hl':ys.length<=1099511627776):
 Calls prog 100 #[v,v'] w0 (Ret w0 h0 (λh r=>Us .u32 h r (zB (val xs+val ys)))):=by
 refine cb2 58 v v' func100 hs ?_;refine go5 ?_;refine qK (ι:=Value×List Nat×Value×List Nat) (λ(J,D,O,G)=>Us .u32 h0 J D/\Us .u32 h0 O G/\G.length<=D.length/\val D+val G=val xs+val ys/\D.length<=1099511627776) (λ(J,D,O,G)=>[(0,J),(1,O)]) (λ(J,D,O,G)=>[]) (λ(J,D,O,G)=>h0) ?_ ?_
 ·
  refine go5 ?_;refine gv (wW underlying22 I hv') I (gc3 (λad=>?_) λad=>?_)
  ·
   refine go6 ?_;refine zS (v',ys,v,xs) ?_ e2z I I;exact⟨hv',hv,by omega,by omega,hl'⟩
  refine go1 ?_;refine zS (v,xs,v',ys) ?_ e2z I I;exact⟨hv,hv',by omega,I,hl⟩
 rintro⟨J,D,O,G⟩ ⟨ha,hb,an,zR9,ao⟩
 refine yQ ?_;refine go5 ?_;refine qQ (kd:=.u32) (by':=4) (D.length+1) underlying22 wS I I I I I oM oM oM oM I ?_;intro M;refine go5 ?_;refine asg (v:=vU .u64 0) I I (qG ?_);refine jU (ι:=List Nat×Nat) (λ(C,c)=>C.length<=D.length/\Fit C/\c<=1/\val C+4294967296^C.length*c=val (D.take C.length)+val (G.take C.length)) (λ(C,c)=>[(0,J),(1,O),(5,M),(6,vU .u64 c),(20,J),(21,vI ↑D.length),(22,vI ↑C.length)]) (λ(C,c)=>[.us 127 .u32 M (tC C (D.length+1))]) (λ(C,c)=>h0) (λ(C,c)=>D.length-C.length) ([],0) ?_ e7 I I ?_
 · exact⟨by simp,λx hx=>by simp at hx,by omega,by simp[val]⟩
 rintro⟨C,c⟩ ⟨am,aa,ar,Z⟩
 refine yQ ?_;refine gc6 (λac=>?_) λac=>?_
 ·
  refine go7 ?_;refine gv (zU _ underlying22 sizeOf127 I I ha I oM) I (go1 ?_);have ak:=ha.get32 C.length;have aj:=hb.get32 C.length;refine rN ?_;refine qK (ι:=Unit) (λ(_u:(Unit))=>True) (λ(_u:(Unit))=>[(0,J),(1,O),(5,M),(6,vU .u64 (c+D.getD C.length 0+G.getD C.length 0)),(7,vI ↑C.length),(20,J),(21,vI ↑D.length),(22,vI ↑C.length)]) (λ(_u:(Unit))=>[.us 127 .u32 M (tC C (D.length+1))]) (λ(_u:(Unit))=>h0) ?_ ?_
  ·
   refine gc8 (λab=>?_) λab=>?_
   ·
    refine go4 ?_;refine gv (zU _ underlying22 sizeOf127 I I hb I oM) I (go5 ?_);refine zS (()) ?_ e8 I I
    trivial
   refine go1 ?_;refine zS (()) ?_ ⟨I,I,I,?_,I,I,I,I,y1i⟩ I I
   · trivial
   · exact y0e (zbi (vU .u64) (by rw[tO (xs:=G) oM];omega))
  rintro _u ah
  refine yQ ?_;refine go6 ?_;refine gv (yP (A:=[]) _ underlying22 sizeOf127 I I I (by rw[vY oM];omega)) I (wF sizeOf127 I I (by rw[vY oM];omega) (rN ?_));refine qV (C++[(c+D.getD C.length 0+G.getD C.length 0)%4294967296],(c+D.getD C.length 0+G.getD C.length 0)/2^32) ?_ ?_ ⟨I,I,I,I,I,I,?_,y1i⟩ ?_ I
  ·
   have ae:C.length<D.length:=by omega
   refine⟨by simp;omega,vJ aa (bP oM),by omega,?_⟩;rw[lAz,zju,uH D _ ae,vX G,sG,zke];have e:=z3u (c+D.getD C.length 0+G.getD C.length 0) 4294967296;have e2:(2:Nat)^32=4294967296:=I;rw[e2];generalize (c+D.getD C.length 0+G.getD C.length 0)/4294967296=q at *;generalize (c+D.getD C.length 0+G.getD C.length 0)%4294967296=r at *;grind
  ·
   dsimp only;simp;omega
  · exact y0e (zbi vI zo1)
  try dsimp only[List.nil_append,List.cons_append]
  rw[rB oM]
 refine uV ?_;refine gv (yP (A:=[]) (D.length) underlying22 sizeOf127 I I zo0 (by rw[vY oM];omega)) I (wF sizeOf127 I I (by rw[vY oM];omega) (go5 ?_));have hk:C.length=D.length:=by omega
 have U:(tC C (D.length+1)).set D.length (c%4294967296)=C++[c%4294967296]:=by
  rw[<-hk,rB oM,cW zo1]
 refine yK (by rw[U];exact vJ aa (bP oM)) ?_;intro h1 aq ho;refine cL (ev1 I) call144 (λw hs=>qB hs ho) λai h2 ap H=>?_;replace H:=H.2;refine go4 ?_;refine zD I I ?_;have e:val (C++[c%4294967296])=val xs+val ys:=by
  rw[sG,zoh oM,Z,xQ oM,xQ oM];exact zR9
 rw[U,e] at H;exact H
theorem zC7{v v':Value}{xs ys:List Nat}(hv:Us .u32 h0 v xs)(hv':Us .u32 h0 v' ys)(hl:xs.length<=1099511627776):
 Calls prog 162 #[v,v'] w0 (Ret w0 h0 (λh r=>∃u,r=.tuple #[u,vI (if val xs<val ys then 7 else 0)]/\Us .u32 h u (zB (val xs-val ys)))):=by
 refine cb2 54 v v' func162 hs ?_;refine qG ?_;refine cL (ev2 I I) call98 (λw hs=>iP hs hv hv') λan h1 ab aa=>?_;subst aa;refine gc3 (λH=>?_) λH=>?_
 ·
  have M:=fC.1 H;refine go8 ?_;refine uA I I I ?_;rw[zau M,Nat.sub_eq_zero_of_le (ydi M),yR];exact⟨_,I,Us.nil _ _⟩
 have aj:val ys<=val xs:=ybe λhc=>H (fC.2 hc);refine go5 ?_;replace hv':=hv'.mono ab;refine cL (ev1 I) call144 (λw hs=>qB hs hv') λU h2 ai G=>?_;replace G:=G.2;replace hv:=hv.mono (ab.trans ai);refine go7 ?_;refine qQ (kd:=.u32) (by':=4) _ underlying22 wS I I I I I I I oM oM I ?_;intro J;refine go5 ?_;refine asg (v:=vU .u64 0) I I (qG ?_);refine jU (ι:=List Nat×Nat) (λ(C,c)=>C.length<=xs.length/\Fit C/\c<=1/\val C+val ((zB (val ys)).take C.length)=val (xs.take C.length)+4294967296^C.length*c) (λ(C,c)=>[(1,U),(6,J),(7,vU .u64 c),(21,v),(22,vI ↑xs.length),(23,vI ↑C.length)]) (λ(C,c)=>[.us 127 .u32 J (tC C xs.length)]) (λ(C,c)=>h2) (λ(C,c)=>xs.length-C.length) ([],0) ?_ e6 I I ?_
 · exact⟨by simp,λx hx=>by simp at hx,by omega,by simp[val]⟩
 rintro⟨C,c⟩ ⟨aq,O,av,Z⟩
 refine yQ ?_;refine gc6 (λad=>?_) λad=>?_
 ·
  refine go7 ?_;refine gv (zU _ underlying22 sizeOf127 I I hv I oM) I (go1 ?_);have ap:=hv.get32 C.length;have ao:=G.get32 C.length;refine uQ ?_;refine qK (ι:=Unit) (λ(_u:(Unit))=>True) (λ(_u:(Unit))=>[(1,U),(6,J),(8,vI ↑C.length),(9,vU .u32 (xs.getD C.length 0)),(10,vU .u64 (c+(zB (val ys)).getD C.length 0)),(21,v),(22,vI ↑xs.length),(23,vI ↑C.length)]) (λ(_u:(Unit))=>[.us 127 .u32 J (tC C xs.length)]) (λ(_u:(Unit))=>h2) ?_ ?_
  ·
   refine gc8 (λac=>?_) λac=>?_
   ·
    refine go4 ?_;refine gv (zU _ underlying22 sizeOf127 I I G I oM) I (go5 ?_);refine zS (()) ?_ e8 I I
    trivial
   refine go1 ?_;refine zS (()) ?_ ⟨I,I,I,I,?_,I,I,I,y1i⟩ I I
   · trivial
   · exact y0e (zbi (vU .u64) (by rw[tO (xs:=zB (val ys)) oM];omega))
  rintro _u ak
  refine yQ ?_;refine go5 ?_;refine gv (lW (k:=.u64) (W:=18446744073709551616) I I I I oM) I (go9 ?_);refine gv (yP (A:=[]) _ underlying22 sizeOf127 I I I (by rw[vY oM];omega)) I (wF sizeOf127 I I (by rw[vY oM];omega) (go4 ?_));refine gv (kV (k:=.u64) (s:=63) (yk:=.u64) I I I (by simp only[ub];omega)) I (go8 ?_);generalize hX:xs.getD C.length 0=X at *;generalize hY:(zB (val ys)).getD C.length 0=Y at *;refine qV (C++[(X+18446744073709551616-(c+Y))%18446744073709551616%4294967296],(X+18446744073709551616-(c+Y))%18446744073709551616/2^63) ?_ ?_ ⟨I,I,I,I,I,?_,y1i⟩ ?_ I
  ·
   have M:C.length<xs.length:=by omega
   refine⟨by simp;omega,vJ O (bP oM),by omega,?_⟩;rw[lAz,zju,uH xs _ M,vX (zB (val ys)),sG,zke,hX,hY];have e:(X+18446744073709551616-(c+Y))%18446744073709551616%4294967296+c+Y=X+4294967296*((X+18446744073709551616-(c+Y))%18446744073709551616/2^63):=by omega
   generalize (X+18446744073709551616-(c+Y))%18446744073709551616/2^63=q at *;generalize (X+18446744073709551616-(c+Y))%18446744073709551616%4294967296=r at *;grind
  ·
   dsimp only;simp;omega
  · exact y0e (zbi vI zo1)
  try dsimp only[List.nil_append,List.cons_append]
  rw[rB oM]
 refine go8 ?_;have hk:C.length=xs.length:=by omega
 rw[cW hk];refine yK (by exact O) ?_;intro h3 ah ho;refine cL (ev1 I) call144 (λw hs=>qB hs ho) λam h4 ae D=>?_;replace D:=D.2;refine go5 ?_;refine uA I I I ?_;replace hv:=hv.mono (ah.trans ae);rw[zae oM];refine⟨_,I,?_⟩;have e:val C=val xs-val ys:=by
  have au:(zB (val ys)).length<=xs.length:=zci (zR aj) (vC hv.lt);rw[xQ oM,zE,xQ oM] at Z;have h1:=kJ O;have h2:c=0:=zdu λar=>by
   have:c=1:=by omega
   subst this;omega
  subst h2;omega
 rw[e] at D;exact D
theorem tE{v v':Value}{xs ys:List Nat}(hv:Us .u32 h0 v xs)(hv':Us .u32 h0 v' ys)(hl:xs.length<=1099511627776)(hl':ys.length<=1099511627776):
 Calls prog 99 #[v,v'] w0 (Ret w0 h0 (λh r=>Us .u32 h r (zB (val xs*val ys)))):=by
 have av:Fit xs:=hv.lt;have au:Fit ys:=hv'.lt;refine cb2 69 v v' func99 hs ?_;refine uQ ?_;refine gv (wW underlying22 I hv') I (go1 ?_);refine qQ (kd:=.u32) (by':=4) (xs.length+ys.length) underlying22 wS I I I I I oM oM oM oM I ?_;intro H;refine uV ?_;refine gcL (ι:=Nat×List Nat) (λ(k,J)=>(k<=xs.length/\J.length=xs.length+ys.length/\Fit J/\val J=val (xs.take k)*val ys/\∀i,k+ys.length<=i->J.getD i 0=0,[(1,v'),(5,H),(17,v),(18,vI ↑xs.length),(19,vI ↑k)],[.us 127 .u32 H J],h0,xs.length-k)) (0,List.replicate (xs.length+ys.length) 0) ?_ ?_
 · exact⟨zqe _,by simp,qL _,by rw[fY];simp[val],λi _=>eU _ _⟩
 rintro⟨k,J⟩ ⟨hk,ad,Z,M,hz⟩
 refine yQ ?_;refine gc6 (λah=>?_) λah=>?_
 ·
  refine go7 ?_;refine gv (zU _ underlying22 sizeOf127 I I hv I oM) I (go1 ?_);have ap:=hv.get32 k;refine go8 ?_;refine gv (gW (k:=.u32) (q:=0) I I) I (gc2 (λG=>?_) λG=>?_)
  ·
   have aa:xs.getD k 0=0:=G;refine go8 ?_;refine gqL (k+1,J) ?_ ?_
   · exact⟨by omega,ad,Z,by rw[M,uH xs k oM,aa];simp,λi hi=>hz i oM⟩
   omega
  have aa:xs.getD k 0≠0:=G;refine go4 ?_;refine asg (v:=vU .u64 0) I I (go6 ?_);refine gv (wW underlying22 I hv') I (go4 ?_);refine gcL (ι:=Nat×List Nat×Nat) (λ(j,C,c)=>(j<=ys.length/\C.length=xs.length+ys.length/\Fit C/\c<4294967296/\val C+4294967296^(k+j)*c=val J+4294967296^k*(xs.getD k 0*val (ys.take j))/\∀i,k+ys.length<=i->C.getD i 0=0,[(1,v'),(5,H),(6,vI ↑k),(7,vU .u32 (xs.getD k 0)),(8,vU .u64 c),(17,v),(18,vI ↑xs.length),(19,vI ↑k),(26,v'),(27,vI ↑ys.length),(28,vI ↑j)],[.us 127 .u32 H C],h0,ys.length-j)) (0,J,0) ?_ ?_
  · exact⟨zqe _,ad,Z,by omega,by simp[val],hz⟩
  rintro⟨j,C,c⟩ ⟨hj,ac,U,aj,ab,O⟩
  refine yQ ?_;refine gc6 (λae=>?_) λae=>?_
  ·
   refine go7 ?_;refine gv (zU _ underlying22 sizeOf127 I I hv' I oM) I (gv (xO isAgg127 I hv' oM) I ?_);have ao:=hv'.get32 j;have an:=qE U (k+j);have am:xs.getD k 0*ys.getD j 0<=4294967295*4294967295:=z6i oM oM;refine zBY ?_;refine gv (yP (A:=[]) (k+j) underlying22 sizeOf127 I I oM oM) I (gv (kY (A:=[]) isAgg127 I oM) I (sN ?_));refine gv (yP (A:=[]) (k+j) underlying22 sizeOf127 I I oM oM) I (wF sizeOf127 I I oM (rN ?_));refine gqL (j+1,C.set (k+j) ((c+(xs.getD k 0*ys.getD j 0+C.getD (k+j) 0))%4294967296),(c+(xs.getD k 0*ys.getD j 0+C.getD (k+j) 0))/2^32) ?_ ?_
   ·
    refine⟨by omega,by simp[ac],aW U _ oM,by omega,?_,λi hi=>?_⟩
    · have h1:=aM (xs:=C) (i:=k+j) oM ((c+(xs.getD k 0*ys.getD j 0+C.getD (k+j) 0))%4294967296)
      have e:=z3u (c+(xs.getD k 0*ys.getD j 0+C.getD (k+j) 0)) 4294967296;have e2:(2:Nat)^32=4294967296:=I;rw[uH ys j oM,e2];have ep:(4294967296:Nat)^(k+(j+1))=4294967296^k*4294967296^j*4294967296:=by rw[<-z3i,zke,zlu]
      rw[ep];rw[zlu] at h1 ab;generalize (c+(xs.getD k 0*ys.getD j 0+C.getD (k+j) 0))/4294967296=q at *;generalize (c+(xs.getD k 0*ys.getD j 0+C.getD (k+j) 0))%4294967296=r at *;grind
    · rw[qJ oM];exact O i hi
   omega
  refine go9 ?_;refine gv (wW underlying22 I hv') I (go3 ?_);refine gv (yP (A:=[]) (k+ys.length) underlying22 sizeOf127 I I oM oM) I (wF sizeOf127 I I oM (go7 ?_));refine gqL (k+1,C.set (k+ys.length) (c%4294967296)) ?_ ?_
  ·
   have hj:j=ys.length:=by omega
   subst hj;refine⟨by omega,by simp[ac],aW U _ oM,?_,λi hi=>?_⟩
   · have h1:=aM (xs:=C) (i:=k+ys.length) oM (c%4294967296)
     rw[O _ (zbe _)] at h1;rw[xQ (zbe _)] at ab;rw[zoh aj] at h1 ⊢;rw[uH xs k oM];grind
   · rw[qJ oM];exact O i oM
  omega
 refine go8 ?_;refine yK (by exact Z) ?_;intro h1 ar ho;refine cL (ev1 I) call144 (λw hs=>qB hs ho) λak h2 aq D=>?_;replace D:=D.2;refine go4 ?_;refine zD I I ?_;have ai:k=xs.length:=by omega
 rw[M,ai,xQ (zbe _)] at D;exact D
end
set_option maxRecDepth 100000 in
section
variable{w0:World}{h0:Mem}(hs:MLe h0 (mem w0))
include hs
theorem zFK{x:Nat}(hx:x<4294967296):
 Calls prog 145 #[vU .u32 x] w0 (Ret w0 h0 (λ_ r=>r=vI ↑(wH x))):=by
 refine cb1 19 (vU .u32 x) func145 hs ?_;refine go5 ?_;refine qK (ι:=Nat×Nat) (λ(D,G)=>D<65536/\G<=16/\wH x=wH D+G) (λ(D,G)=>[(0,vU .u32 D),(2,vI ↑G)]) (λ(D,G)=>[]) (λ(D,G)=>h0) ?_ ?_
 ·
  refine go3 ?_;refine gv (rU (k:=.u32) (q:=65536) I I) I (gc2 (λM=>?_) λM=>?_)
  ·
   refine go3 ?_;refine gv (kV (k:=.u32) (s:=16) (yk:=.u64) I I I (by simp only[ub];omega)) I (go6 ?_);refine zS (x/2^16,16) ?_ e2z I I;exact⟨by omega,by omega,zB6 M⟩
  refine go1 ?_;refine zS (x,0) ?_ e2z I I;exact⟨by omega,by omega,I⟩
 rintro⟨D,G⟩ ⟨Z,ab,O⟩
 refine yQ ?_;refine qK (ι:=Nat×Nat) (λ(C,H)=>C<256/\H<=24/\wH x=wH C+H) (λ(C,H)=>[(0,vU .u32 C),(2,vI ↑H)]) (λ(C,H)=>[]) (λ(C,H)=>h0) ?_ ?_
 ·
  refine go3 ?_;refine gv (rU (k:=.u32) (q:=256) I I) I (gc2 (λJ=>?_) λJ=>?_)
  ·
   refine go3 ?_;refine gv (kV (k:=.u32) (s:=8) (yk:=.u64) I I I (by simp only[ub];omega)) I (go8 ?_);refine zS (D/2^8,G+8) ?_ ⟨I,?_,y1i⟩ I I
   · exact⟨by omega,by omega,by rw[O,zB6 (k:=8) J];omega⟩
   · exact y0e (zbi vI oM)
  refine go1 ?_;refine zS (D,G) ?_ e2z I I;exact⟨by omega,by omega,O⟩
 rintro⟨C,H⟩ ⟨U,aa,ad⟩
 refine yQ ?_;refine go4 ?_;refine gv (fO (k:=.u32) (k':=.u8) (W:=256) underlying127 underlying5 I I I) I ?_;have ac:wH C<=8:=aJ (k:=8) oM;refine mS (zIB (λi=>wH i) (C%256) underlying9 I I I (by decide +kernel) (by show C%256<256;omega)) I I I ?_;rw[zoh U];refine gv (zND (k:=.u8) underlying5 underlying3 I oM) I (go5 ?_);refine zD I I ?_;exact zbi vI oM
theorem zSM{x:Nat}(hx:x<4294967296):
 Calls prog 183 #[vU .u32 x] w0 (Ret w0 h0 (λ_ r=>r=vI ↑(32-wH x))):=by
 refine cb1 6 (vU .u32 x) func183 hs ?_;refine go8 ?_;refine cL (ev1 I) call145 (λw hs=>zFK hs oM) λv4 h1 D C=>?_;subst C;have hb:wH x<=32:=aJ (k:=32) oM;refine gv (jI (p:=32) I I oM oM) I (go4 ?_);refine zD I I ?_;exact zbi vI oM
theorem cS{v:Value}{xs:List Nat}(hv:Us .u32 h0 v xs)(hl:xs.length<=1099511627776):
 Calls prog 94 #[v] w0 (Ret w0 h0 (λ_ r=>r=vI ↑(wH (val xs)))):=by
 refine cb1 20 v func94 hs ?_;refine go8 ?_;refine cL (ev1 I) call144 (λw hs=>qB hs hv) λv4 h1 H C=>?_;replace C:=C.2;replace hv:=hv.mono H;have ab:=vC hv.lt;generalize M:zB (val xs)=AA at *;have O:val AA=val xs:=by rw[<-M,zE]
 have U:Fit AA:=C.lt;refine zE9 (λJ=>?_) λJ=>?_
 ·
  refine go7 ?_;refine zD I I ?_;have h0:AA=[]:=zof oM;rw[<-O,h0];rfl
 refine go6 ?_;have G:0<AA.length:=by omega
 refine go1 ?_;refine gv (aA (p:=32) I I oM oM) I (go4 ?_);refine gv (zU (AA.length-1) underlying22 sizeOf127 I I C oM oM) I (go1 ?_);have aa:=qE U (AA.length-1);have hb:=aJ (n:=AA.getD (AA.length-1) 0) (k:=32) oM;refine cL (ev1 I) call145 (λw hs=>zFK hs oM) λZ h2 ac D=>?_;subst D;refine go5 ?_;refine zD I I ?_;rw[<-O,zB5 U (k:=AA.length-1) oM (by rw[<-M];exact tX (by rw[M];exact G))];exact zbi vI oM
theorem zK5{v:Value}{xs:List Nat}(hv:Us .u32 h0 v xs)(hl:xs.length<=2):
 Calls prog 192 #[v] w0 (Ret w0 h0 (λ_ r=>r=vU .u64 (val xs))):=by
 have H:Fit xs:=hv.lt;refine cb1 21 v func192 hs ?_;refine go2 ?_;refine asg (v:=vU .u64 0) I I (go4 ?_);refine asg (v:=vU .u64 0) I I (uV ?_);have D:val (xs.drop xs.length)=0:=by rw[zle (zbe _)];rfl
 refine jU (ι:=Nat) (λ(j:(Nat))=>j<=xs.length) (λ(j:(Nat))=>[(0,v),(3,vU .u64 (val (xs.drop j))),(4,vI (↑j-1))]) (λ(j:(Nat))=>[]) (λ(j:(Nat))=>h0) (λ(j:(Nat))=>j) xs.length ?_ ⟨?_,?_,?_,y1i⟩ I I ?_
 · exact zbe _
 · exact I
 · exact y0e (zbi (vU .u64) D.symm)
 · exact I
 rintro j J
 refine yQ ?_;refine gc7 (λG=>?_) λG=>?_
 ·
  refine go6 ?_;refine gv (kW (k:=.u64) (s:=32) (yk:=.u64) (W:=18446744073709551616) I I I I) I (go2 ?_);refine gv (zU (j-1) underlying22 sizeOf127 I I hv oM oM) I (go1 ?_);have C:=hv.get32 (j-1);refine go1 ?_;refine gv (tU (k:=.u64) I I I (by simp only[ub];omega) (by simp only[ub];omega)) I ?_;rw[rV (by
   have h2:=kJ (nQ H j);rw[zhe] at h2;have h3:(4294967296:Nat)^(xs.length-j)<=4294967296^1:=ziu oM oM;omega) C]
  refine go9 ?_;refine qV (j-1) ?_ ?_ ⟨I,?_,?_,y1i⟩ I I
  · omega
  · omega
  ·
   rw[jP xs (j-1) oM];exact y0e (zbi (vU .u64) (by rw[show j-1+1=j by omega];omega))
  · exact y0e (zbi vI oM)
 refine uV ?_;refine zD I I ?_;rw[show j=0 by omega];rfl
theorem zRY{v:Value}{xs:List Nat}{b:Nat}(hv:Us .u32 h0 v xs)(hb:0<b)(hb':b<4294967296)(hl:xs.length<=1099511627776):
 Calls prog 182 #[v,vU .u32 b] w0 (Ret w0 h0 (λh r=>∃u,r=.tuple #[u,vU .u32 (val xs%b)]/\Us .u32 h u (zB (val xs/b)))):=by
 have hf:Fit xs:=hv.lt;refine cb2 43 v (vU .u32 b) func182 hs ?_;refine go3 ?_;refine asg (v:=vU .u32 0) I I (go6 ?_);refine qQ (kd:=.u32) (by':=4) _ underlying22 wS I I I I I I I oM oM I ?_;intro H;refine go5 ?_;refine asg (v:=vU .u64 0) I I (uV ?_);refine jU (ι:=Nat×List Nat×Nat) (λ(j,D,r)=>j<=xs.length/\D.length=xs.length-j/\Fit D/\r<b/\val (xs.drop j)=b*val D+r) (λ(j,D,r)=>[(0,v),(1,vU .u32 b),(6,H),(7,vU .u64 r),(8,vI (↑j-1))]) (λ(j,D,r)=>[.us 127 .u32 H (gH j D)]) (λ(j,D,r)=>h0) (λ(j,D,r)=>j) (xs.length,[],0) ?_ e5 ?_ I ?_
 · exact⟨zbe _,by simp,λx hx=>by simp at hx,hb,by rw[zle (zbe _)];rfl⟩
 ·
  try dsimp only[List.nil_append,List.cons_append]
  exact zbi (λz=>[Res.us 127 .u32 H z]) (aG _)
 rintro⟨j,D,r⟩ ⟨hj,ab,J,U,C⟩
 refine yQ ?_;refine gc7 (λM=>?_) λM=>?_
 ·
  refine go7 ?_;refine gv (kW (k:=.u64) (s:=32) (yk:=.u64) (W:=18446744073709551616) I I I I) I (go2 ?_);refine gv (zU (j-1) underlying22 sizeOf127 I I hv oM oM) I (go1 ?_);have O:=hv.get32 (j-1);refine go1 ?_;refine gv (tU (k:=.u64) I I I (by simp only[ub];omega) (by simp only[ub];omega)) I ?_;rw[rV oM O];generalize ht:r*4294967296+xs.getD (j-1) 0=t at *;have hq:t/b<4294967296:=z2e (by rw[<-ht];have h1:(r+1)*4294967296<=b*4294967296:=zfu _ U;omega);refine uQ ?_;refine gv (cK (k:=.u64) (W:=18446744073709551616) I I I I oM oM) I (gv (wY (k:=.u64) (k':=.u32) (W:=4294967296) underlying130 underlying127 I I I oM) I (gv (yP (A:=[]) (j-1) underlying22 sizeOf127 I I oM (by rw[qZ];omega)) I (wF sizeOf127 I I (by rw[qZ];omega) (go6 ?_))));refine gv (cJ (k:=.u64) I I oM) I (go9 ?_);refine qV (j-1,t/b::D,t%b) ?_ ?_ ⟨I,I,I,I,?_,y1i⟩ ?_ I
  ·
   refine⟨by omega,by simp only[lC];omega,sP.2 ⟨hq,J⟩,zcu _ hb,?_⟩;rw[jP xs (j-1) oM,show j-1+1=j by omega,val];exact zDT C ht.symm I I
  ·
   dsimp only;omega
  · exact y0e (zbi vI oM)
  try dsimp only[List.nil_append,List.cons_append]
  rw[aF oM]
 refine go8 ?_;have Z:j=0:=by omega
 subst Z;rw[cX];refine yK (by exact J) ?_;intro h1 ad ho;refine cL (ev1 I) call144 (λw hs=>qB hs ho) λaa h2 ac G=>?_;replace G:=G.2;refine go1 ?_;refine gv (wY (k:=.u64) (k':=.u32) (W:=4294967296) underlying130 underlying127 I I I oM) I (go5 ?_);refine uA I I I ?_;simp only[ybu] at C;have e1:val xs/b=val D:=by rw[C,Nat.mul_add_div hb,zzu U];omega
 have e2:val xs%b=r:=by rw[C,Nat.mul_add_mod,zoh U]
 rw[e1,e2];exact⟨_,I,G⟩
theorem iN{v:Value}{xs:List Nat}{s:Nat}(hv:Us .u32 h0 v xs)(hs32:s<32)(hl:xs.length<=1099511627776):
 Calls prog 146 #[v,vI ↑s] w0 (rG w0 h0 (λ_ r L=>∃us,L=[.us 127 .u32 r us]/\us.length=xs.length+1/\Fit us/\val us=val xs*2^s)):=by
 have hf:Fit xs:=hv.lt;have hp:2^s<=2147483648:=ziu (n:=2) oM (show s<=31 by omega);have M:0<2^s:=zqi oM;refine cb2 41 v (vI ↑s) func146 hs ?_;refine uQ ?_;refine qQ (kd:=.u32) (by':=4) (xs.length+1) underlying22 wS I I I I I oM oM oM oM I ?_;intro D;refine go5 ?_;refine asg (v:=vU .u64 0) I I (qG ?_);refine jU (ι:=List Nat×Nat) (λ(C,c)=>C.length<=xs.length/\Fit C/\c<2^s/\val C+4294967296^C.length*c=val (xs.take C.length)*2^s) (λ(C,c)=>[(0,v),(1,vI ↑s),(5,D),(6,vU .u64 c),(13,v),(14,vI ↑xs.length),(15,vI ↑C.length)]) (λ(C,c)=>[.us 127 .u32 D (tC C (xs.length+1))]) (λ(C,c)=>h0) (λ(C,c)=>xs.length-C.length) ([],0) ?_ e7 I I ?_
 · exact⟨by simp,λx hx=>by simp at hx,M,by simp[val]⟩
 rintro⟨C,c⟩ ⟨aa,H,hc,G⟩
 refine yQ ?_;refine gc6 (λJ=>?_) λJ=>?_
 ·
  refine go7 ?_;refine gv (zU _ underlying22 sizeOf127 I I hv I oM) I (go1 ?_);have Z:=hv.get32 C.length;have U:xs.getD C.length 0*2^s<18446744073709551616-4294967296:=by
   have:=z6i (show xs.getD C.length 0<=4294967295 by omega) hp;omega
  refine uQ ?_;refine gv (kW (k:=.u64) (s:=s) (yk:=.i64) (W:=18446744073709551616) I I I I) I ?_;rw[zoh oM];refine gv (tU (k:=.u64) I I I (by simp only[ub];omega) (by simp only[ub];omega)) I ?_;rw[zNF hc];refine go9 ?_;refine gv (yP (A:=[]) _ underlying22 sizeOf127 I I I (by rw[vY oM];omega)) I (wF sizeOf127 I I (by rw[vY oM];omega) (rN ?_));refine qV (C++[(xs.getD C.length 0*2^s+c)%4294967296],(xs.getD C.length 0*2^s+c)/2^32) ?_ ?_ ⟨I,I,I,I,I,I,?_,y1i⟩ ?_ I
  ·
   refine⟨by simp;omega,vJ H (bP oM),?_,?_⟩
   · refine z2e ?_
     have:=zfu (2^s) (show xs.getD C.length 0+1<=2^32 by omega);rw[z1e] at this;omega
   · have e:=z3u (xs.getD C.length 0*2^s+c) 4294967296
     have e2:(2:Nat)^32=4294967296:=I;rw[lAz,zju,uH xs _ oM,sG,zke,e2];generalize (xs.getD C.length 0*2^s+c)/4294967296=q at *;generalize (xs.getD C.length 0*2^s+c)%4294967296=r at *;grind
  ·
   dsimp only;simp;omega
  · exact y0e (zbi vI zo1)
  try dsimp only[List.nil_append,List.cons_append]
  rw[rB oM]
 refine uV ?_;refine gv (yP (A:=[]) (xs.length) underlying22 sizeOf127 I I zo0 (by rw[vY oM];omega)) I (wF sizeOf127 I I (by rw[vY oM];omega) (go9 ?_));refine uY I I ?_;have O:C.length=xs.length:=by omega
 refine⟨C++[c],?_,by simp[O],vJ H (bP oM),?_⟩
 · rw[<-O,rB oM,cW zo1,zoh oM]
 · rw[sG,G,xQ oM]
end
set_option maxHeartbeats 2000000 in
section
variable{w0:World}{h0:Mem}(hs:MLe h0 (mem w0))
include hs
theorem iO{v v':Value}{xs ys:List Nat}(hv:Us .u32 h0 v xs)(hv':Us .u32 h0 v' ys)(hl:xs.length<=1099511627776)(hl':ys.length<=1099511627776):
 Calls prog 147 #[v,v'] w0 (Ret w0 h0 (λh z=>∃q r,z=.tuple #[q,r,vI (if val ys=0 then 3 else 0)]/\Us .u32 h q (zB (val xs/val ys))/\Us .u32 h r (zB (if val ys=0 then 0 else val xs%val ys)))):=by
 have er:Fit xs:=hv.lt;have eq:Fit ys:=hv'.lt;have gf:=vC er;have ge:=vC eq;refine cb2 300 v v' func147 hs ?_;refine zP (zG (asg I I (asg I I (asg (v:=vI (0)) I I (zX (zI (zP (zG (mv I I (cL (ev1 I) call144 (λw hs=>qB hs hv) λfu h1 en G=>?_))))))))));replace G:=G.2;refine mv I I ?_;replace hv':=hv'.mono en;refine cL (ev1 I) call144 (λw hs=>qB hs hv') λft h2 em D=>?_;replace D:=D.2;refine asg I I (asg I I (zX (zI (zP (vG (zP (zG (mv I I (gv (wW underlying22 I D) I (gv (eF (q:=0) I I) I (asg I I (zX (vD (e':=[(0,_),(1,_),(30,_)]) e3z ?_)))))))))))));refine zI ?_;refine cnd (λdu=>?_) λdu=>?_
 ·
  have ea:val ys=0:=zdu λej=>by have:=yN.2 ej;omega
  refine zP (zG (asg I I (asg I I (asg (v:=vI (3)) I I (zX (zI (aD (zP7 (aV (jK I I I I ?_))))))))));rw[ea,Nat.div_zero,zau I,zau I,yR];exact⟨_,_,I,Us.nil _ _,Us.nil _ _⟩
 have ay:val ys≠0:=yN.1 oM;refine zP (zG (mv I I (mv I I ?_)));replace G:=G.mono em;refine cL (ev2 I I) call98 (λw hs=>iP hs G D) λfs h3 bk de=>?_;subst de;rw[zE,zE];refine gv (yL (q:=0) I I) I (asg I I (zX (zI ?_)));refine cnd (λbf=>?_) λbf=>?_
 ·
  have di:=fC.1 bf;refine zP (zG (mv I I ?_));replace G:=G.mono bk;refine uU (vs:=[_]) I I I I call103 ⟨I,y1i⟩ (λw hs=>cE hs G oM) ?_;intro fr h4 gx bj dd;obtain rfl:=dd;refine asg I I (asg I I (yK (by exact xZ _) ?_));intro h5 bi ho;refine asg (v:=vI (0)) I I (zX (vD (e':=[(4,_),(5,_),(6,_)]) e3z (zI (aD (zP7 (aV (jK I I I I ?_)))))));rw[zzu di,zoh di,zae oM,zae oM,yR];exact⟨_,_,I,Us.nil _ _,ho⟩
 have ep:val ys<=val xs:=ybe λhc=>bf (fC.2 hc);refine zP (zG (mv I I ?_));replace D:=D.mono bk;refine gv (wW underlying22 I D) I (gv (eF (q:=1) I I) I (asg I I (zX (zI ?_))));refine cnd (λdt=>?_) λdt=>?_
 ·
  have bq:(zB (val ys)).length=1:=by omega
  have dv:(zB (val ys)).getD 0 0≠0:=by have:=tX (n:=val ys) oM;rwa [bq] at this
  have bs:=zCZ bq;rw[zE] at bs;refine zI9 (e':=[(0,_),(1,_)]) e2z (zP (zG (mv I I (mv I I (gv (zU (q:=0) (0) underlying22 sizeOf127 I I D I oM) I (gv (xO isAgg127 I D oM) I ?_))))));have cg:=D.get32 0;replace G:=G.mono bk;refine cL (ev2 I I) call182 (λw hs=>zRY hs G oM oM oM) λfq h4 bj dc=>?_;obtain⟨fv,rfl,aq⟩:=dc;refine mv I I (gv (gC (vs:=[_,_]) I I) I (gv (gC (vs:=[_,_]) I I) I (asg I I (asg I I (zX (vD (e':=[(7,_),(8,_)]) e2z (zI (zP (zG (mv I I (mv I I (zF (gD (kd:=.u32) underlying22 wS I I I) I I I ?_))))))))))));intro fp fw db;obtain rfl:=db;refine yK (by intro z hz;simp only[zne] at hz;subst hz;exact Nat.lt_trans (zcu _ oM) cg) ?_;intro h5 bi dp;refine cL (ev1 I) call144 (λw hs=>qB hs dp) λfo h6 dl ar=>?_;replace ar:=ar.2;refine asg I I (asg I I (asg (v:=vI (0)) I I (zX (zI (aD (zP7 (aV (jK I I I I ?_))))))));replace aq:=aq.mono (bi.trans dl);rw[zE,<-bs] at aq;rw[zCZ I,zxu,zE,<-bs] at ar;rw[zae oM,zae oM];exact⟨_,_,I,aq,ar⟩
 have df:2<=(zB (val ys)).length:=by omega
 refine zI9 (e':=[(0,_),(1,_)]) e2z (uR (sM (zI (zP (zG (mv I I (mv I I (gv (wW underlying22 I D) I (gv (jI (q:=1) I I oM oM) I (gv (zU ((zB (val ys)).length-1) underlying22 sizeOf127 I I D oM oM) I (gv (xO isAgg127 I D oM) I ?_)))))))))));have hgt:=D.get32 ((zB (val ys)).length-1);refine cL (ev1 I) call183 (λw hs=>zSM hs oM) λfm h4 bj da=>?_;subst da;obtain⟨s,cu⟩:∃s,s=32-wH ((zB (val ys)).getD ((zB (val ys)).length-1) 0):=⟨_,I⟩;rw[<-cu];obtain⟨ff,av,ee⟩:=zEL (k:=(zB (val ys)).length-1) ay oM cu;refine asg I I (zX (zI (zP (zG (mv I I (mv I I ?_))))));replace G:=G.mono (bk.trans bj);refine uU (vs:=[_,_]) I I I I call146 e2z (λw hs=>iN hs G oM oM) ?_;intro M h5 gw bi cz;obtain⟨bn,rfl,bb,bc,ah⟩:=cz;refine mv I I (mv I I ?_);replace D:=D.mono (bj.trans bi);refine uU (vs:=[_,_]) I I I I call146 e2z (λw hs=>iN hs D oM oM) ?_;intro fl h6 gu dl cy;obtain⟨fd,rfl,ef,bv,bu⟩:=cy;refine yK (by exact bv) ?_;intro h7 gi ed;refine cL (ev1 I) call144 (λw hs=>qB hs ed) λai h8 gh C=>?_;replace C:=C.2;rw[bu,zE] at C;refine asg I I (asg I I ?_);rw[zE] at ah;have fg:=zR ep;have br:=kJ (xZ (val xs));rw[zE] at br;have ev:=tZ (n:=val ys) (k:=(zB (val ys)).length-1) oM;have bx:=zSG bc br ah (k:=(zB (val ys)).length-1) oM ev;rw[show(zB (val xs)).length-((zB (val ys)).length-1)=(zB (val xs)).length+1-(zB (val ys)).length by omega] at bx;have az:=zE (val ys*2^s);have bl:Fit (zB (val ys*2^s)):=xZ _;replace av:(zB (val ys*2^s)).length=(zB (val ys)).length:=by omega
 generalize zB (val ys*2^s)=vs at *;generalize gc:(zB (val ys)).length=n at *;generalize fh:(zB (val xs)).length=la at *;obtain⟨V,hV⟩:∃V,V=val ys*2^s:=⟨_,I⟩;obtain⟨U,hU⟩:∃U,U=val xs*2^s:=⟨_,I⟩;rw[<-hV] at az bx;rw[<-hU] at ah;have ew:V<4294967296^n:=by rw[<-az,<-av];exact kJ bl
 have ao:=zO3 df av;rw[az] at ao;have ba:=kJ (gZ bl (n-2));rw[zei,zri oM] at ba;have bt:=qE bl (n-2);have cp:=qE bl (n-1);refine zX (vD (e':=[(9,_),(10,_),(11,_)]) e3z (zI (zP (zG (mv I I (gv (wW underlying22 I C) I ?_))))));rw[av];refine asg I I (zX (zI (zP (zG (mv I I (gv (fM (A:=[]) underlying22 I) I ?_))))));rw[bb];refine mv I I (gv (jI I I oM oM) I (qQ (kd:=.u32) (by':=4) (la+1-n) underlying22 wS I I I I I oM oM oM oM I ?_));intro H;refine asg I I (zX (zI (zP (zP (zG (mv I I (gv (fM (A:=[]) underlying22 I) I ?_)))))));rw[lR];refine gv (jI (q:=1) I I oM oM) I (asg I I (zX (vD (e':=[(9,_),(10,_),(11,_),(12,_),(4,_),(13,_)]) e6 (zI (vG ?_)))));refine jU (ι:=Nat×List Nat×List Nat) (λ(J,us,qs)=>J<=la+1-n/\qs.length=la+1-n-J/\Fit qs/\us.length=la+1/\Fit us/\val us+4294967296^J*(val qs*V)=U/\val (us.drop J)<V) (λ(J,us,qs)=>[(4,H),(9,vI ↑s),(10,M),(11,ai),(12,vI ↑n),(13,vI (↑J-1))]) (λ(J,us,qs)=>[.us 127 .u32 H (gH J qs),.us 127 .u32 M us]) (λ(J,us,qs)=>h8) (λ(J,us,qs)=>J) (la+1-n,bn,[]) ?_ e6 ?_ I ?_
 · exact⟨zbe _,by simp,λx hx=>by simp at hx,bb,bc,by rw[ah];simp[val],bx⟩
 ·
  try dsimp only[List.nil_append,List.cons_append]
  exact zbi (λz=>[Res.us 127 .u32 H z,Res.us 127 .u32 M bn]) (aG _)
 rintro⟨J,us,qs⟩ ⟨fk,ga,dq,eg,aa,ap,ca⟩
 refine yQ ?_;refine zP (zP (zG (mv I I (gv (cM (q:=0) I I) I (zX (zI ?_))))));refine cnd (λdr=>?_) λdr=>?_
 ·
  refine uR (zI (zP (vG (zP ?_))));have hJ:1<=J:=by omega
  have ci:∀i,J+n<=i->us.getD i 0=0:=λi hi=>oH (zDK aa (Nat.lt_trans ca ew)) hi;obtain⟨wr,hW,cn⟩:=zGC (j:=J-1) df (λi hi=>ci i oM) aa;have go:=qE aa (J-1+n);have gn:=qE aa (J-1+n-1);have eu:=qE aa (J-1+n-2);have gq:=qE aa (J-1);have dw:val (us.drop (J-1))<4294967296*V:=by
   rw[jP us (J-1) oM,zyi hJ];omega
  refine zK 18 _ [] (zai 0 18 []) yC nX zot nX (λr hr=>hr) (qH I I I (qH I I I (qH I I I (wK I (λ_ _=>zY I I oM oM) I (w_q I (λh' L' hh hR=>qY (hR _ mh1) (J-1+n) underlying22 sizeOf127 I I oM oM) I (w_q I (λh' L' hh hR=>kX (hR _ mh1) isAgg127 I oM) I (wK I (λ_ _=>wY (k:=.u32) (k':=.u64) (W:=18446744073709551616) underlying127 underlying130 I I I oM) I (wK I (λ_ _=>kW (k:=.u64) (s:=32) (yk:=.u64) (W:=18446744073709551616) I I I I) I (qH I I I (qH I I I (qH I I I (wK I (λ_ _=>zY I I oM oM) I (wK I (λ_ _=>jI (q:=1) I I oM oM) I ?_)))))))))))));refine w_q I (λh' L' hh hR=>qY (hR _ mh1) (J-1+n-1) underlying22 sizeOf127 I I oM oM) I (w_q I (λh' L' hh hR=>kX (hR _ mh1) isAgg127 I oM) I (wK I (λ_ _=>wY (k:=.u32) (k':=.u64) (W:=18446744073709551616) underlying127 underlying130 I I I oM) I (wK I (λ_ _=>tU (k:=.u64) I I I (by simp only[ub];omega) (by simp only[ub];omega)) I ?_)));rw[rV oM oM];obtain⟨top,bo⟩:∃t,t=us.getD (J-1+n) 0*4294967296+us.getD (J-1+n-1) 0:=⟨_,I⟩;rw[<-bo];rw[<-bo] at hW;have am:=zZV ao hW ba bt dw;refine zFR I I I (pF (vD (e':=[(4,_),(9,_),(10,_),(11,_),(12,_),(13,_),(14,_)]) e7 (zI (zP ?_))));refine zK 18 _ [] (zai 0 18 []) yC nX zot nX (λr hr=>hr) (qH I I I (qH I I I (qH I I I (wK I (λ_ _=>jI (q:=1) I I oM oM) I (w_q I (λh' L' hh hR=>zU (n-1) underlying22 sizeOf127 I I (C.mono hh) oM oM) I (w_q I (λh' L' hh hR=>xO isAgg127 I (C.mono hh) oM) I (wK I (λ_ _=>wY (k:=.u32) (k':=.u64) (W:=18446744073709551616) underlying127 underlying130 I I I oM) I (wK I (λ_ _=>cK (k:=.u64) (W:=18446744073709551616) I I I I oM oM) I (qH I I I (qH I I I (qH I I I (wK I (λ_ _=>jI (q:=1) I I oM oM) I (w_q I (λh' L' hh hR=>zU (n-1) underlying22 sizeOf127 I I (C.mono hh) oM oM) I ?_)))))))))))));refine w_q I (λh' L' hh hR=>xO isAgg127 I (C.mono hh) oM) I (wK I (λ_ _=>wY (k:=.u32) (k':=.u64) (W:=18446744073709551616) underlying127 underlying130 I I I oM) I (wK I (λ_ _=>cJ (k:=.u64) I I oM) I (zFR I I I (zFR I I I (pF (vD (e':=[(4,_),(9,_),(10,_),(11,_),(12,_),(13,_),(15,_),(16,_)]) e8 (zI ?_)))))));refine qK (ι:=Nat) (λ(x1:(Nat))=>x1<4294967296/\val (us.drop (J-1))<(x1+1)*V/\x1*V<val (us.drop (J-1))+V) (λ(x1:(Nat))=>[(4,H),(9,vI ↑s),(10,M),(11,ai),(12,vI ↑n),(13,vI (↑J-1)),(15,vU .u64 x1)]) (λ(x1:(Nat))=>[.us 127 .u32 H (gH J qs),.us 127 .u32 M us]) (λ(x1:(Nat))=>h8) ?_ ?_
  ·
   refine vG ?_;refine gcL (ι:=Nat×Nat) (λ(x,r)=>(x*vs.getD (n-1) 0+r=top/\val (us.drop (J-1))<(x+1)*V/\r<4294967296,[(4,H),(9,vI ↑s),(10,M),(11,ai),(12,vI ↑n),(13,vI (↑J-1)),(15,vU .u64 x),(16,vU .u64 r)],[.us 127 .u32 H (gH J qs),.us 127 .u32 M us],h8,x)) (top/vs.getD (n-1) 0,top%vs.getD (n-1) 0) ?_ ?_
   · exact⟨by rw[zui];exact z3u _ _,zLR ao hW eu cn oM,Nat.lt_trans (zcu _ oM) cp⟩
   rintro⟨x,r⟩ ⟨ak,eb,fz⟩
   refine yQ ?_;have ec:=yEN ak am ee;have fy:x*vs.getD (n-2) 0<=4294967297*4294967295:=z6i ec oM;refine zP (zP ?_);refine zWB (4294967296<=x) (λhg=>?_) (λhg=>?_)
   ·
    have ae:1<=x:=by omega
    have aj:val (us.drop (J-1))<x*V:=zku dw (zfu _ hg);refine zK 24 _ [] (zai 0 24 []) yC nX zot nX (λr hr=>hr) (qH I I I (wK I (λ_ _=>rU (k:=.u64) (q:=4294967296) I I) I (wK I (λ_ _=>yY (v:=.bool true) (y0e (xR hg))) I (vM I I I I I (vM I I I I I (vM I I I I I (vM I I I I I (vM I I I I I (vM I I I I I (vM I I I I I (vM I I I I I (vM I I I I I (vM I I I I I ?_)))))))))))));refine vM I I I I I (vM I I I I I (vM I I I I I (vM I I I I I (vM I I I I I (vM I I I I I (vM I I I I I (vM I I I I I (vM I I I I I (vM I I I I I (wK I (λ_ _=>pM I I) I (pF (vD (e':=[(4,_),(9,_),(10,_),(11,_),(12,_),(13,_),(15,_),(16,_),(141,_)]) ⟨I,I,I,I,I,I,I,I,I,y1i⟩ (zI ?_)))))))))))));refine zHE I (uR (zI (vG (zP (zG (mv I I (gv (bZ (k:=.u64) (q:=1) (W:=18446744073709551616) I I I I oM oM) I (asg I I (zX (zI (zP (zG (mv I I ?_)))))))))))));refine mv I I (mv I I (gv (jI (q:=1) I I oM oM) I (gv (zU (n-1) underlying22 sizeOf127 I I C oM oM) I (gv (xO isAgg127 I C oM) I (gv (wY (k:=.u32) (k':=.u64) (W:=18446744073709551616) underlying127 underlying130 I I I oM) I (gv (tJ (k:=.u64) (W:=18446744073709551616) I I I I oM) I (asg I I (zX (vD (e':=[(4,_),(9,_),(10,_),(11,_),(12,_),(13,_),(15,_),(16,_)]) e8 (zI (zP (zG (mv I I ?_)))))))))))));refine gv (rU (k:=.u64) (q:=4294967296) I I) I (zX (zI ?_));refine cnd (λad=>?_) λad=>?_
    ·
     refine gO (zI6 I (uN (gN ?_)));refine zS (x-1) ?_ e7 I I;obtain⟨b1,b2⟩:=zHJ (x:=x-1) ao hW ba bt (zAW ak ae) ad am oM;exact⟨b1,by rw[zyi ae];exact aj,by omega⟩
    refine uR (sM ?_);refine gqL (x-1,r+vs.getD (n-1) 0) ?_ ?_
    · exact⟨zAW ak ae,by rw[zyi ae];exact aj,by omega⟩
    omega
   refine zK 24 _ [] (zai 0 24 []) yC nX zot nX (λr hr=>hr) (qH I I I (wK I (λ_ _=>rU (k:=.u64) (q:=4294967296) I I) I (wK I (λ_ _=>yY (v:=.bool false) (y0e (yV hg))) I (yU I I I (λh' L' hh hR=>yY I) I (yU I I I (λh' L' hh hR=>yY I) I (yU I I I (λh' L' hh hR=>yY I) I (yU I I I (λh' L' hh hR=>jI (q:=2) I I oM oM) I (yU I I I (λh' L' hh hR=>zU (n-2) underlying22 sizeOf127 I I (C.mono hh) oM oM) I (yU I I I (λh' L' hh hR=>xO isAgg127 I (C.mono hh) oM) I (yU I I I (λh' L' hh hR=>wY (k:=.u32) (k':=.u64) (W:=18446744073709551616) underlying127 underlying130 I I I oM) I (yU I I I (λh' L' hh hR=>eC (k:=.u64) (W:=18446744073709551616) I I I I oM) I (yU I I I (λh' L' hh hR=>yY I) I (yU I I I (λh' L' hh hR=>kW (k:=.u64) (s:=32) (yk:=.u64) (W:=18446744073709551616) I I I I) I ?_)))))))))))));refine yU I I I (λh' L' hh hR=>yY I) I (yU I I I (λh' L' hh hR=>yY I) I (yU I I I (λh' L' hh hR=>yY I) I (yU I I I (λh' L' hh hR=>zY I I oM oM) I (yU I I I (λh' L' hh hR=>jI (q:=2) I I oM oM) I (yU I I I (λh' L' hh hR=>qY (hR _ mh1) (J-1+n-2) underlying22 sizeOf127 I I oM oM) I (yU I I I (λh' L' hh hR=>kX (hR _ mh1) isAgg127 I oM) I (yU I I I (λh' L' hh hR=>wY (k:=.u32) (k':=.u64) (W:=18446744073709551616) underlying127 underlying130 I I I oM) I (yU I I I (λh' L' hh hR=>tU (k:=.u64) I I I (by simp only[ub];omega) (by simp only[ub];omega)) I ?_))))))));rw[rV oM oM];refine yU I I I (λh' L' hh hR=>nE (k:=.u64) I I) I (wK I (λ_ _=>pO I I) I (pF (vD (e':=[(4,_),(9,_),(10,_),(11,_),(12,_),(13,_),(15,_),(16,_),(141,_)]) ⟨I,I,I,I,I,I,I,I,I,y1i⟩ (zI ?_))));refine cnd (λan=>?_) λan=>?_
   ·
    have ae:1<=x:=zfe λh0=>by rw[h0,zvi] at an;omega
    have aj:val (us.drop (J-1))<x*V:=zZW ao hW cn ak an;refine uR (zI (vG (zP (zG (mv I I (gv (bZ (k:=.u64) (q:=1) (W:=18446744073709551616) I I I I oM oM) I (asg I I (zX (zI (zP (zG (mv I I (mv I I ?_)))))))))))));refine mv I I (gv (jI (q:=1) I I oM oM) I (gv (zU (n-1) underlying22 sizeOf127 I I C oM oM) I (gv (xO isAgg127 I C oM) I (gv (wY (k:=.u32) (k':=.u64) (W:=18446744073709551616) underlying127 underlying130 I I I oM) I (gv (tJ (k:=.u64) (W:=18446744073709551616) I I I I oM) I (asg I I (zX (vD (e':=[(4,_),(9,_),(10,_),(11,_),(12,_),(13,_),(15,_),(16,_)]) e8 (zI (zP (zG (mv I I (gv (rU (k:=.u64) (q:=4294967296) I I) I ?_)))))))))))));refine zX (zI ?_);refine cnd (λad=>?_) λad=>?_
    ·
     refine gO (zI6 I (uN (gN ?_)));refine zS (x-1) ?_ e7 I I;obtain⟨b1,b2⟩:=zHJ (x:=x-1) ao hW ba bt (zAW ak ae) ad am oM;exact⟨b1,by rw[zyi ae];exact aj,by omega⟩
    refine uR (sM ?_);refine gqL (x-1,r+vs.getD (n-1) 0) ?_ ?_
    · exact⟨zAW ak ae,by rw[zyi ae];exact aj,by omega⟩
    omega
   refine gO (uN (uN (gN ?_)));refine zS (x) ?_ e7 I I;exact⟨by omega,eb,zWJ ao hW ba oM ak oM oM⟩
  rintro x1 ⟨cm,cj,ck⟩
  refine yQ ?_;refine zP (zG (asg (v:=vU .u64 0) I I (asg (v:=vU .u64 0) I I (zX (zI (zP (zP (zG (mv I I (gv (wW underlying22 I C) I ?_))))))))));rw[av];refine mv (v:=vI (0)) I I (zX (zI (vG ?_)));refine jU (ι:=Nat×List Nat×Nat×Nat) (λ(i,ts,b,c)=>i<=n/\ts.length=la+1/\Fit ts/\c<4294967296/\b<=1/\val ts+4294967296^(J-1)*(x1*val (vs.take i))=val us+4294967296^(J-1+i)*(c+b)/\∀k,J-1+i<=k->ts.getD k 0=us.getD k 0) (λ(i,ts,b,c)=>[(4,H),(9,vI ↑s),(10,M),(11,ai),(12,vI ↑n),(13,vI (↑J-1)),(15,vU .u64 x1),(17,vU .u64 b),(18,vU .u64 c),(154,ai),(155,vI ↑n),(156,vI ↑i)]) (λ(i,ts,b,c)=>[.us 127 .u32 H (gH J qs),.us 127 .u32 M ts]) (λ(i,ts,b,c)=>h8) (λ(i,ts,b,c)=>n-i) (0,us,0,0) ?_ e12 I I ?_
  · exact⟨by omega,eg,aa,by omega,by omega,by simp[val],λ_ _=>I⟩
  rintro⟨i,ts,b,c⟩ ⟨dk,cq,bm,gj,gm,bd,ct⟩
  refine yQ ?_;refine zP (zG (gv (yL I I) I (zX (zI (zP ?_)))));refine cnd (λcf=>?_) λcf=>?_
  ·
   refine uR (zI (zP (vG (zP (zG (mv I I (gv (zU _ underlying22 sizeOf127 I I C I oM) I (gv (xO isAgg127 I C oM) I ?_))))))));have dz:=C.get32 i;have fx:x1*vs.getD i 0<=4294967295*4294967295:=z6i oM oM;refine asg I I (asg I I (zX (zI (zP (zG (mv I I (mv I I (mv I I (gv (wY (k:=.u32) (k':=.u64) (W:=18446744073709551616) underlying127 underlying130 I I I oM) I (gv (eC (k:=.u64) (W:=18446744073709551616) I I I I oM) I (gv (tJ (k:=.u64) (W:=18446744073709551616) I I I I oM) I (asg I I (zX ?_)))))))))))));refine vD (e':=[(4,_),(9,_),(10,_),(11,_),(12,_),(13,_),(15,_),(17,_),(154,_),(155,_),(156,_),(19,_),(18,_)]) ⟨I,I,I,I,I,I,I,I,I,I,I,I,I,y1i⟩ (zI (zP (zG (mv I I (mv I I (mv I I (gv (zY I I oM oM) I (gv (yP (A:=[_]) (J-1+i) underlying22 sizeOf127 I I oM oM) I (gv (kY (A:=[_]) isAgg127 I oM) I ?_)))))))));have bw:=qE bm (J-1+i);refine gv (wY (k:=.u32) (k':=.u64) (W:=18446744073709551616) underlying127 underlying130 I I I oM) I (mv I I (gv (zUR (k:=.u64) (q:=4294967295) I I I (by simp only[ub];omega) (by simp only[ub];omega)) I ?_));rw[zXG];refine gv (lW (k:=.u64) (W:=18446744073709551616) I I I I oM) I (mv I I (gv (lW (k:=.u64) (W:=18446744073709551616) I I I I oM) I (asg I I (zX (vD (e':=[(4,_),(9,_),(10,_),(11,_),(12,_),(13,_),(15,_),(154,_),(155,_),(156,_),(19,_),(18,_),(21,_)]) ⟨I,I,I,I,I,I,I,I,I,I,I,I,I,y1i⟩ (zI (zP (zG (mv I I (mv I I (mv I I (gv (zY I I oM oM) I (mv I I ?_)))))))))))));refine gv (fO (k:=.u64) (k':=.u32) (W:=4294967296) underlying130 underlying127 I I I) I (gv (yP (A:=[_]) (J-1+i) underlying22 sizeOf127 I I oM oM) I (sO sizeOf127 I I oM (zX (zI (zP (zG (mv I I (gv (kV (k:=.u64) (s:=63) (yk:=.u64) I I I (by simp only[ub];omega)) I (asg I I (zX (vD (e':=[(4,_),(9,_),(10,_),(11,_),(12,_),(13,_),(15,_),(154,_),(155,_),(156,_),(18,_),(17,_)]) e12 (zI (zG ?_)))))))))))));refine mv I I (gv (kV (k:=.u64) (s:=32) (yk:=.u64) I I I (by simp only[ub];omega)) I (asg I I (zX (sM (zI (zG (gv (zY (q:=1) I I oM oM) I (mv I I (zX ?_)))))))));generalize hX:ts.getD (J-1+i) 0=X at *;generalize hY:vs.getD i 0=Y at *;refine qV (i+1,ts.set (J-1+i) (((X+18446744073709551616-(c+x1*Y)%4294967296)%18446744073709551616+18446744073709551616-b)%18446744073709551616%4294967296),((X+18446744073709551616-(c+x1*Y)%4294967296)%18446744073709551616+18446744073709551616-b)%18446744073709551616/2^63,(c+x1*Y)/2^32) ?_ ?_ e12 I I
   ·
    refine⟨by omega,by simp[cq],aW bm _ oM,by omega,by omega,?_,λk hk=>?_⟩
    · have h1:=aM (xs:=ts) (i:=J-1+i) oM (((X+18446744073709551616-(c+x1*Y)%4294967296)%18446744073709551616+18446744073709551616-b)%18446744073709551616%4294967296)
      rw[hX] at h1;rw[uH vs i oM,hY,<-z3i (J-1),zke,zlu];rw[zlu] at h1 bd;exact zY6 (l:=(c+x1*Y)%4294967296) bd h1 oM oM
    · rw[qJ oM];exact ct k oM
   dsimp only;omega
  refine gO (uN (uN (gN (zI (zP (zG (mv I I (mv I I (mv I I (gv (zY I I oM oM) I (gv (yP (A:=[_]) (J-1+n) underlying22 sizeOf127 I I oM oM) I (gv (kY (A:=[_]) isAgg127 I oM) I ?_))))))))))));have bw:=qE bm (J-1+n);refine gv (wY (k:=.u32) (k':=.u64) (W:=18446744073709551616) underlying127 underlying130 I I I oM) I (mv I I (gv (lW (k:=.u64) (W:=18446744073709551616) I I I I oM) I (mv I I (gv (lW (k:=.u64) (W:=18446744073709551616) I I I I oM) I ?_))));obtain⟨d2,es⟩:∃d,d=((ts.getD (J-1+n) 0+18446744073709551616-c)%18446744073709551616+18446744073709551616-b)%18446744073709551616:=⟨_,I⟩;rw[<-es];refine asg I I (zX (vD (e':=[(4,_),(9,_),(10,_),(11,_),(12,_),(13,_),(15,_),(22,_)]) e8 (zI (zP (zG (mv I I (mv I I (mv I I (gv (zY I I oM oM) I (mv I I (gv (fO (k:=.u64) (k':=.u32) (W:=4294967296) underlying130 underlying127 I I I) I (gv (yP (A:=[_]) (J-1+n) underlying22 sizeOf127 I I oM oM) I (sO sizeOf127 I I oM ?_)))))))))))));have dk:i=n:=by omega
  rw[dk,xQ oM,az] at bd;have co:=aM (xs:=ts) (i:=J-1+n) oM (d2%4294967296);have bp:(ts.set (J-1+n) (d2%4294967296)).length=la+1:=by simp[cq]
  have au:Fit (ts.set (J-1+n) (d2%4294967296)):=aW bm _ oM;have ch:∀k,J-1+n+1<=k->(ts.set (J-1+n) (d2%4294967296)).getD k 0=0:=λk hk=>by rw[qJ oM,ct k oM];exact ci k oM
  generalize ts.set (J-1+n) (d2%4294967296)=ts2 at *;have ab:val ts2+4294967296^(J-1)*(x1*V)=val us+4294967296^(J-1+n+1)*(d2/2^63):=by
   rw[zke,zlu];rw[zlu] at co bd;exact yDI bd co oM
  have dh:=oR au ch;refine zX (zI ?_);refine qK (ι:=Nat×List Nat) (λ(x2,Z)=>x2<4294967296/\Z.length=la+1/\Fit Z/\val Z+4294967296^(J-1)*(x2*V)=val us/\val (Z.drop (J-1))<V) (λ(x2,Z)=>[(4,H),(9,vI ↑s),(10,M),(11,ai),(12,vI ↑n),(13,vI (↑J-1)),(15,vU .u64 x2)]) (λ(x2,Z)=>[.us 127 .u32 H (gH J qs),.us 127 .u32 M Z]) (λ(x2,Z)=>h8) ?_ ?_
  ·
   refine zP (zG (mv I I (gv (kV (k:=.u64) (s:=63) (yk:=.u64) I I I (by simp only[ub];omega)) I (gv (fW (k:=.u64) (q:=0) I I) I (zX (vD (e':=[(4,_),(9,_),(10,_),(11,_),(12,_),(13,_),(15,_),(211,_)]) e8 (zI ?_)))))));refine cnd (λce=>?_) λce=>?_
   ·
    have fe:1<=x1:=zfe λh0=>by
     have cg:d2/2^63=1:=by omega
     rw[h0,cg,zvi,z7u,z9u] at ab;omega
    refine zP (zG (mv I I (gv (bZ (k:=.u64) (q:=1) (W:=18446744073709551616) I I I I oM oM) I (asg I I (zX (zI (zP (zG (asg (v:=vU .u64 0) I I (zX (zI (zP (zP ?_)))))))))))));refine zG (mv I I (gv (wW underlying22 I C) I ?_));rw[av];refine mv (v:=vI (0)) I I (zX (zI (vG ?_)));refine gcL (ι:=Nat×List Nat×Nat) (λ(i2,Z,c2)=>(i2<=n/\Z.length=la+1/\Fit Z/\c2<=1/\val Z+4294967296^(J-1+i2)*c2=val ts2+4294967296^(J-1)*val (vs.take i2)/\∀k,J-1+i2<=k->Z.getD k 0=ts2.getD k 0,[(4,H),(9,vI ↑s),(10,M),(11,ai),(12,vI ↑n),(13,vI (↑J-1)),(15,vU .u64 (x1-1)),(18,vU .u64 c2),(214,ai),(215,vI ↑n),(216,vI ↑i2)],[.us 127 .u32 H (gH J qs),.us 127 .u32 M Z],h8,n-i2)) (0,ts2,0) ?_ ?_
    · exact⟨by omega,bp,au,by omega,by simp[val],λ_ _=>I⟩
    rintro⟨i2,Z,c2⟩ ⟨hi2,bh,aw,gk,bg,cv⟩
    refine yQ ?_;refine zP (zG (gv (yL I I) I (zX (zI (zP ?_)))));refine cnd (λcd=>?_) λcd=>?_
    ·
     refine uR (zI (zP (vG (zP (zG (mv I I (gv (zU _ underlying22 sizeOf127 I I C I oM) I (gv (xO isAgg127 I C oM) I ?_))))))));have dz:=C.get32 i2;refine asg I I (asg I I (zX (zI (zP (zG (mv I I (mv I I (mv I I (mv I I (gv (zY I I oM oM) I (gv (yP (A:=[_]) (J-1+i2) underlying22 sizeOf127 I I oM oM) I (gv (kY (A:=[_]) isAgg127 I oM) I ?_))))))))))));have bw:=qE aw (J-1+i2);refine gv (wY (k:=.u32) (k':=.u64) (W:=18446744073709551616) underlying127 underlying130 I I I oM) I (mv I I (gv (wY (k:=.u32) (k':=.u64) (W:=18446744073709551616) underlying127 underlying130 I I I oM) I (gv (tJ (k:=.u64) (W:=18446744073709551616) I I I I oM) I (gv (tJ (k:=.u64) (W:=18446744073709551616) I I I I oM) I (asg I I (zX (vD (e':=[(4,_),(9,_),(10,_),(11,_),(12,_),(13,_),(15,_),(214,_),(215,_),(216,_),(23,_),(18,_)]) e12 (zI (zP (zG (mv I I (mv I I (mv I I ?_)))))))))))));refine gv (zY I I oM oM) I (mv I I (gv (fO (k:=.u64) (k':=.u32) (W:=4294967296) underlying130 underlying127 I I I) I (gv (yP (A:=[_]) (J-1+i2) underlying22 sizeOf127 I I oM oM) I (sO sizeOf127 I I oM (zX (zI (zG (mv I I (gv (kV (k:=.u64) (s:=32) (yk:=.u64) I I I (by simp only[ub];omega)) I (asg I I (zX (sM (vD (e':=[(4,_),(9,_),(10,_),(11,_),(12,_),(13,_),(15,_),(214,_),(215,_),(216,_),(18,_)]) ⟨I,I,I,I,I,I,I,I,I,I,I,y1i⟩ ?_)))))))))))));refine zI (zG (gv (zY (q:=1) I I oM oM) I (mv I I (zX ?_))));generalize hX:Z.getD (J-1+i2) 0=X at *;generalize hY:vs.getD i2 0=Y at *;refine gqL (i2+1,Z.set (J-1+i2) ((c2+(X+Y))%4294967296),(c2+(X+Y))/2^32) ?_ ?_
     ·
      refine⟨by omega,by simp[bh],aW aw _ oM,by omega,?_,λk hk=>?_⟩
      · have h1:=aM (xs:=Z) (i:=J-1+i2) oM ((c2+(X+Y))%4294967296)
        rw[hX] at h1;rw[uH vs i2 oM,hY,<-z3i (J-1),zke,zlu];rw[zlu] at h1 bg;exact yAB bg h1 oM
      · rw[qJ oM];exact cv k oM
     omega
    refine gO (uN (uN (gN (zI (zG (mv I I (mv I I (mv I I (gv (zY I I oM oM) I (gv (yP (A:=[_]) (J-1+n) underlying22 sizeOf127 I I oM oM) I (gv (kY (A:=[_]) isAgg127 I oM) I (mv I I (gv (fO (k:=.u64) (k':=.u32) (W:=4294967296) underlying130 underlying127 I I I) I ?_)))))))))))));have bw:=qE aw (J-1+n);refine gv (zRL (k:=.u32) (W:=4294967296) I I I I) I (gv (yP (A:=[_]) (J-1+n) underlying22 sizeOf127 I I oM oM) I (sO sizeOf127 I I oM (zX ?_)));generalize hX:Z.getD (J-1+n) 0=X at *;refine zS (x1-1,Z.set (J-1+n) ((X+c2%4294967296)%4294967296)) ?_ e7 I I;have dj:i2=n:=by omega
    rw[dj,xQ oM,az] at bg;have h1:=aM (xs:=Z) (i:=J-1+n) oM ((X+c2%4294967296)%4294967296);rw[hX] at h1;have be:Fit (Z.set (J-1+n) ((X+c2%4294967296)%4294967296)):=aW aw _ oM;have dy:∀k,J-1+n+1<=k->(Z.set (J-1+n) ((X+c2%4294967296)%4294967296)).getD k 0=0:=λk hk=>by
     rw[qJ oM,cv k oM];exact ch k hk
    have ho:val (Z.set (J-1+n) ((X+c2%4294967296)%4294967296))+4294967296^(J-1+n+1)*((X+c2)/4294967296)=val ts2+4294967296^(J-1)*V:=by
     rw[zke,zlu];rw[zlu] at h1 bg;exact yFJ bg h1 oM
    obtain⟨z1,z2,z3⟩:=zRA aa be dh (oR be dy) (b:=d2/2^63) oM ab ck ho oM;exact⟨by omega,by simp[bh],be,z2,z3⟩
   refine uR ?_;refine zS (x1,ts2) ?_ e7 I I;have dv:d2/2^63=0:=by omega
   rw[dv,z7u,zmi] at ab;exact⟨cm,bp,au,ab,zDZ aa au ab cj⟩
  rintro⟨x2,Z⟩ ⟨cl,bh,aw,eh,cw⟩
  refine yQ ?_;refine zG (mv I I (mv I I (mv I I (gv (wY (k:=.u64) (k':=.u32) (W:=4294967296) underlying130 underlying127 I I I oM) I (gv (yP (A:=[]) (J-1) underlying22 sizeOf127 I I oM (by rw[qZ];omega)) I (wF sizeOf127 I I (by rw[qZ];omega) (zX (sM (zI (zG (mv I I (gv (jI (q:=1) I I oM oM) I (asg I I ?_)))))))))))));refine zX ?_;refine qV (J-1,Z,x2::qs) ?_ ?_ ⟨I,I,I,I,I,?_,y1i⟩ ?_ I
  ·
   refine⟨by omega,by simp only[lC];omega,sP.2 ⟨cl,dq⟩,bh,aw,?_,cw⟩;have eJ:(4294967296:Nat)^J=4294967296^(J-1)*4294967296:=by rw[<-zke,Nat.succ_eq_add_one,zyi hJ]
   rw[eJ] at ap;exact yC4 ap eh
  ·
   dsimp only;omega
  · exact y0e (zbi vI oM)
  try dsimp only[List.nil_append,List.cons_append]
  rw[aF oM]
 refine gO (uN (uN (gN (zI (zP ?_)))));have ez:J=0:=by omega
 subst ez;rw[cX];rw[ybu] at ca;rw[yse,yeu] at ap;have ek:(zB (val us)).length<=us.length:=vC aa;refine zG (mv I I ?_);refine zI8 (R:=λh r=>r=fF 1 M 0 (zB (val us)).length/\Us .u32 h r (zB (val us))) (vs:=[_]) I I I I call144 ⟨I,y1i⟩ (λw hw=>qB (MLe.refl _) (hw.own_us (A:=[_]) aa)) ?_
 rintro fc ⟨_,dx,_⟩
 subst dx;refine zSA (A:=[_]) (zB (val us)).length ek ?_;rw[zDQ aa];generalize fF 1 M 0 (zB (val us)).length=vr;have ax:=xZ (val us);have ey:=zE (val us);generalize zB (val us)=Rs at *;refine asg I I (zX (zI (zP (zP (zG (mv I I (gv (fM (A:=[_]) underlying22 I) I (mv (v:=vI (0)) I I (zX (zI (vG ?_)))))))))));refine jU (ι:=Nat) (λ(k:(Nat))=>k<=Rs.length) (λ(k:(Nat))=>[(4,H),(5,vr),(9,vI ↑s),(261,vI ↑Rs.length),(262,vI ↑k)]) (λ(k:(Nat))=>[.us 127 .u32 H qs,.us 127 .u32 vr (oV s Rs k)]) (λ(k:(Nat))=>h8) (λ(k:(Nat))=>Rs.length-k) 0 ?_ e5 ?_ I ?_
 · exact zqe _
 ·
  try dsimp only[List.nil_append,List.cons_append]
  exact zbi (λz=>[Res.us 127 .u32 H qs,Res.us 127 .u32 vr z]) (zGJ s Rs)
 rintro k hk
 refine yQ ?_;refine zP (zG (gv (yL I I) I (zX (zI (zP ?_)))));refine cnd (λcc=>?_) λcc=>?_
 ·
  refine uR (zI ?_);refine qK (ι:=Unit) (λ(_u:(Unit))=>True) (λ(_u:(Unit))=>[(4,H),(5,vr),(9,vI ↑s),(261,vI ↑Rs.length),(262,vI ↑k)]) (λ(_u:(Unit))=>[.us 127 .u32 H qs,.us 127 .u32 vr (oV s Rs (k+1))]) (λ(_u:(Unit))=>h8) ?_ ?_
  ·
   refine vG (zP (zG (mv I I (asg I I (zX (zI (zP (zG (mv I I (mv I I (gv (yP (A:=[_]) (k) underlying22 sizeOf127 I I oM (by rw[uL oM];omega)) I (gv (kY (A:=[_]) isAgg127 I (by rw[uL oM];omega)) I ?_))))))))))));rw[g5 (zbe _)];have eo:=qE ax k;refine mv I I (gv (kV (k:=.u32) (s:=s) (yk:=.i64) I I I (by simp only[ub];omega)) I ?_);have gb:Rs.getD k 0/2^s<4294967296:=yii (zki _ _) eo;refine gv (yP (A:=[_]) (k) underlying22 sizeOf127 I I oM (by rw[uL oM];omega)) I (sO sizeOf127 I I (by rw[uL oM];omega) (zX (zI (zP (zG (mv I I (gv (nF (q:=0) I I) I ?_)))))));refine gU 7 280 (vB (((0:Int)<↑s)/\((↑k:Int)+1<↑Rs.length))) ?_ ?_
   ·
    refine yD ((0:Int)<↑s) (λhg=>?_) (λhg=>?_)
    ·
     refine gT hg I (dM I I I (mv I I (dM I I I (gv (zY (q:=1) I I oM oM) I (dM I I I (mv I I (dM I I I (gv (fM (A:=[_]) underlying22 I) I ?_))))))));rw[lS,uL oM];refine dM I I I (gv (yL I I) I (gv (pM I I) I (zX (gqU ?_))));exact y0e (xS hg)
    refine gF hg I (lG I I I I I I (lG I I I I I I (lG I I I I I I (lG I I I I I I (lG I I I I I I (gv (pO I I) I (zX (gqU ?_))))))));exact y0e (xT hg)
   refine zX (zI ?_);refine cnd (λcb=>?_) λcb=>?_
   ·
    refine zK 14 _ [] (zai 0 14 [(14,.t)]) yC nX zot nX (λr hr=>hr) (qH I I I (qH I I I (w_q I (λh' L' hh hR=>qY (hR _ mh1) (k) underlying22 sizeOf127 I I oM (by rw[lS,uL oM];omega)) I (w_q I (λh' L' hh hR=>kX (hR _ mh1) isAgg127 I (by rw[lS,uL oM];omega)) I ?_))));rw[dO (by rw[uL oM];omega)];refine qH I I I (qH I I I (wK I (λ_ _=>zY (q:=1) I I oM oM) I (w_q I (λh' L' hh hR=>qY (hR _ mh1) (k+1) underlying22 sizeOf127 I I oM (by rw[lS,uL oM];omega)) I (w_q I (λh' L' hh hR=>kX (hR _ mh1) isAgg127 I (by rw[lS,uL oM];omega)) I ?_))));rw[qJ oM,g5 oM];refine qH I I I (wK I (λ_ _=>jI (p:=32) I I oM oM) I ?_);rw[show((32:Int)-↑s)=↑(32-s) by omega];refine wK I (λ_ _=>kW (k:=.u32) (s:=32-s) (yk:=.i64) (W:=4294967296) I I I I) I (wK I (λ_ _=>tU (k:=.u32) I I I (by simp only[ub];omega) (by simp only[ub];omega)) I ?_);rw[zO6 ax oM oM];refine w_q I (λh' L' hh hR=>qY (hR _ mh1) (k) underlying22 sizeOf127 I I oM (by rw[lS,uL oM];omega)) I (gL (A:=[_]) I (lD sizeOf127 I I (by rw[lS,uL oM];omega)) I (pF (sM ?_)));refine zS (()) ?_ e5 ?_ I
    · trivial
    try dsimp only[List.nil_append,List.cons_append]
    rw[List.set_set,j9 oM];try rfl
   refine uR (sM ?_);have bz:Rs.getD k 0/2^s=oJ s Rs k:=by
    by_cases h0:s=0
    · rw[h0,zGK ax oM,yse,z2i]
    · exact(zGL ax oM).symm
   refine zS (()) ?_ e5 ?_ I
   · trivial
   try dsimp only[List.nil_append,List.cons_append]
   rw[bz,j9 oM]
  rintro _u fj
  refine yQ ?_;refine zG (gv (zY (q:=1) I I oM oM) I (mv I I (zX ?_)));refine qV (k+1) ?_ ?_ e5 I I
  · omega
  omega
 refine gO (uN (uN (gN (zI (zP (zG (mv I I (yK (by exact dq) ?_))))))));intro h9 gg hq;refine cL (ev1 I) call144 (λw hs=>qB hs hq) λfb gt fi O=>?_;replace O:=O.2;refine mv I I (yK (by exact zLP ax) ?_);intro gs dn ei;refine cL (ev1 I) call144 (λw hs=>qB hs ei) λfa gr dm ac=>?_;replace ac:=ac.2;refine asg I I (asg I I (asg (v:=vI (0)) I I (zX (zI (aD (jK I I I I ?_))))));replace O:=O.mono (dn.trans dm);have el:k=Rs.length:=by omega
 rw[el,zJL ax,ey] at ac;obtain⟨e1,e2⟩:=zQG (X:=val xs) (Y:=val ys) (s:=s) (u:=val us) (q:=val qs) oM (by rw[<-hV,<-hU];exact ap) (by rw[<-hV];exact ca);rw[e1] at O;rw[e2] at ac;rw[zae ay,zae ay];exact⟨_,_,I,O,ac⟩
theorem fV{v:Value}{xs:List Nat}(hv:Us .u32 h0 v xs)(hl:xs.length<=17592186044416):
 Calls prog 91 #[v] w0 (Ret w0 h0 (λh r=>Us .u32 h r (zB (val xs)))):=by
 refine cb1 23 v func91 hs ?_;refine sN ?_;refine gcL (ι:=Nat) (λ(k:(Nat))=>(k<=xs.length/\∀i,k<=i->xs.getD i 0=0,[(0,v),(3,vI ↑k)],[],h0,k)) xs.length ?_ ?_
 · exact⟨zbe _,λi hi=>by rw[zoa,zsi hi];rfl⟩
 rintro k ⟨hk,hz⟩
 refine yQ ?_;refine go5 ?_;refine gU 8 15 (vB (((0:Int)<↑k)/\(xs.getD (k-1) 0=0))) ?_ ?_
 ·
  refine yD ((0:Int)<↑k) (λJ=>?_) (λJ=>?_)
  ·
   refine gT J I (go7 ?_);refine gv (zU (k-1) underlying22 sizeOf127 I I hv oM oM) I (go3 ?_);refine gv (gW (k:=.u32) (q:=0) I I) I (go2 ?_);refine gqU ?_;exact y0e (xS J)
  refine gF J I (go8 ?_);refine gqU ?_;exact y0e (xT J)
 refine gc2 (λC=>?_) λC=>?_
 ·
  refine go9 ?_;refine gqL (k-1) ?_ ?_ (he:=⟨I,?_,y1i⟩)
  ·
   exact⟨by omega,λi hi=>by
    by_cases e:i=k-1
    · rw[e];exact C.2
    · exact hz i oM⟩
  · have:=C.1;omega
  · exact y0e (zbi vI (by have:=C.1;omega))
 refine go7 ?_;refine zF (zEO (kd:=.u32) underlying22 wS I I) I I I ?_;intro U aa H;obtain rfl:=H;refine go2 ?_;refine gv (z5 _ underlying22 sizeOf127 I I hv.shape I oM) I ?_;have D:=hv.sub (lo:=0) (hi:=_) oM oM;refine xL (A:=[]) (jO (kd:=.u32) (bytes:=4) underlying22 wS I I I I I D (by simp;omega) (by simp;omega)) I I I ?_;intro O Z G;obtain rfl:=G;rw[zhu,ybu,yje];refine yK (by exact gZ hv.lt k) ?_;intro h1 M ho;refine go4 ?_;refine zD I I ?_;replace hv:=hv.mono M;have e:xs.take k=zB (val xs):=zGE hv.lt hk hz (by
  by_cases h0:k=0
  · exact .inl h0
  · exact .inr λh1=>C ⟨by omega,h1⟩)
 rw[<-e];exact ho
theorem zY4{v v':Value}{xs ys:List Nat}(hv:Us .u32 h0 v xs)(hv':Us .u32 h0 v' ys)(hl:xs.length<=1099511627776)(hl':ys.length<=1099511627776):
 Calls prog 166 #[v,v'] w0 (Ret w0 h0 (λh r=>Us .u32 h r (zB (Nat.gcd (val xs) (val ys))))):=by
 have bx:=vC hv.lt;have bw:=vC hv'.lt;obtain⟨G,hG⟩:∃G,G=Nat.gcd (val xs) (val ys):=⟨_,I⟩;rw[<-hG];refine cb2 61 v v' func166 hs ?_;refine go8 ?_;refine cL (ev1 I) call144 (λw hs=>qB hs hv) λbt h1 bg Z=>?_;replace Z:=Z.2;refine uU (vs:=[_]) I I I I call103 ⟨I,y1i⟩ (λw hs=>cE hs Z oM) ?_;intro ar h2 ch bf aj;obtain rfl:=aj;refine yK (by exact xZ _) ?_;intro h3 be bj;refine go1 ?_;replace hv':=hv'.mono ((bg.trans bf).trans be);refine cL (ev1 I) call144 (λw hs=>qB hs hv') λbs h4 cf U=>?_;replace U:=U.2;refine uU (vs:=[_]) I I I I call103 ⟨I,y1i⟩ (λw hs=>cE hs U oM) ?_;intro aq h5 cg ce ai;obtain rfl:=ai;refine yK (by exact xZ _) ?_;intro h6 cd bi;refine go6 ?_;refine gcL (ι:=Value×Nat×Value×Nat×Mem) (λ(vx,X,vy,Y,k1)=>(MLe h6 k1/\(Us .u32 k1 vx (zB X)/\Us .u32 k1 vy (zB Y)/\Nat.gcd X Y=G/\(zB X).length<=1099511627776/\(zB Y).length<=1099511627776),[(5,vx),(6,vy)],[],k1,Y)) (ar,val xs,aq,val ys,h6) ?_ ?_
 · exact⟨mle,bj.up,bi,hG.symm,by omega,by omega⟩
 rintro⟨vx,X,vy,Y,k1⟩ ⟨bm,⟨ha,hb,hg,ca,bd⟩⟩
 refine yQ ?_;refine gc8 (λap=>?_) λap=>?_
 ·
  refine go7 ?_;have H:Y≠0:=yN.1 oM;refine cL (ev2 I I) call147 (λw hs=>iO hs ha hb oM oM) λbr h7 aa D=>?_;obtain⟨bv,av,rfl,am,D⟩:=D;simp only[zE] at am D;rw[zae H] at D;have bc:=zR (ydi (zcu X (zfe H)));refine zBY ?_;refine gqL (vy,Y,av,X%Y,h7) ?_ ?_
  · exact⟨mle,hb.up,D,by rw[nO];exact hg,bd,by omega⟩
  exact zcu _ (zfe H)
 refine rN ?_;refine cnd (λao=>?_) λao=>?_
 ·
  have H:Y=0:=zdu λba=>by have:=yN.2 ba;omega
  refine go8 ?_;refine zD I I ?_;rw[H,yie] at hg;rw[<-hg];exact ha
 have H:Y≠0:=yN.1 oM;refine go2 ?_;refine qK (ι:=Value×Nat×Value×Nat×Mem) (λ(O,X2,M,Y2,k2)=>MLe k1 k2/\(Us .u32 k2 O (zB X2)/\Us .u32 k2 M (zB Y2)/\Nat.gcd X2 Y2=G/\(zB X2).length<=2/\(zB Y2).length<=2)) (λ(O,X2,M,Y2,k2)=>[(5,O),(6,M)]) (λ(O,X2,M,Y2,k2)=>[]) (λ(O,X2,M,Y2,k2)=>k2) ?_ ?_
 ·
  refine gc7 (λan=>?_) λan=>?_
  ·
   refine go4 ?_;refine cL (ev2 I I) call147 (λw hs=>iO hs ha hb oM oM) λbq h7 aa C=>?_;obtain⟨bu,au,rfl,ak,C⟩:=C;simp only[zE] at ak C;rw[zae H] at C;have bc:=zR (ydi (zcu X (zfe H)));refine iV ?_;refine zS (vy,Y,au,X%Y,h7) ?_ e2z I I;refine⟨aa,?_⟩;replace hb:=hb.mono aa;exact⟨hb,C,by rw[nO];exact hg,by omega,by omega⟩
  refine go1 ?_;refine zS (vx,X,vy,Y,k1) ?_ e2z I I;refine⟨MLe.refl _,?_⟩;exact⟨ha,hb,hg,by omega,by omega⟩
 rintro⟨O,X2,M,Y2,k2⟩ ⟨bl,⟨bk,ac,bh,ax,aw⟩⟩
 refine yQ ?_;refine go3 ?_;refine cL (ev1 I) call192 (λw hs=>zK5 hs bk oM) λbp h7 aa ah=>?_;subst ah;rw[zE];have az:=aT ax;refine go1 ?_;replace ac:=ac.mono aa;refine cL (ev1 I) call192 (λw hs=>zK5 hs ac oM) λbo h8 cc ae=>?_;subst ae;rw[zE];have ay:=aT aw;refine go6 ?_;refine gcL (ι:=Nat×Nat) (λ(m,n)=>(Nat.gcd m n=G/\m<18446744073709551616/\n<18446744073709551616,[(13,vU .u64 m),(14,vU .u64 n)],[],h8,n)) (X2,Y2) ?_ ?_
 · exact⟨bh,az,ay⟩
 rintro⟨m,n⟩ ⟨ab,hm,hn⟩
 refine yQ ?_;refine go4 ?_;refine gv (fW (k:=.u64) (q:=0) I I) I (gc2 (λJ=>?_) λJ=>?_)
 ·
  refine go3 ?_;refine zK 6 _ [] (zai 0 6 []) yC nX zot nX (λr hr=>hr) (go3 ?_);refine wK I (λ_ _=>cJ (k:=.u64) I I oM) I (go4 ?_);refine gqL (n,m%n) ?_ ?_
  ·
   have bz:=zcu m (zfe J);exact⟨by rw[nO];exact ab,hn,by omega⟩
  exact zcu _ (zfe J)
 refine go8 ?_;refine cL (ev1 I) call167 (λw hs=>nat_of hs oM) λbn h9 cb ad=>(go4 ?_);refine zD I I ?_;have bb:n=0:=zdi J;rw[bb,yie] at ab;rw[<-ab];exact ad
theorem dZ{n:Nat}(hn:n<18446744073709551616):
 Calls prog 131 #[vU .u64 n] w0 (Ret w0 h0 (λh r=>Us .u32 h r (zB n))):=by
 refine cb1 10 (vU .u64 n) func131 hs ?_;refine uV ?_;refine zF (zEN (kd:=.u32) underlying22 wS I I I I) I I I ?_;intro M O D;obtain rfl:=D;refine yK (by intro x hx;simp only[zfi,zgi,or_false] at hx;simp only[ub];omega) ?_;intro h1 H hb;refine cL (ev1 I) call91 (λw hs=>fV hs hb zo1) λJ h2 G C=>(go4 ?_);refine zD I I ?_;have e:val [n%4294967296,n/2^32%4294967296]=n:=by simp only[val];omega
 rw[e] at C;exact C
theorem mC{v v':Value}{X Y:Nat}(hv:Us .u32 h0 v (zB X))(hv':Us .u32 h0 v' (zB Y)):
 Calls prog 56 #[v,v'] w0 (Ret w0 h0 (λ_ r=>r=vI (tS X Y))):=by
 have U:=zE X;have D:=zE Y;generalize hA:zB X=AA at *;generalize hB:zB Y=BB at *;have fA:Fit AA:=hv.lt;have fB:Fit BB:=hv'.lt;have lA:=hv.lt63;have lB:=hv'.lt63;refine cb2 41 v v' func56 hs ?_;refine qG ?_;refine gv (wW underlying22 I hv') I (gc3 (λO=>?_) λO=>?_)
 ·
  refine go6 ?_;refine gv (wW underlying22 I hv') I (gc3 (λM=>?_) λM=>?_)
  ·
   refine go8 ?_;refine zD I I ?_;rw[zA0 (sQ (by rw[hA,hB];omega))]
  refine go9 ?_;refine zD I I ?_;rw[zA1 (sQ (by rw[hA,hB];omega))]
 have hl:AA.length=BB.length:=by omega
 refine uV ?_;refine gcL (ι:=Nat) (λ(j:(Nat))=>(j<=AA.length/\AA.drop j=BB.drop j,[(0,v),(1,v'),(5,vI (↑j-1))],[],h0,j)) AA.length ?_ ?_
 · exact⟨zbe _,by rw[zle (zbe _),zle oM]⟩
 rintro j ⟨hj,G⟩
 refine yQ ?_;refine gc7 (λJ=>?_) λJ=>?_
 ·
  refine go6 ?_;refine zK 9 _ [] (zai 0 9 []) yC nX zot nX (λr Z=>Z) (go2 ?_);refine w_q I (λh' L' hh hR=>zU (j-1) underlying22 sizeOf127 I I (hv.mono hh) oM oM) I (w_q I (λh' L' hh hR=>xO isAgg127 I (hv.mono hh) oM) I (go2 ?_));refine w_q I (λh' L' hh hR=>zU (j-1) underlying22 sizeOf127 I I (hv'.mono hh) oM oM) I (w_q I (λh' L' hh hR=>xO isAgg127 I (hv'.mono hh) oM) I (gc3 (λC=>?_) λC=>?_))
  ·
   refine uV ?_;refine zD I I ?_;rw[<-U,<-D,zA0 (zCY fA hl oM hj G C)]
  refine go3 ?_;refine zK 9 _ [] (zai 0 9 []) yC nX zot nX (λr Z=>Z) (go2 ?_);refine w_q I (λh' L' hh hR=>zU (j-1) underlying22 sizeOf127 I I (hv.mono hh) oM oM) I (w_q I (λh' L' hh hR=>xO isAgg127 I (hv.mono hh) oM) I (go2 ?_));refine w_q I (λh' L' hh hR=>zU (j-1) underlying22 sizeOf127 I I (hv'.mono hh) oM oM) I (w_q I (λh' L' hh hR=>xO isAgg127 I (hv'.mono hh) oM) I (gc3 (λH=>?_) λH=>?_))
  ·
   refine qG ?_;refine zD I I ?_;rw[<-U,<-D,zA1 (zCY fB hl.symm oM oM G.symm oM)]
  refine go8 ?_;refine gqL (j-1) ?_ ?_ (he:=⟨I,I,?_,y1i⟩)
  ·
   refine⟨by omega,?_⟩;rw[fT AA (j-1) oM,fT BB (j-1) oM];have e:j-1+1=j:=by omega
   rw[e,G,zdi (show ¬¬AA.getD (j-1) 0=BB.getD (j-1) 0 by omega)]
  · omega
  · exact y0e (zbi vI oM)
 refine qG ?_;refine zD I I ?_;have h0:j=0:=by omega
 subst h0;simp only[ybu] at G;rw[<-U,<-D,G,zQJ]
theorem zT7{v:Value}{X:Nat}(hv:Us .u32 h0 v (zB X))(hl:(zB X).length<=1099511627776):
 Calls prog 139 #[v] w0 (Ret w0 h0 (λ_ r=>r=vI ↑(wH X))):=by
 refine cb1 25 v func139 hs ?_;refine rN ?_;refine cnd (λO=>?_) λO=>?_
 ·
  refine go7 ?_;refine zD I I ?_;have h0:X=0:=zdu λM=>by have:=yN.2 M;omega
  rw[h0];rfl
 have G:0<(zB X).length:=by omega
 have hb:=zB5 (xZ X) (k:=(zB X).length-1) oM (tX G);rw[zE] at hb;refine go7 ?_;refine gv (aA (p:=32) I I oM oM) I (uQ ?_);refine gv (zU ((zB X).length-1) underlying22 sizeOf127 I I hv oM oM) I (go1 ?_);have D:=hv.get32 ((zB X).length-1);refine go4 ?_;refine gcL (ι:=Nat×Nat) (λ(c,x)=>(x<4294967296/\wH ((zB X).getD ((zB X).length-1) 0)=c+wH x/\c<=32,[(3,vI (32*(↑(zB X).length-1)+↑c)),(4,vU .u32 x)],[],h0,x)) (0,(zB X).getD ((zB X).length-1) 0) ?_ ?_ (he:=⟨y0e (zbi vI oM),I,y1i⟩)
 · exact⟨D,by omega,by omega⟩
 rintro⟨c,x⟩ ⟨hx,H,U⟩
 refine yQ ?_;have Z:=aJ (n:=(zB X).getD ((zB X).length-1) 0) (k:=32) D;refine go4 ?_;refine gv (fW (k:=.u32) (q:=0) I I) I (gc2 (λC=>?_) λC=>?_)
 ·
  refine rN ?_;refine gv (kV (k:=.u32) (s:=1) (yk:=.u64) I I I (by simp only[ub];omega)) I (go2 ?_);refine gqL (c+1,x/2^1) ?_ ?_ (he:=⟨y0e (zbi vI oM),I,y1i⟩)
  ·
   have h1:=zOV C;exact⟨by omega,by rw[H,h1,show x/2^1=x/2 from I];omega,by omega⟩
  omega
 refine uV ?_;refine zD I I ?_;have J:x=0:=zdi C;rw[J,zFM] at H;exact zbi vI oM
theorem zYK{v v':Value}{X Y:Nat}(hv:Us .u32 h0 v (zB X))(hv':Us .u32 h0 v' (zB Y))(hl:(zB X).length<=1099511627776)(hl':(zB Y).length<=1099511627776):
 Calls prog 84 #[v,v'] w0 (Ret w0 h0 (λh r=>Us .u32 h r (zB (X+Y)))):=by
 have ay:=zR (Nat.le_add_right X Y);have ax:=zR (Nat.le_add_left Y X);have aw:=uJ X Y;refine cb2 54 v v' func84 hs ?_;refine go7 ?_;refine mS (fZ (v:=.slice none 0 0) I) I I I (zBZ (E:=127) (k:=.u32) (go4 ?_));refine asg (v:=vU .u64 0) I I (go9 ?_);refine gcL (ι:=Value×List Nat×Nat×Mem) (λ(O,C,c,Z)=>(MLe h0 Z/\(C.length<=(zB (X+Y)).length/\Fit C/\c<=1/\val C+4294967296^C.length*c=val ((zB X).take C.length)+val ((zB Y).take C.length)),[(0,v),(1,v'),(5,O),(6,vU .u64 c),(7,vI ↑C.length)],[.us 127 .u32 O C],Z,(zB (X+Y)).length-C.length)) (.slice none 0 0,[],0,h0) ?_ ?_
 · exact⟨mle,by simp,λx hx=>by simp at hx,by omega,by simp[val]⟩
 rintro⟨O,C,c,Z⟩ ⟨G,⟨aj,U,az,M⟩⟩
 refine yQ ?_;replace hv:=hv.mono G;replace hv':=hv'.mono G;have av:=hv.get32 C.length;have au:=hv'.get32 C.length;refine go7 ?_;refine gU 6 17 (vB (((↑C.length:Int)<↑(zB X).length)\/((↑C.length:Int)<↑(zB Y).length))) ?_ ?_
 ·
  refine yD ((↑C.length:Int)<↑(zB X).length) (λH=>?_) (λH=>?_)
  ·
   refine gT H I (go6 ?_);refine gqU ?_;exact y0e (vV H)
  refine gF H I (go5 ?_);refine gv (wW underlying22 I hv') I (go4 ?_);refine gqU ?_;exact y0e (vW H)
 refine gU 4 21 (vB (((↑C.length:Int)<↑(zB X).length\/(↑C.length:Int)<↑(zB Y).length)\/(c≠0))) ?_ ?_
 ·
  refine yD ((↑C.length:Int)<↑(zB X).length\/(↑C.length:Int)<↑(zB Y).length) (λH=>?_) (λH=>?_)
  ·
   refine gT H I (go4 ?_);refine gqU ?_;exact y0e (vV H)
  refine gF H I (go3 ?_);refine gv (fW (k:=.u64) (q:=0) I I) I (go2 ?_);refine gqU ?_;exact y0e (vW H)
 refine gc2 (λD=>?_) λD=>?_
 ·
  refine go4 ?_;refine qK (ι:=Unit) (λ(J:(Unit))=>True) (λ(J:(Unit))=>[(0,v),(1,v'),(5,O),(6,vU .u64 (c+(zB X).getD C.length 0)),(7,vI ↑C.length)]) (λ(J:(Unit))=>[.us 127 .u32 O C]) (λ(J:(Unit))=>Z) ?_ ?_
  ·
   refine gc8 (λah=>?_) λah=>?_
   ·
    refine go4 ?_;refine gv (zU (C.length) underlying22 sizeOf127 I I hv oM oM) I (go5 ?_);refine zS (()) ?_ e5 I I
    trivial
   refine go1 ?_;refine zS (()) ?_ ⟨I,I,I,?_,I,y1i⟩ I I
   · trivial
   · exact y0e (zbi (vU .u64) (by rw[tO (xs:=zB X) oM];omega))
  rintro J ad
  refine yQ ?_;refine qK (ι:=Unit) (λ(J:(Unit))=>True) (λ(J:(Unit))=>[(0,v),(1,v'),(5,O),(6,vU .u64 (c+(zB X).getD C.length 0+(zB Y).getD C.length 0)),(7,vI ↑C.length)]) (λ(J:(Unit))=>[.us 127 .u32 O C]) (λ(J:(Unit))=>Z) ?_ ?_
  ·
   refine go4 ?_;refine gv (wW underlying22 I hv') I (gc3 (λae=>?_) λae=>?_)
   ·
    refine go4 ?_;refine gv (zU (C.length) underlying22 sizeOf127 I I hv' oM oM) I (gv (xO isAgg127 I hv' oM) I (go4 ?_));refine zS (()) ?_ e5 I I
    trivial
   refine go1 ?_;refine zS (()) ?_ ⟨I,I,I,?_,I,y1i⟩ I I
   · trivial
   · exact y0e (zbi (vU .u64) (by rw[tO (xs:=zB Y) oM];omega))
  rintro J ad
  refine yQ ?_;refine go5 ?_;refine zF (gD (kd:=.u32) underlying22 wS I I I) I I I ?_;intro ap ar ab;obtain rfl:=ab;refine yK (by intro z hz;simp only[zne] at hz;subst hz;simp only[ub];omega) ?_;intro h1 ac am;refine xL (A:=[]) (jO (kd:=.u32) (bytes:=4) underlying22 wS I I I I I am zo7 zo7) I I I ?_;intro ai aq aa;obtain rfl:=aa;refine iV ?_;generalize ao:(zB X).getD C.length 0=p at *;generalize an:(zB Y).getD C.length 0=q at *;have ak:C.length<(zB (X+Y)).length:=by
   rcases D with(h|h)|h
   · omega
   · omega
   · by_cases h1:C.length<(zB X).length
     · omega
     · by_cases h2:C.length<(zB Y).length
       · omega
       · rw[xQ oM,xQ oM,zE,zE] at M
         refine zAP ?_;have:=Nat.le_mul_of_pos_right (4294967296^C.length) (zfe h);omega
  refine gqL (ai,C++[(c+p+q)%4294967296],(c+p+q)/2^32,h1) ?_ ?_ (he:=⟨I,I,I,I,y0e (zbi vI zo1),y1i⟩)
  ·
   refine⟨(G.trans ac),?_⟩;refine⟨by simp;omega,vJ U (bP oM),by omega,?_⟩;rw[lAz,zju,vX,vX,ao,an,sG,zke];have e:=z3u (c+p+q) 4294967296;rw[show(2:Nat)^32=4294967296 from I];generalize (c+p+q)/4294967296=s at *;generalize (c+p+q)%4294967296=r at *;grind
  simp;omega
 refine go8 ?_;refine yK (by exact U) ?_;intro h1 ac ho;refine go4 ?_;refine zD I I ?_;have h1:¬C.length<(zB X).length:=λh=>D (.inl (.inl oM));have h2:¬C.length<(zB Y).length:=λh=>D (.inl (.inr oM));have h3:c=0:=zdu λh=>D (.inr h);rw[xQ oM,xQ oM,zE,zE,h3] at M;have e:val C=X+Y:=by omega
 rw[<-e,zLF U (by rw[e];exact aj)];exact ho
theorem zBI{v v':Value}{X Y:Nat}(hv:Us .u32 h0 v (zB X))(hv':Us .u32 h0 v' (zB Y))(hle:Y<=X)(hl:(zB X).length<=1099511627776):
 Calls prog 130 #[v,v'] w0 (Ret w0 h0 (λh r=>Us .u32 h r (zB (X-Y)))):=by
 have am:=zR hle;refine cb2 50 v v' func130 hs ?_;refine go9 ?_;refine qQ (kd:=.u32) (by':=4) _ underlying22 wS I I I I I I I oM oM I ?_;intro D;refine go5 ?_;refine asg (v:=vU .u64 0) I I (go9 ?_);refine jU (ι:=List Nat×Nat) (λ(C,c)=>C.length<=(zB X).length/\Fit C/\c<=1/\val C+val ((zB Y).take C.length)=val ((zB X).take C.length)+4294967296^C.length*c) (λ(C,c)=>[(0,v),(1,v'),(5,D),(6,vU .u64 c),(7,vI ↑C.length)]) (λ(C,c)=>[.us 127 .u32 D (tC C (zB X).length)]) (λ(C,c)=>h0) (λ(C,c)=>(zB X).length-C.length) ([],0) ?_ e5 I I ?_
 · exact⟨by simp,λx hx=>by simp at hx,by omega,by simp[val]⟩
 rintro⟨C,c⟩ ⟨aj,H,ar,J⟩
 refine yQ ?_;have ai:=hv.get32 C.length;have ah:=hv'.get32 C.length;refine gc9 (λU=>?_) λU=>?_
 ·
  refine uQ ?_;refine qK (ι:=Unit) (λ(Z:(Unit))=>True) (λ(Z:(Unit))=>[(0,v),(1,v'),(5,D),(7,vI ↑C.length),(8,vU .u64 (c+(zB Y).getD C.length 0))]) (λ(Z:(Unit))=>[.us 127 .u32 D (tC C (zB X).length)]) (λ(Z:(Unit))=>h0) ?_ ?_
  ·
   refine go4 ?_;refine gv (wW underlying22 I hv') I (gc3 (λO=>?_) λO=>?_)
   ·
    refine go4 ?_;refine gv (zU (C.length) underlying22 sizeOf127 I I hv' oM oM) I (gv (xO isAgg127 I hv' oM) I (go4 ?_));refine zS (()) ?_ e5 I I
    trivial
   refine go1 ?_;refine zS (()) ?_ ⟨I,I,I,I,?_,y1i⟩ I I
   · trivial
   · exact y0e (zbi (vU .u64) (by rw[tO (xs:=zB Y) oM];omega))
  rintro Z ad
  refine yQ ?_;refine go4 ?_;refine gv (zU (C.length) underlying22 sizeOf127 I I hv oM oM) I (go7 ?_);refine asg (v:=vU .u64 0) I I (go2 ?_);refine qK (ι:=Nat) (λ(d:(Nat))=>d<=1/\c+(zB Y).getD C.length 0<=(zB X).getD C.length 0+4294967296*d/\(zB X).getD C.length 0+4294967296*d<c+(zB Y).getD C.length 0+4294967296) (λ(d:(Nat))=>[(0,v),(1,v'),(5,D),(6,vU .u64 d),(7,vI ↑C.length),(8,vU .u64 (c+(zB Y).getD C.length 0)),(9,vU .u64 ((zB X).getD C.length 0+4294967296*d))]) (λ(d:(Nat))=>[.us 127 .u32 D (tC C (zB X).length)]) (λ(d:(Nat))=>h0) ?_ ?_
  ·
   refine gc7 (λM=>?_) λM=>?_
   ·
    refine go3 ?_;refine gv (tJ (k:=.u64) (q:=4294967296) (W:=18446744073709551616) I I I I oM) I (go4 ?_);refine asg (v:=vU .u64 1) I I (go1 ?_);refine zS (1) ?_ e7 I I;exact⟨by omega,by omega,by omega⟩
   refine go1 ?_;refine zS (0) ?_ e7 I I;exact⟨by omega,by omega,by omega⟩
  rintro d ⟨aa,aq,ap⟩
  refine yQ ?_;refine go5 ?_;refine gv (bZ (k:=.u64) (W:=18446744073709551616) I I I I oM oM) I (gv (wY (k:=.u64) (k':=.u32) (W:=4294967296) underlying130 underlying127 I I I oM) I (gv (yP (A:=[]) (C.length) underlying22 sizeOf127 I I oM (by rw[vY oM];omega)) I (wF sizeOf127 I I (by rw[vY oM];omega) (go8 ?_))));generalize ac:(zB X).getD C.length 0=p at *;generalize ab:(zB Y).getD C.length 0=q at *;refine qV (C++[p+4294967296*d-(c+q)],d) ?_ ?_ ⟨I,I,I,I,?_,y1i⟩ ?_ I
  ·
   refine⟨by simp;omega,vJ H (bP oM),aa,?_⟩;rw[lAz,zju,vX,vX,ac,ab,sG,zke];have e:p+4294967296*d-(c+q)+c+q=p+4294967296*d:=by omega
   generalize p+4294967296*d-(c+q)=r at *;grind
  ·
   dsimp only;simp;omega
  · exact y0e (zbi vI zo1)
  try dsimp only[List.nil_append,List.cons_append]
  rw[rB oM]
 refine go8 ?_;have hk:C.length=(zB X).length:=by omega
 rw[cW hk];refine yK (by exact H) ?_;intro h1 ao ho;refine cL (ev1 I) call91 (λw hs=>fV hs ho oM) λae h2 an G=>(go4 ?_);refine zD I I ?_;have hk:C.length=(zB X).length:=by omega
 rw[xQ oM,xQ oM,zE,zE] at J;have h1:=kJ H;have h2:c=0:=zdu λak=>by
  have:c=1:=by omega
  subst this;omega
 subst h2;have e:val C=X-Y:=by omega
 rw[e] at G;exact G
theorem zPC{v v':Value}{X Y:Nat}(hv:Us .u32 h0 v (zB X))(hv':Us .u32 h0 v' (zB Y))(hl:(zB X).length<=1099511627776):
 Calls prog 85 #[v,v'] w0 (Ret w0 h0 (λh r=>∃u,r=.tuple #[u,vI (if X<Y then 7 else 0)]/\Us .u32 h u (zB (X-Y)))):=by
 refine cb2 13 v v' func85 hs ?_;refine qG ?_;refine cL (ev2 I I) call56 (λw hs=>mC hs hv hv') λv8 h1 H J=>?_;subst J;refine gc3 (λC=>?_) λC=>?_
 ·
  have G:=fC.1 C;refine go8 ?_;refine uA I I I ?_;rw[zau G,Nat.sub_eq_zero_of_le (ydi G),yR];exact⟨_,I,Us.nil _ _⟩
 have U:Y<=X:=ybe λZ=>C (fC.2 Z);refine go6 ?_;replace hv:=hv.mono H;replace hv':=hv'.mono H;refine cL (ev2 I I) call130 (λw hs=>zBI hs hv hv' oM oM) λM h2 O D=>(go5 ?_);refine uA I I I ?_;rw[zae oM];exact⟨_,I,D⟩
theorem pW{v v':Value}{xs ys:List Nat}(hv:Us .u32 h0 v xs)(hv':Us .u32 h0 v' ys)(hl:xs.length<=1099511627776)(hl':ys.length<=1099511627776):
 Calls prog 47 #[v,v'] w0 (Ret w0 h0 (λh r=>Us .u32 h r (zB (val xs*val ys)))):=by
 have aq:Fit xs:=hv.lt;have ap:Fit ys:=hv'.lt;refine cb2 67 v v' func47 hs ?_;refine uQ ?_;refine gv (wW underlying22 I hv') I (go1 ?_);refine qQ (kd:=.u32) (by':=4) (xs.length+ys.length) underlying22 wS I I I I I oM oM oM oM I ?_;intro D;refine uQ ?_;refine gcL (ι:=Nat×List Nat) (λ(k,G)=>(k<=xs.length/\G.length=xs.length+ys.length/\Fit G/\val G=val (xs.take k)*val ys/\∀i,k+ys.length<=i->G.getD i 0=0,[(0,v),(1,v'),(5,D),(6,vI ↑k)],[.us 127 .u32 D G],h0,xs.length-k)) (0,List.replicate (xs.length+ys.length) 0) ?_ ?_
 · exact⟨zqe _,by simp,qL _,by rw[fY];simp[val],λi _=>eU _ _⟩
 rintro⟨k,G⟩ ⟨hk,ad,aa,O,hz⟩
 refine yQ ?_;refine gc9 (λac=>?_) λac=>?_
 ·
  refine go6 ?_;refine asg (v:=vU .u64 0) I I (go9 ?_);refine gcL (ι:=Nat×List Nat×Nat) (λ(j,C,c)=>(j<=ys.length/\C.length=xs.length+ys.length/\Fit C/\c<4294967296/\val C+4294967296^(k+j)*c=val G+4294967296^k*(xs.getD k 0*val (ys.take j))/\∀i,k+ys.length<=i->C.getD i 0=0,[(0,v),(1,v'),(5,D),(6,vI ↑k),(7,vU .u64 c),(8,vI ↑j)],[.us 127 .u32 D C],h0,ys.length-j)) (0,G,0) ?_ ?_
  · exact⟨zqe _,ad,aa,by omega,by simp[val],hz⟩
  rintro⟨j,C,c⟩ ⟨hj,Z,M,ae,U,J⟩
  refine yQ ?_;have am:=hv.get32 k;have ak:=hv'.get32 j;have aj:=qE M (k+j);have ai:xs.getD k 0*ys.getD j 0<=4294967295*4294967295:=z6i oM oM;refine go5 ?_;refine gv (wW underlying22 I hv') I (gc3 (λab=>?_) λab=>?_)
  ·
   refine go5 ?_;refine zK 22 _ [] (zai 0 22 []) yC nX zot nX (λr hr=>hr) (go3 ?_);refine w_q I (λh' L' hh hR=>zU (k) underlying22 sizeOf127 I I (hv.mono hh) oM oM) I (w_q I (λh' L' hh hR=>xO isAgg127 I (hv.mono hh) oM) I (go3 ?_));refine w_q I (λh' L' hh hR=>zU (j) underlying22 sizeOf127 I I (hv'.mono hh) oM oM) I (w_q I (λh' L' hh hR=>xO isAgg127 I (hv'.mono hh) oM) I (go6 ?_));refine w_q I (λh' L' hh hR=>qY (hR _ mh0) (k+j) underlying22 sizeOf127 I I oM oM) I (w_q I (λh' L' hh hR=>kX (hR _ mh0) isAgg127 I oM) I (sN ?_));refine gv (yP (A:=[]) (k+j) underlying22 sizeOf127 I I oM oM) I (wF sizeOf127 I I oM (sN ?_));refine gqL (j+1,C.set (k+j) ((c+(xs.getD k 0*ys.getD j 0+C.getD (k+j) 0))%4294967296),(c+(xs.getD k 0*ys.getD j 0+C.getD (k+j) 0))/2^32) ?_ ?_
   ·
    refine⟨by omega,by simp[Z],aW M _ oM,by omega,?_,λi hi=>?_⟩
    · have h1:=aM (xs:=C) (i:=k+j) oM ((c+(xs.getD k 0*ys.getD j 0+C.getD (k+j) 0))%4294967296)
      have e:=z3u (c+(xs.getD k 0*ys.getD j 0+C.getD (k+j) 0)) 4294967296;have e2:(2:Nat)^32=4294967296:=I;rw[uH ys j oM,e2];have ep:(4294967296:Nat)^(k+(j+1))=4294967296^k*4294967296^j*4294967296:=by rw[<-z3i,zke,zlu]
      rw[ep];rw[zlu] at h1 U;generalize (c+(xs.getD k 0*ys.getD j 0+C.getD (k+j) 0))/4294967296=q at *;generalize (c+(xs.getD k 0*ys.getD j 0+C.getD (k+j) 0))%4294967296=r at *;grind
    · rw[qJ oM];exact J i hi
   omega
  refine go9 ?_;refine gv (wW underlying22 I hv') I (go3 ?_);refine gv (yP (A:=[]) (k+ys.length) underlying22 sizeOf127 I I oM oM) I (wF sizeOf127 I I oM (go8 ?_));refine gqL (k+1,C.set (k+ys.length) (c%4294967296)) ?_ ?_
  ·
   have hj:j=ys.length:=by omega
   subst hj;refine⟨by omega,by simp[Z],aW M _ oM,?_,λi hi=>?_⟩
   · have h1:=aM (xs:=C) (i:=k+ys.length) oM (c%4294967296)
     rw[J _ (zbe _)] at h1;rw[xQ (zbe _)] at U;rw[zoh ae] at h1 ⊢;rw[uH xs k oM];grind
   · rw[qJ oM];exact J i oM
  omega
 refine go8 ?_;refine yK (by exact aa) ?_;intro h1 ao ho;refine cL (ev1 I) call91 (λw hs=>fV hs ho oM) λah h2 an H=>(go4 ?_);refine zD I I ?_;rw[O,xQ oM] at H;exact H
theorem zRD{v:Value}{X d:Nat}(hv:Us .u32 h0 v (zB X))(hd:d<4294967296)(hl:(zB X).length<=1099511627776):
 Calls prog 142 #[v,vU .u32 d] w0 (Ret w0 h0 (λh r=>Us .u32 h r (zB (X*d)))):=by
 refine cb2 10 v (vU .u32 d) func142 hs ?_;refine uQ ?_;refine cL (ev1 I) call131 (λw hs=>dZ hs oM) λO h1 G D=>?_;have J:=kL (n:=d) oM;replace hv:=hv.mono G;refine cL (ev2 I I) call47 (λw hs=>pW hs hv D oM oM) λM h2 H C=>?_;simp only[zE] at C;refine go4 ?_;refine zD I I ?_;exact C
theorem zD3{v:Value}{xs:List Nat}{b:Nat}(hv:Us .u32 h0 v xs)(hb:0<b)(hb':b<4294967296)(hl:xs.length<=1099511627776):
 Calls prog 138 #[v,vU .u32 b] w0 (Ret w0 h0 (λh r=>∃u,r=.tuple #[u,vU .u32 (val xs%b)]/\Us .u32 h u (zB (val xs/b)))):=by
 have hf:Fit xs:=hv.lt;refine cb2 43 v (vU .u32 b) func138 hs ?_;refine go3 ?_;refine asg (v:=vU .u32 0) I I (go6 ?_);refine qQ (kd:=.u32) (by':=4) _ underlying22 wS I I I I I I I oM oM I ?_;intro G;refine go5 ?_;refine asg (v:=vU .u64 0) I I (uV ?_);refine jU (ι:=Nat×List Nat×Nat) (λ(j,D,r)=>j<=xs.length/\D.length=xs.length-j/\Fit D/\r<b/\val (xs.drop j)=b*val D+r) (λ(j,D,r)=>[(0,v),(1,vU .u32 b),(6,G),(7,vU .u64 r),(8,vI (↑j-1))]) (λ(j,D,r)=>[.us 127 .u32 G (gH j D)]) (λ(j,D,r)=>h0) (λ(j,D,r)=>j) (xs.length,[],0) ?_ e5 ?_ I ?_
 · exact⟨zbe _,by simp,λx hx=>by simp at hx,hb,by rw[zle (zbe _)];rfl⟩
 ·
  try dsimp only[List.nil_append,List.cons_append]
  exact zbi (λz=>[Res.us 127 .u32 G z]) (aG _)
 rintro⟨j,D,r⟩ ⟨hj,ab,J,U,C⟩
 refine yQ ?_;refine gc7 (λM=>?_) λM=>?_
 ·
  refine go7 ?_;refine gv (kW (k:=.u64) (s:=32) (yk:=.u64) (W:=18446744073709551616) I I I I) I (go2 ?_);refine gv (zU (j-1) underlying22 sizeOf127 I I hv oM oM) I (go1 ?_);have O:=hv.get32 (j-1);refine go1 ?_;refine gv (tU (k:=.u64) I I I (by simp only[ub];omega) (by simp only[ub];omega)) I ?_;rw[rV oM O];generalize ht:r*4294967296+xs.getD (j-1) 0=t at *;have hq:t/b<4294967296:=z2e (by rw[<-ht];have h1:(r+1)*4294967296<=b*4294967296:=zfu _ U;omega);refine uQ ?_;refine gv (cK (k:=.u64) (W:=18446744073709551616) I I I I oM oM) I (gv (wY (k:=.u64) (k':=.u32) (W:=4294967296) underlying130 underlying127 I I I oM) I (gv (yP (A:=[]) (j-1) underlying22 sizeOf127 I I oM (by rw[qZ];omega)) I (wF sizeOf127 I I (by rw[qZ];omega) (go6 ?_))));refine gv (cJ (k:=.u64) I I oM) I (go9 ?_);refine qV (j-1,t/b::D,t%b) ?_ ?_ ⟨I,I,I,I,?_,y1i⟩ ?_ I
  ·
   refine⟨by omega,by simp only[lC];omega,sP.2 ⟨hq,J⟩,zcu _ hb,?_⟩;rw[jP xs (j-1) oM,show j-1+1=j by omega,val];exact zDT C ht.symm I I
  ·
   dsimp only;omega
  · exact y0e (zbi vI oM)
  try dsimp only[List.nil_append,List.cons_append]
  rw[aF oM]
 refine go8 ?_;have Z:j=0:=by omega
 subst Z;rw[cX];refine yK (by exact J) ?_;intro h1 ad ho;refine cL (ev1 I) call91 (λw hs=>fV hs ho oM) λaa h2 ac H=>(go1 ?_);refine gv (wY (k:=.u64) (k':=.u32) (W:=4294967296) underlying130 underlying127 I I I oM) I (go5 ?_);refine uA I I I ?_;simp only[ybu] at C;have e1:val xs/b=val D:=by rw[C,Nat.mul_add_div hb,zzu U];omega
 have e2:val xs%b=r:=by rw[C,Nat.mul_add_mod,zoh U]
 rw[e1,e2];exact⟨_,I,H⟩
theorem zD2{v:Value}{X:Nat}(hv:Us .u32 h0 v (zB X))(hl:(zB X).length<=1099511627776):
 Calls prog 197 #[v] w0 (Ret w0 h0 (λ_ r=>r=.string (qD (txt X)))):=by
 have aq:=zL1 (xZ X);rw[zE] at aq;refine cb1 65 v func197 hs ?_;refine rN ?_;refine cnd (λau=>?_) λau=>?_
 ·
  have bh:(zB X).length=0:=by omega
  refine go7 ?_;refine zD I I ?_;have e:X=0:=zdu λZ=>by have:=yN.2 Z;omega
  rw[e];rfl
 have bj:(zB X).length≠0:=by omega
 refine go4 ?_;refine mS (fZ (v:=.slice none 0 0) I) I I I (zBZ (E:=5) (k:=.u8) (go4 ?_));refine jU (ι:=Value×Nat×Value×List Nat×Mem) (λ(va,n,U,ds,H)=>MLe h0 H/\(Us .u32 H va (zB n)/\n<=X/\ds++iX n=iX (X))) (λ(va,n,U,ds,H)=>[(0,va),(3,U)]) (λ(va,n,U,ds,H)=>[.us 5 .u8 U ds]) (λ(va,n,U,ds,H)=>H) (λ(va,n,U,ds,H)=>n) (v,X,.slice none 0 0,[],h0) ?_ e2z I I ?_
 ·
  refine⟨MLe.refl _,?_⟩;exact⟨hv,zbe _,I⟩
 rintro⟨va,n,U,ds,H⟩ ⟨ah,⟨ha,an,aa⟩⟩
 refine yQ ?_;have ba:(zB n).length<=(zB X).length:=zR an;refine gc8 (λac=>?_) λac=>?_
 ·
  refine go6 ?_;refine cL (vs:=[_,vU .u32 1000000000]) e2z call138 (λw hs=>zD3 hs ha oM oM oM) λbe h1 ao am=>?_;obtain⟨ai,rfl,D⟩:=am;rw[zE] at D ⊢;refine sN ?_;refine jU (ι:=Nat×Nat×Value×List Nat×Mem) (λ(i,x,J,C,M)=>MLe h1 M/\(i<=9/\x<10^(9-i)/\C++iX (x+10^(9-i)*(n/1000000000))=iX (X))) (λ(i,x,J,C,M)=>[(3,J),(4,ai),(5,vU .u32 x),(6,vI ↑i)]) (λ(i,x,J,C,M)=>[.us 5 .u8 J C]) (λ(i,x,J,C,M)=>M) (λ(i,x,J,C,M)=>9-i) (0,n%1000000000,U,ds,h1) ?_ e4z I I ?_
  ·
   refine⟨MLe.refl _,?_⟩;exact⟨by omega,by omega,by rw[<-aa];congr 2;omega⟩
  rintro⟨i,x,J,C,M⟩ ⟨G,⟨hi,ae,O⟩⟩
  refine yQ ?_;have bi:x<4294967296:=zku ae (zci (ziu oM (show 9-i<=9 by omega)) dC);refine go5 ?_;refine gU 9 30 (vB (((i:Int)<9)/\(0<x\/(0:Int)<↑(zB (n/1000000000)).length))) ?_ ?_
  ·
   refine yD ((i:Int)<9) (λhg=>?_) (λhg=>?_)
   ·
    refine gT hg I (go3 ?_);refine gv (nE (k:=.u32) (q:=0) I I) I ?_;refine gU 5 29 (vB ((0<x)\/((0:Int)<↑(zB (n/1000000000)).length))) ?_ ?_
    ·
     refine yD (0<x) (λhg=>?_) (λhg=>?_)
     ·
      refine go1 ?_;refine gT hg I (go6 ?_);refine gqU ?_;exact y0e (vV hg)
     refine go1 ?_;refine gF hg I ?_;replace D:=D.mono G;refine go9 ?_;refine gqU ?_;exact y0e (vW hg)
    refine go2 ?_;refine gqU ?_;exact y0e (xS hg)
   refine gF hg I (go9 ?_);refine gqU ?_;exact y0e (xT hg)
  refine gc2 (λab=>?_) λab=>?_
  ·
   have bb:C.length<=(iX (X)).length:=by rw[<-O];simp
   refine go8 ?_;refine gv (cJ (k:=.u32) (q:=10) I I oM) I (gv (tJ (k:=.u32) (p:=48) (W:=4294967296) I I I I oM) I (gv (wY (k:=.u32) (k':=.u8) (W:=256) underlying127 underlying5 I I I oM) I (zF (gD (kd:=.u8) underlying212 zP6 I I I) I I I ?_)));intro bd bg ak;obtain rfl:=ak;refine yK (by intro z hz;simp only[zne] at hz;subst hz;simp only[ub];omega) ?_;intro h2 ay az;refine xL (A:=[]) (jO (kd:=.u8) (bytes:=1) underlying212 zP6 I I I I I az zo7 zo7) I I I ?_;intro av bf aj;obtain rfl:=aj;refine go5 ?_;refine gv (cK (k:=.u32) (q:=10) (W:=4294967296) I I I I oM oM) I (go9 ?_);refine qV (i+1,x/10,av,C++[48+x%10],h2) ?_ ?_ e4z I I
   ·
    refine⟨(G.trans ay),?_⟩;obtain⟨h9,hor⟩:=ab;obtain⟨k,hk⟩:∃k,9-i=k+1:=⟨8-i,by omega⟩;have bk:=yN (n:=n/1000000000);refine⟨by omega,?_,?_⟩
    · rw[show 9-(i+1)=k by omega]
      rw[hk,zke] at ae;omega
    · rw[show 9-(i+1)=k by omega]
      rw[hk,zSK oM] at O;rw[zii];exact O
   dsimp only;omega
  refine uQ ?_;refine qV (ai,n/1000000000,J,C,M) ?_ ?_ e2z I I
  ·
   refine⟨((ah.trans ao).trans G),?_⟩;replace D:=D.mono G;refine⟨D,by omega,?_⟩;rw[<-O]
   congr 2
   by_cases h9:i=9
   · subst h9;simp at ae ⊢;omega
   · have h1:¬(0<x\/(0:Int)<↑(zB (n/1000000000)).length):=λh=>ab ⟨by omega,h⟩
     have h2:n/1000000000=0:=zdu λZ=>h1 (.inr (by have:=yN.2 Z;omega));rw[h2,show x=0 by omega,z7u]
  dsimp only;have:=yN (n:=n);omega
 have aw:n=0:=zdu λZ=>ac (by have:=yN.2 Z;omega);subst aw;rw[zHL,zli] at aa;have bc:ds.length<=10*(zB X).length:=by rw[aa];exact aq
 refine go8 ?_;refine gv (fM (A:=[]) underlying212 I) I (qQ (kd:=.u8) (by':=1) (ds.length) underlying212 zP6 I I I I I oM oM oM oM I ?_);intro ad;refine uQ ?_;refine jU (ι:=Nat) (λ(k:(Nat))=>k<=ds.length) (λ(k:(Nat))=>[(3,U),(7,ad),(8,vI ↑k)]) (λ(k:(Nat))=>[.us 5 .u8 ad (gH (ds.length-k) (ds.take k).reverse),.us 5 .u8 U ds]) (λ(k:(Nat))=>H) (λ(k:(Nat))=>ds.length-k) 0 ?_ e3z ?_ I ?_
 · exact zqe _
 ·
  try dsimp only[List.nil_append,List.cons_append]
  exact zbi (λz=>[Res.us 5 .u8 ad z,Res.us 5 .u8 U ds]) (aG _)
 rintro k hk
 refine yQ ?_;refine go5 ?_;refine gv (fM (A:=[_]) underlying212 I) I (gc3 (λar=>?_) λar=>?_)
 ·
  refine go7 ?_;refine gv (fM (A:=[_]) underlying212 I) I (go5 ?_);refine gv (yP (A:=[_]) (k) underlying212 sizeOf5 I I oM oM) I (gv (kY (A:=[_]) isAgg5 I oM) I (gv (yP (A:=[]) (ds.length-k-1) underlying212 sizeOf5 I I oM (by rw[qZ,yve,zei];omega)) I (wF sizeOf5 I I (by rw[qZ,yve,zei];omega) (go8 ?_))));refine qV (k+1) ?_ ?_ e3z ?_ I
  · omega
  · omega
  try dsimp only[List.nil_append,List.cons_append]
  rw[aF oM,iE ds k oM,List.reverse_append,List.reverse_singleton,List.singleton_append,Nat.sub_sub]
 refine go8 ?_;have ax:k=ds.length:=by omega
 rw[ax,ysu,cX,zze];refine yK (by intro z hz;rw[aa] at hz;exact zQN _ z (List.mem_reverse.1 hz)) ?_;intro h1 ao ap;refine gv (zID underlying212 underlying5 underlying9 I ap) I (go4 ?_);refine zD I I ?_;have e:X≠0:=yN.1 oM;rw[txt,zae e,<-aa]
end
set_option maxHeartbeats 1000000 in
section
variable{w0:World}{h0:Mem}(hs:MLe h0 (mem w0))
include hs
theorem nJ{v:Value}{xs:List Nat}{n:Int}(hv:Us .u32 h0 v xs)(hn:-9223372036854775808<=n)(hn':n<9223372036854775808)(hl:xs.length<=1099511627776):
 Calls prog 95 #[v,vI n] w0 (Ret w0 h0 (λh r=>∃u,r=.tuple #[u,vI (shE n)]/\Us .u32 h u (zB (shN (val xs) n)))):=by
 have bo:=vC hv.lt;refine cb2 79 v (vI n) func95 hs ?_;refine go9 ?_;refine cL (ev1 I) call144 (λw hs=>qB hs hv) λbl h1 bq G=>?_;replace G:=G.2;refine zJA (λav=>?_) λav=>?_
 ·
  refine go9 ?_;refine uA I I I ?_;rw[shE,zau oM,shN,zau oM,yR];exact⟨_,I,Us.nil _ _⟩
 refine gc7 (λau=>?_) λau=>?_
 ·
  obtain⟨N,hN⟩:∃N:Nat,n=↑N:=⟨n.toNat,by omega⟩;have bs:N<=16384:=by omega
  refine go1 ?_;refine zK 11 _ [] [(0,.q),(1,.q),(3,.q),(4,.q),(5,.q),(2,.b 6),(7,.c),(8,.c),(9,.q),(10,.q)] yC nX zot nX (λr hr=>hr) (go1 ?_);refine wK I (λ_ _=>lY (q:=32) I I oM oM oM) I ?_;rw[show n/32=↑(N/32) by omega];refine go2 ?_;refine wK I (λ_ _=>wO (q:=32) I I oM oM) I ?_;rw[show n%32=↑(N%32) by omega];refine w_b I I ?_ ?_
  ·
   refine qX (λX=>eM (kd:=.u32) (by':=4) (N/32) underlying22 wS I I I I I oM oM oM oM) I ?_;intro ba bc ac;obtain rfl:=ac;refine pL (vs:=[_,_]) call146 e2z (λw hs=>iN hs G oM oM) I ?_;intro az h2 bh ao ab;obtain⟨aj,rfl,ae,D,H⟩:=ab;refine w_c I (cG (A:=[]) (by exact D) zo1 ?_);intro h3 an ah;refine gR (A:=[]) (λX=>jO (kd:=.u32) (bytes:=4) underlying22 wS I I I I I ah (by rw[lR];omega) (by rw[lR];omega)) I zo1 ?_;intro ay bb aa;obtain rfl:=aa;refine w_c I (cG (A:=[]) (by exact vJ (qL _) D) zo1 ?_);intro h4 am ad;refine sC (ev1 I) call144 (λw hs=>qB hs ad) λax h5 bf C=>?_;replace C:=C.2;refine go1 ?_;refine zFR (v:=vI (0)) I I I (go5 ?_);refine uA I I I ?_;rw[sS,fY,lR,H,zE,lF,zue,show 32*(N/32)+N%32=n.toNat by omega] at C;rw[shE,zae oM,zH1 oM oM];exact⟨_,I,C⟩
  refine pL (vs:=[_,_]) call146 e2z (λw hs=>iN hs G oM oM) I ?_;intro az h2 bh ao ab;obtain⟨aj,rfl,ae,D,H⟩:=ab;refine qX (λX=>eM (kd:=.u32) (by':=4) (N/32) underlying22 wS I I I I I oM oM oM oM) I ?_;intro ba bc ac;obtain rfl:=ac;refine w_c I (cG (A:=[_]) (by exact D) zo1 ?_);intro h3 an ah;refine gR (A:=[]) (λX=>jO (kd:=.u32) (bytes:=4) underlying22 wS I I I I I ah (by rw[lR];omega) (by rw[lR];omega)) I zo1 ?_;intro ay bb aa;obtain rfl:=aa;refine w_c I (cG (A:=[]) (by exact vJ (qL _) D) zo1 ?_);intro h4 am ad;refine sC (ev1 I) call144 (λw hs=>qB hs ad) λax h5 bf C=>?_;replace C:=C.2;refine go1 ?_;refine zFR (v:=vI (0)) I I I (go5 ?_);refine uA I I I ?_;rw[sS,fY,lR,H,zE,lF,zue,show 32*(N/32)+N%32=n.toNat by omega] at C;rw[shE,zae oM,zH1 oM oM];exact⟨_,I,C⟩
 obtain⟨M,hM⟩:∃M:Nat,n= -↑M:=⟨(-n).toNat,by omega⟩;refine go5 ?_;refine gv (aA (p:=-32) I I oM oM) I (gc4 (λar=>?_) λar=>?_)
 ·
  refine go9 ?_;refine uA I I I ?_;rw[shE,zae oM,zDU oM,zAY oM,yR];exact⟨_,I,Us.nil _ _⟩
 have bt:M<32*(zB (val xs)).length:=by omega
 refine go7 ?_;refine gv (nC I oM oM) I (gv (lY (q:=32) I I oM oM oM) I ?_);rw[show -n/32=↑(M/32) by omega];refine gv (qM (M/32) underlying22 sizeOf127 I I G.shape oM oM) I ?_;have Z:=G.sub (lo:=M/32) (hi:=(zB (val xs)).length) oM oM;rw[zwu (by rw[zhe];omega)] at Z;have br:(List.drop (M/32) (zB (val xs))).length=(zB (val xs)).length-M/32:=zhe;refine uU (vs:=[_]) I I I I call103 ⟨I,y1i⟩ (λw hs=>cE hs Z oM) ?_;intro U h2 bu ao ak;obtain rfl:=ak;refine go1 ?_;have O:Fit (List.drop (M/32) (zB (val xs))):=nQ (xZ _) _;have aw:=jN (xZ (val xs)) (M/32);rw[zE] at aw;generalize List.drop (M/32) (zB (val xs))=Rs at *;refine go5 ?_;refine gv (nC I oM oM) I (gv (wO (q:=32) I I oM oM) I ?_);obtain⟨s,bm⟩:∃s,s=M%32:=⟨_,I⟩;rw[show -n%32=↑s by omega];have bi:s<32:=by omega
 refine go7 ?_;refine gv (fM (A:=[]) underlying22 I) I (go4 ?_);refine jU (ι:=Nat) (λ(k:(Nat))=>k<=Rs.length) (λ(k:(Nat))=>[(6,U),(7,vI ↑s),(42,vI ↑Rs.length),(43,vI ↑k)]) (λ(k:(Nat))=>[.us 127 .u32 U (oV s Rs k)]) (λ(k:(Nat))=>h2) (λ(k:(Nat))=>Rs.length-k) 0 ?_ e4z ?_ I ?_
 · exact zqe _
 ·
  try dsimp only[List.nil_append,List.cons_append]
  exact zbi (λz=>[Res.us 127 .u32 U z]) (zGJ s Rs)
 rintro k hk
 refine yQ ?_;refine gc6 (λaq=>?_) λaq=>?_
 ·
  refine go2 ?_;refine qK (ι:=Unit) (λ(_u:(Unit))=>True) (λ(_u:(Unit))=>[(6,U),(7,vI ↑s),(42,vI ↑Rs.length),(43,vI ↑k)]) (λ(_u:(Unit))=>[.us 127 .u32 U (oV s Rs (k+1))]) (λ(_u:(Unit))=>h2) ?_ ?_
  ·
   refine qG ?_;refine gv (yP (A:=[]) (k) underlying22 sizeOf127 I I oM (by rw[uL oM];omega)) I (gv (kY (A:=[]) isAgg127 I (by rw[uL oM];omega)) I ?_);rw[g5 (zbe _)];have bg:=qE O k;refine go1 ?_;refine gv (kV (k:=.u32) (s:=s) (yk:=.i64) I I I (by simp only[ub];omega)) I ?_;have bn:Rs.getD k 0/2^s<4294967296:=yii (zki _ _) bg;refine gv (yP (A:=[]) (k) underlying22 sizeOf127 I I oM (by rw[uL oM];omega)) I (wF sizeOf127 I I (by rw[uL oM];omega) (go6 ?_));refine gU 7 61 (vB (((0:Int)<↑s)/\((↑k:Int)+1<↑Rs.length))) ?_ ?_
   ·
    refine yD ((0:Int)<↑s) (λhg=>?_) (λhg=>?_)
    ·
     refine gT hg I (go7 ?_);refine gv (fM (A:=[]) underlying22 I) I ?_;rw[lS,uL oM];refine go4 ?_;refine gqU ?_;exact y0e (xS hg)
    refine gF hg I (go7 ?_);refine gqU ?_;exact y0e (xT hg)
   refine gc2 (λap=>?_) λap=>?_
   ·
    refine zK 14 _ [] (zai 0 14 [(14,.t)]) yC nX zot nX (λr hr=>hr) (go2 ?_);refine w_q I (λh' L' hh hR=>qY (hR _ mh0) (k) underlying22 sizeOf127 I I oM (by rw[lS,uL oM];omega)) I (w_q I (λh' L' hh hR=>kX (hR _ mh0) isAgg127 I (by rw[lS,uL oM];omega)) I ?_);rw[dO (by rw[uL oM];omega)];refine go3 ?_;refine w_q I (λh' L' hh hR=>qY (hR _ mh0) (k+1) underlying22 sizeOf127 I I oM (by rw[lS,uL oM];omega)) I (w_q I (λh' L' hh hR=>kX (hR _ mh0) isAgg127 I (by rw[lS,uL oM];omega)) I ?_);rw[qJ oM,g5 oM];refine go1 ?_;refine wK I (λ_ _=>jI (p:=32) I I oM oM) I ?_;rw[show((32:Int)-↑s)=↑(32-s) by omega];refine wK I (λ_ _=>kW (k:=.u32) (s:=32-s) (yk:=.i64) (W:=4294967296) I I I I) I (wK I (λ_ _=>tU (k:=.u32) I I I (by simp only[ub];omega) (by simp only[ub];omega)) I ?_);rw[zO6 O oM oM];refine w_q I (λh' L' hh hR=>qY (hR _ mh0) (k) underlying22 sizeOf127 I I oM (by rw[lS,uL oM];omega)) I (gL (A:=[]) I (lD sizeOf127 I I (by rw[lS,uL oM];omega)) I (go2 ?_));refine zS (()) ?_ e4z ?_ I
    · trivial
    try dsimp only[List.nil_append,List.cons_append]
    rw[List.set_set,j9 oM]
    try rfl
   refine go2 ?_;have ai:Rs.getD k 0/2^s=oJ s Rs k:=by
    by_cases h0:s=0
    · rw[h0,zGK O oM,yse,z2i]
    · exact(zGL O oM).symm
   refine zS (()) ?_ e4z ?_ I
   · trivial
   try dsimp only[List.nil_append,List.cons_append]
   rw[ai,j9 oM]
  rintro _u bj
  refine yQ ?_;refine go4 ?_;refine qV (k+1) ?_ ?_ e4z I I
  · omega
  omega
 refine go8 ?_;have bp:Rs.length<=1099511627776:=by omega
 refine yK (by exact zLP O) ?_;intro h3 an bd;refine cL (ev1 I) call144 (λw hs=>qB hs bd) λbk h4 am J=>?_;replace J:=J.2;refine go5 ?_;refine uA I I I ?_;have be:k=Rs.length:=by omega
 rw[be,zJL O,aw,dP,show 32*(M/32)+s=(-n).toNat by omega] at J;rw[shE,zae oM,zDU oM];exact⟨_,I,J⟩
theorem zT5{v:Value}{X n:Nat}(hv:Us .u32 h0 v (zB X))(hn:n<=16384)(hl:(zB X).length<=1099511627776):
 Calls prog 140 #[v,vI ↑n] w0 (Ret w0 h0 (λh r=>Us .u32 h r (zB (X*2^n)))):=by
 obtain⟨s,az⟩:∃s,s=n%32:=⟨_,I⟩;have hp:2^s<=2147483648:=ziu (n:=2) oM (show s<=31 by omega);have aj:0<2^s:=zqi oM;refine cb2 40 v (vI ↑n) func140 hs ?_;refine go8 ?_;refine gv (lY (q:=32) I I oM oM oM) I (qQ (kd:=.u32) (by':=4) (n/32) underlying22 wS I I I I I oM oM oM oM I ?_);intro ai;refine go5 ?_;refine asg (v:=vU .u64 0) I I (go9 ?_);refine jU (ι:=Value×List Nat×Nat×Mem) (λ(J,C,c,M)=>MLe h0 M/\(C.length<=(zB X).length/\Fit C/\c<2^s/\val C+4294967296^C.length*c=val ((zB X).take C.length)*2^s)) (λ(J,C,c,M)=>[(0,v),(1,vI ↑n),(5,J),(6,vU .u64 c),(7,vI ↑C.length)]) (λ(J,C,c,M)=>[.us 127 .u32 J (List.replicate (n/32) 0++C)]) (λ(J,C,c,M)=>M) (λ(J,C,c,M)=>(zB X).length-C.length) (ai,[],0,h0) ?_ e5 ?_ I ?_
 ·
  refine⟨MLe.refl _,?_⟩;exact⟨by simp,λx hx=>by simp at hx,aj,by simp[val]⟩
 ·
  try dsimp only[List.nil_append,List.cons_append]
  rw[zli]
 rintro⟨J,C,c,M⟩ ⟨H,⟨ay,ac,hc,D⟩⟩
 refine yQ ?_;replace hv:=hv.mono H;refine gc9 (λae=>?_) λae=>?_
 ·
  refine go9 ?_;refine gv (zU (C.length) underlying22 sizeOf127 I I hv oM oM) I (go1 ?_);have ax:=hv.get32 C.length;have aw:(zB X).getD C.length 0*2^s<18446744073709551616-4294967296:=by
   have:=z6i (show(zB X).getD C.length 0<=4294967295 by omega) hp;omega
  refine go2 ?_;refine gv (wO (q:=32) I I oM oM) I ?_;rw[show(↑n:Int)%32=↑s by omega];refine gv (kW (k:=.u64) (s:=s) (yk:=.i64) (W:=18446744073709551616) I I I I) I ?_;rw[zoh oM];refine gv (tU (k:=.u64) I I I (by simp only[ub];omega) (by simp only[ub];omega)) I ?_;rw[zNF hc];refine go8 ?_;refine zF (gD (kd:=.u32) underlying22 wS I I I) I I I ?_;intro ap av aa;obtain rfl:=aa;refine yK (by intro z hz;simp only[zne] at hz;subst hz;simp only[ub];omega) ?_;intro h1 ab ak;refine xL (A:=[]) (jO (kd:=.u32) (bytes:=4) underlying22 wS I I I I I ak zo6 zo6) I I I ?_;intro ah au Z;obtain rfl:=Z;refine iV ?_;refine qV (ah,C++[((zB X).getD C.length 0*2^s+c)%4294967296],((zB X).getD C.length 0*2^s+c)/2^32,h1) ?_ ?_ ⟨I,I,I,I,?_,y1i⟩ ?_ I
  ·
   refine⟨(H.trans ab),?_⟩;refine⟨by simp;omega,vJ ac (bP oM),?_,?_⟩
   · refine z2e ?_
     have:=zfu (2^s) (show(zB X).getD C.length 0+1<=2^32 by omega);rw[z1e] at this;omega
   · have e:=z3u ((zB X).getD C.length 0*2^s+c) 4294967296
     have e2:(2:Nat)^32=4294967296:=I;rw[lAz,zju,uH (zB X) _ oM,sG,zke,e2];generalize ((zB X).getD C.length 0*2^s+c)/4294967296=q at *;generalize ((zB X).getD C.length 0*2^s+c)%4294967296=r at *;grind
  ·
   dsimp only;simp;omega
  · exact y0e (zbi vI zo1)
  try dsimp only[List.nil_append,List.cons_append]
  rw[zii]
 refine uQ ?_;refine zF (gD (kd:=.u32) underlying22 wS I I I) I I I ?_;intro ao ar U;obtain rfl:=U;refine yK (by intro z hz;simp only[zne] at hz;subst hz;simp only[ub];omega) ?_;intro h1 ab ad;refine xL (A:=[]) (jO (kd:=.u32) (bytes:=4) underlying22 wS I I I I I ad zo6 zo6) I I I ?_;intro an aq O;obtain rfl:=O;refine yK (by exact vJ (vJ (qL _) ac) (bP oM)) ?_;intro h2 bb ho;refine cL (ev1 I) call91 (λw hs=>fV hs ho (by simp;omega)) λam h3 ba G=>(go4 ?_);refine zD I I ?_;have hk:C.length=(zB X).length:=by omega
 rw[xQ oM,zE] at D;rw[zoh oM,zii,sS,fY,lR,sG,D,lF,zue,show 32*(n/32)+s=n by omega] at G;exact G
theorem zT6{v:Value}{X n:Nat}(hv:Us .u32 h0 v (zB X))(hn:n<9223372036854775808)(hl:(zB X).length<=1099511627776):
 Calls prog 143 #[v,vI ↑n] w0 (Ret w0 h0 (λh r=>Us .u32 h r (zB (X/2^n)))):=by
 obtain⟨s,ah⟩:∃s,s=n%32:=⟨_,I⟩;refine cb2 55 v (vI ↑n) func143 hs ?_;refine go9 ?_;refine gv (lY (q:=32) I I oM oM oM) I (gc5 (λZ=>?_) λZ=>?_)
 ·
  refine go7 ?_;refine zD I I ?_;rw[show X/2^n=0 from zAY oM,yR];exact Us.nil _ _
 refine go6 ?_;refine gv (lY (q:=32) I I oM oM oM) I ?_;rw[show(↑n:Int)/32=↑(n/32) by omega];refine gv (qM (n/32) underlying22 sizeOf127 I I hv.shape oM oM) I ?_;have D:=hv.sub (lo:=n/32) (hi:=(zB X).length) oM oM;rw[zwu (by rw[zhe];omega)] at D;have an:(List.drop (n/32) (zB X)).length=(zB X).length-n/32:=zhe;refine go1 ?_;have M:Fit (List.drop (n/32) (zB X)):=nQ (xZ _) _;have aa:=jN (xZ X) (n/32);rw[zE] at aa;obtain⟨vR,ab⟩:∃z,z=fF 1 v (n/32) (zB X).length:=⟨_,I⟩;rw[<-ab] at D ⊢;generalize List.drop (n/32) (zB X)=Rs at *;refine go6 ?_;refine qQ (kd:=.u32) (by':=4) (Rs.length) underlying22 wS I I I I I oM oM oM oM I ?_;intro G;refine uQ ?_;refine gcL (ι:=List Nat) (λ(C:(List Nat))=>(C.length<=Rs.length/\C=(List.range C.length).map (oJ s Rs),[(0,vR),(1,vI ↑n),(5,G),(6,vI ↑C.length)],[.us 127 .u32 G (tC C Rs.length)],h0,Rs.length-C.length)) [] ?_ ?_
 · exact⟨by simp,I⟩
 rintro C ⟨ae,J⟩
 refine yQ ?_;refine gc9 (λU=>?_) λU=>?_
 ·
  refine go8 ?_;refine gv (zU (C.length) underlying22 sizeOf127 I I D oM oM) I (go1 ?_);have am:=qE M C.length;have ak:=qE M (C.length+1);refine go4 ?_;refine qK (ι:=Unit) (λ(_u:(Unit))=>True) (λ(_u:(Unit))=>[(0,vR),(1,vI ↑n),(5,G),(6,vI ↑C.length),(7,vU .u64 (Rs.getD C.length 0+4294967296*Rs.getD (C.length+1) 0))]) (λ(_u:(Unit))=>[.us 127 .u32 G (tC C Rs.length)]) (λ(_u:(Unit))=>h0) ?_ ?_
  ·
   refine gc9 (λO=>?_) λO=>?_
   ·
    refine go5 ?_;refine gv (zU (C.length+1) underlying22 sizeOf127 I I D oM oM) I (go2 ?_);refine gv (kW (k:=.u64) (s:=32) (yk:=.u64) (W:=18446744073709551616) I I I I) I (gv (tU (k:=.u64) I I I (by simp only[ub];omega) (by simp only[ub];omega)) I ?_);rw[Nat.or_comm,rV oM oM];refine go2 ?_;refine zS (()) ?_ ⟨I,I,I,I,?_,y1i⟩ I I
    · trivial
    · exact y0e (zbi (vU .u64) oM)
   refine go1 ?_;refine zS (()) ?_ ⟨I,I,I,I,?_,y1i⟩ I I
   · trivial
   · exact y0e (zbi (vU .u64) (by rw[tO (xs:=Rs) (i:=C.length+1) oM];omega))
  rintro _u ac
  refine yQ ?_;refine go5 ?_;refine gv (wO (q:=32) I I oM oM) I ?_;rw[show(↑n:Int)%32=↑s by omega];refine gv (kV (k:=.u64) (s:=s) (yk:=.i64) I I I (by simp only[ub];omega)) I (go1 ?_);rw[zTF oM oM];refine gv (yP (A:=[]) (C.length) underlying22 sizeOf127 I I oM (by rw[vY oM];omega)) I (wF sizeOf127 I I (by rw[vY oM];omega) (go8 ?_));refine gqL (C++[oJ s Rs C.length]) ?_ ?_ (he:=⟨I,I,I,?_,y1i⟩) (hL:=?_)
  ·
   refine⟨by simp;omega,?_⟩;rw[lAz,zju,List.range_succ,z1u,List.map_singleton,<-J]
  · simp;omega
  · exact y0e (zbi vI zo1)
  try dsimp only[List.nil_append,List.cons_append]
  rw[rB oM]
 refine go8 ?_;have hk:C.length=Rs.length:=by omega
 rw[cW hk];refine yK (by rw[J];intro z hz;obtain⟨w,_,rfl⟩:=zte.1 hz;exact zO7 s Rs w) ?_;intro h1 aj ho;refine cL (ev1 I) call91 (λw hs=>fV hs ho oM) λad h2 ai H=>(go4 ?_);refine zD I I ?_;rw[J,hk,zQ5 M,aa,dP,show 32*(n/32)+s=n by omega] at H;exact H
theorem iJ{v:Value}{X:Nat}(hv:Us .u32 h0 v (zB X)):
 Calls prog 137 #[v] w0 (Ret w0 h0 (λ_ r=>r=.tuple #[vU .u64 (if(zB X).length<=2 then X else 0),vB ((zB X).length<=2)])):=by
 have U:=hv.get32 0;have O:=hv.get32 1;have Z:=zE X;have M:=hv.lt63;refine cb1 26 v func137 hs ?_;refine go2 ?_;refine asg (v:=vU .u64 0) I I (oO ?_);refine cnd (λJ=>?_) λJ=>?_
 ·
  refine go2 ?_;refine asg (v:=vU .u64 0) I I (go6 ?_);refine uA I I I ?_;have h0:X=0:=zdu λG=>by have:=yN.2 G;omega
  rw[xR oM,zau oM,h0]
 refine gc6 (λH=>?_) λH=>?_
 ·
  have D:=zCZ (xs:=zB X) oM;refine go3 ?_;refine gv (zU (q:=0) (0) underlying22 sizeOf127 I I hv I oM) I (go9 ?_);refine uA I I I ?_;rw[xR oM,zau oM,<-D,zE]
 refine gc6 (λC=>?_) λC=>?_
 ·
  refine go1 ?_;refine zK 12 _ [] (zai 0 12 []) yC nX zot nX (λr hr=>hr) (go1 ?_);refine w_q I (λh' L' hh hR=>zU (q:=0) (0) underlying22 sizeOf127 I I (hv.mono hh) I oM) I (w_q I (λh' L' hh hR=>xO isAgg127 I (hv.mono hh) oM) I (go2 ?_));refine w_q I (λh' L' hh hR=>zU (q:=1) (1) underlying22 sizeOf127 I I (hv.mono hh) I oM) I (w_q I (λh' L' hh hR=>xO isAgg127 I (hv.mono hh) oM) I (go1 ?_));refine wK I (λ_ _=>kW (k:=.u64) (s:=32) (yk:=.u64) (W:=18446744073709551616) I I I I) I (wK I (λ_ _=>tU (k:=.u64) I I I (by simp only[ub];omega) (by simp only[ub];omega)) I ?_);rw[Nat.or_comm,rV oM oM];refine go7 ?_;refine uA I I I ?_;have h1:=vX (zB X) 1;have h2:=vX (zB X) 0;rw[xQ oM,zE] at h1;rw[yke] at h2;simp only[val,zue] at h2;rw[xR oM,zau oM];have e:(zB X).getD 1 0*4294967296+(zB X).getD 0 0=X:=by omega
  rw[e]
 refine go5 ?_;refine asg (v:=vU .u64 0) I I (go4 ?_);refine uA I I I ?_;rw[yV oM,zae oM]
theorem zCG{v:Value}{X k:Nat}(hv:Us .u32 h0 v (zB X))(hk:k<=4398046511104)(hl:(zB X).length<=4398046511104):
 Calls prog 141 #[v,vI ↑k] w0 (Ret w0 h0 (λh r=>Us .u32 h r (zB (X*4294967296^k)))):=by
 refine cb2 12 v (vI ↑k) func141 hs ?_;refine rN ?_;refine cnd (λG=>?_) λG=>?_
 ·
  have h0:X=0:=zdu λD=>by have:=yN.2 D;omega
  refine go7 ?_;refine zD I I ?_;rw[h0,zvi,yR];exact Us.nil _ _
 have h0:X≠0:=yN.1 oM;refine go5 ?_;refine qQ (kd:=.u32) (by':=4) (k) underlying22 wS I I I I I oM oM oM oM I ?_;intro U;refine go1 ?_;refine xL (A:=[]) (jO (kd:=.u32) (bytes:=4) underlying22 wS I I I I I hv (by rw[lR];omega) (by rw[lR];omega)) I I I ?_;intro H J C;obtain rfl:=C;refine yK (by exact vJ (qL _) (xZ _)) ?_;intro h1 O M;refine go4 ?_;refine zD I I ?_;rw[<-zLE h0];exact M
end
set_option maxHeartbeats 1000000 in
section
variable{w0:World}{h0:Mem}(hs:MLe h0 (mem w0))
include hs
theorem zH3{v v':Value}{X Y:Nat}(hv:Us .u32 h0 v (zB X))(hv':Us .u32 h0 v' (zB Y))(hl:(zB X).length<=549755813888)(hl':(zB Y).length<=549755813888):
 Calls prog 93 #[v,v'] w0 (Ret w0 h0 (λh z=>∃q r,z=.tuple #[q,r,vI (if Y=0 then 3 else 0)]/\Us .u32 h q (zB (X/Y))/\Us .u32 h r (zB (if Y=0 then 0 else X%Y)))):=by
 refine cb2 163 v v' func93 hs ?_;refine qG ?_;refine gv (wW underlying22 I hv') I (gc3 (λcj=>?_) λcj=>?_)
 ·
  have cp:Y=0:=zdu λcy=>by have:=yN.2 cy;omega
  refine go9 ?_;refine jK I I I I ?_;rw[cp,Nat.div_zero,zau I,zau I,yR];exact⟨_,_,I,Us.nil _ _,Us.nil _ _⟩
 have C:Y≠0:=yN.1 oM;refine go7 ?_;refine cL (ev2 I I) call56 (λw hs=>mC hs hv hv') λeg h1 aw bw=>?_;subst bw;refine gc3 (λap=>?_) λap=>?_
 ·
  have O:=fC.1 ap;refine go3 ?_;replace hv:=hv.mono aw;refine cL (ev1 I) call91 (λw hs=>fV hs hv oM) λef h2 an ba=>?_;rw[zE] at ba;refine go7 ?_;refine jK I I I I ?_;rw[zzu O,zoh O,zae C,zae C,yR];exact⟨_,_,I,Us.nil _ _,ba⟩
 have cb:Y<=X:=ybe λhc=>ap (fC.2 hc);have ep:=zR cb;refine go6 ?_;replace hv:=hv.mono aw;refine cL (ev1 I) call137 (λw hs=>iJ hs hv) λee h2 an bv=>?_;subst bv;refine zJA (λao=>?_) λao=>?_
 ·
  have hw:=aT ao;have ei:=aT (n:=Y) oM;refine go3 ?_;replace hv':=hv'.mono (aw.trans an);refine cL (ev1 I) call137 (λw hs=>iJ hs hv') λed h3 av bu=>?_;subst bu;refine go2 ?_;rw[zau ao,zau (show(zB Y).length<=2 by omega)];refine go6 ?_;refine zK 11 _ [] [(0,.q),(1,.q),(2,.q),(4,.q),(5,.q),(6,.q),(3,.c),(7,.c),(8,.q),(9,.q),(10,.q)] yC nX zot nX (λr hr=>hr) (go2 ?_);refine wK I (λ_ _=>cK (k:=.u64) (W:=18446744073709551616) I I I I oM oM) I (go2 ?_);refine wK I (λ_ _=>cJ (k:=.u64) I I oM) I ?_;refine w_c I ?_;have dt:=zki X Y;have bp:=zcu X (zfe C);refine sC (ev1 I) call131 (λw hs=>dZ hs oM) λec h4 au ae=>?_;refine w_c I (sC (ev1 I) call131 (λw hs=>dZ hs oM) λeb h5 bi bt=>(go2 ?_));refine zFR (v:=vI (0)) I I I (go4 ?_);refine jK I I I I ?_;replace ae:=ae.mono bi;rw[zae C,zae C];exact⟨_,_,I,ae,bt⟩
 refine go6 ?_;replace hv':=hv'.mono (aw.trans an);refine gv (wW underlying22 I hv') I (gc3 (λci=>?_) λci=>?_)
 ·
  have bb:(zB Y).length=1:=by omega
  have dc:(zB Y).getD 0 0≠0:=by have:=tX (n:=Y) oM;rwa [bb] at this
  have bn:=zCZ bb;rw[zE] at bn;refine go4 ?_;refine gv (zU (q:=0) (0) underlying22 sizeOf127 I I hv' I oM) I (gv (xO isAgg127 I hv' oM) I ?_);have es:=hv'.get32 0;replace hv:=hv.mono an;refine cL (ev2 I I) call138 (λw hs=>zD3 hs hv oM oM oM) λea h3 av bs=>?_;obtain⟨eh,rfl,J⟩:=bs;rw[zE] at J ⊢;have bp:=zcu X (zfe dc);refine uV ?_;refine cL (ev1 I) call131 (λw hs=>dZ hs oM) λdz h4 au az=>(go7 ?_);refine jK I I I I ?_;replace J:=J.mono au;rw[<-bn] at J az;rw[zae C,zae C];exact⟨_,_,I,J,az⟩
 have bz:2<=(zB Y).length:=by omega
 refine go6 ?_;refine gv (wW underlying22 I hv') I (go1 ?_);refine gv (qM ((zB Y).length-1) underlying22 sizeOf127 I I hv'.shape oM oM) I ?_;have ad:=hv'.sub (lo:=(zB Y).length-1) (hi:=(zB Y).length) oM oM;rw[zwu (by rw[zhe];omega),zOE oM] at ad;have hgt:=hv'.get32 ((zB Y).length-1);have ej:=kL (n:=(zB Y).getD ((zB Y).length-1) 0) oM;have dx:=aJ (n:=(zB Y).getD ((zB Y).length-1) 0) (k:=32) hgt;refine cL (ev1 I) call139 (λw hs=>zT7 hs ad oM) λdy h3 av br=>?_;subst br;refine gv (jI (p:=32) I I oM oM) I ?_;obtain⟨s,cw⟩:∃s,s=32-wH ((zB Y).getD ((zB Y).length-1) 0):=⟨_,I⟩;rw[show(32:Int)-↑(wH ((zB Y).getD ((zB Y).length-1) 0))=↑s by omega];obtain⟨bo,ac,cu⟩:=zEL (k:=(zB Y).length-1) C oM cw;refine go7 ?_;replace hv':=hv'.mono av;refine cL (ev2 I I) call140 (λw hs=>zT5 hs hv' oM oM) λaq h4 au D=>(go2 ?_);replace hv:=hv.mono ((an.trans av).trans au);refine cL (ev2 I I) call140 (λw hs=>zT5 hs hv oM oM) λcn h5 bi ay=>(go2 ?_);replace D:=D.mono bi;replace ac:(zB (Y*2^s)).length=(zB Y).length:=by omega
 have ck:=tZ (n:=Y*2^s) (k:=(zB Y).length-1) oM;generalize em:(zB Y).length=n at *;obtain⟨V,hV⟩:∃V,V=Y*2^s:=⟨_,I⟩;obtain⟨U,hU⟩:∃U,U=X*2^s:=⟨_,I⟩;rw[<-hV] at D ac cu ck;rw[<-hU] at ay;have cm:=zO3 bz ac;rw[zE] at cm;have ct:=kJ (gZ (xZ V) (n-2));rw[zei,zri oM] at ct;have ew:(zB U).length<=(zB X).length+1:=by rw[hU];exact zci (yH X (2^s)) (Nat.add_le_add_left (uE (k:=1) (by rw[Nat.pow_one];exact zku (ytu dC bo) dC)) _)
 have df:V<=U:=by rw[hV,hU];exact zfu _ cb
 have bx:=zR df;rw[ac] at bx;have cv:=zMW (uM U) ck oM bx;generalize bq:(zB U).length=r at *;have dr:=qE (xZ V) (n-1);refine go6 ?_;rw[ac];refine go7 ?_;rw[bq];refine go3 ?_;refine qQ (kd:=.u32) (by':=4) (r-n+1) underlying22 wS I I I I I oM oM oM oM I ?_;intro G;refine go8 ?_;rw[bq];refine go6 ?_;refine jU (ι:=Nat×Value×Nat×List Nat×Mem) (λ(K,vr,R,qs,k1)=>MLe h5 k1/\(Us .u32 k1 vr (zB R)/\K<=r-n+1/\qs.length=r-n+1-K/\Fit qs/\R+4294967296^K*(val qs*V)=U/\R<4294967296^K*V/\(zB R).length<=r)) (λ(K,vr,R,qs,k1)=>[(1,aq),(4,G),(5,vr),(13,vI ↑s),(14,vI ↑n),(15,vI (↑K-1))]) (λ(K,vr,R,qs,k1)=>[.us 127 .u32 G (gH K qs)]) (λ(K,vr,R,qs,k1)=>k1) (λ(K,vr,R,qs,k1)=>K) (r-n+1,cn,U,[],h5) ?_ ⟨?_,?_,?_,?_,?_,?_,y1i⟩ ?_ I ?_
 ·
  refine⟨MLe.refl _,?_⟩;exact⟨ay,zbe _,by simp,λx hx=>by simp at hx,by simp[val],cv,by omega⟩
 · exact I
 · exact I
 · exact I
 · exact I
 · exact I
 · exact y0e (zbi vI oM)
 ·
  try dsimp only[List.nil_append,List.cons_append]
  exact zbi (λz=>[Res.us 127 .u32 G z]) (aG _)
 rintro⟨K,vr,R,qs,k1⟩ ⟨bc,⟨hR,hK,el,cc,aa,O,ey⟩⟩
 refine yQ ?_;refine gc7 (λch=>?_) λch=>?_
 ·
  refine go6 ?_;refine asg (v:=vU .u64 0) I I (go2 ?_);have ev:=qE (xZ R) (K-1+n);have eu:=qE (xZ R) (K-1+n-1);have dd:=qE (xZ R) (K-1+n-2);refine qK (ι:=Unit) (λ(_u:(Unit))=>True) (λ(_u:(Unit))=>[(1,aq),(4,G),(5,vr),(13,vI ↑s),(14,vI ↑n),(15,vI (↑K-1)),(16,vU .u64 ((zB R).getD (K-1+n) 0))]) (λ(_u:(Unit))=>[.us 127 .u32 G (gH K qs)]) (λ(_u:(Unit))=>k1) ?_ ?_
  ·
   refine zAV (λcg=>?_) λcg=>?_
   ·
    refine go5 ?_;refine gv (zU (K-1+n) underlying22 sizeOf127 I I hR oM oM) I (go4 ?_);refine zS (()) ?_ e7 I I
    trivial
   refine go1 ?_;refine zS (()) ?_ ⟨I,I,I,I,I,I,?_,y1i⟩ I I
   · trivial
   · exact y0e (zbi (vU .u64) (by rw[tO (xs:=zB R) oM]))
  rintro _u cf
  refine yQ ?_;refine qK (ι:=Unit) (λ(_u:(Unit))=>True) (λ(_u:(Unit))=>[(1,aq),(4,G),(5,vr),(13,vI ↑s),(14,vI ↑n),(15,vI (↑K-1)),(16,vU .u64 ((zB R).getD (K-1+n) 0*4294967296+(zB R).getD (K-1+n-1) 0))]) (λ(_u:(Unit))=>[.us 127 .u32 G (gH K qs)]) (λ(_u:(Unit))=>k1) ?_ ?_
  ·
   refine zE9 (λbj=>?_) λbj=>?_
   ·
    refine go2 ?_;refine gv (kW (k:=.u64) (s:=32) (yk:=.u64) (W:=18446744073709551616) I I I I) I (go5 ?_);refine gv (zU (K-1+n-1) underlying22 sizeOf127 I I hR oM oM) I (go2 ?_);refine gv (tU (k:=.u64) I I I (by simp only[ub];omega) (by simp only[ub];omega)) I ?_;rw[rV oM oM];refine go2 ?_;refine zS (()) ?_ e7 I I
    trivial
   refine go2 ?_;refine gv (kW (k:=.u64) (s:=32) (yk:=.u64) (W:=18446744073709551616) I I I I) I (go2 ?_);refine zS (()) ?_ ⟨I,I,I,I,I,I,?_,y1i⟩ I I
   · trivial
   · exact y0e (zbi (vU .u64) (by rw[tO (xs:=zB R) (i:=K-1+n-1) oM];omega))
  rintro _u cf
  refine yQ ?_;have de:V<4294967296^n:=by rw[<-ac];exact uM V
  have dh:R<4294967296^(K+n):=zku O (by rw[zlu];exact znu _ (ydi de));have co:∀i,K+n<=i->(zB R).getD i 0=0:=λi hi=>oH (by rw[zE];exact dh) hi;obtain⟨wr,hW,cq⟩:=zGC (j:=K-1) bz (λi hi=>co i oM) (xZ R);rw[jN (xZ R),zE] at hW;have cl:=zT8 (R:=R) (V:=V) (k:=K-1) (by rw[zyi oM];exact O);obtain⟨top,ax⟩:∃t,t=(zB R).getD (K-1+n) 0*4294967296+(zB R).getD (K-1+n-1) 0:=⟨_,I⟩;rw[<-ax];rw[<-ax] at hW;have ek:top<18446744073709551616:=by omega
  have cd:=zR3 (by rw[hW] at cl ⊢;exact zT9 cm I dd cq oM cl);have dq:0<(zB V).getD (n-1) 0:=by omega
  refine go6 ?_;replace D:=D.mono bc;refine gv (zU (n-1) underlying22 sizeOf127 I I D oM oM) I (go2 ?_);refine gv (cK (k:=.u64) (W:=18446744073709551616) I I I I oM oM) I (gv (zUM (k:=.u64) (q:=4294967295) I I) I ?_);rw[Nat.min_def];rw[<-Nat.min_def];refine go7 ?_;refine gv (wY (k:=.u64) (k':=.u32) (W:=4294967296) underlying130 underlying127 I I I oM) I (cL (ev2 I I) call142 (λw hs=>zRD hs D oM oM) λdp h6 am bh=>?_);have eo:=yH V (min (top/(zB V).getD (n-1) 0) 4294967295);have eq:=kL (n:=min (top/(zB V).getD (n-1) 0) 4294967295) oM;refine go1 ?_;rw[show(↑K:Int)-1=↑(K-1) by omega];refine cL (ev2 I I) call141 (λw hs=>zCG hs bh oM oM) λbm h7 ak bg=>(go5 ?_);refine jU (ι:=Value×Nat×Mem) (λ(vp,d,k2)=>MLe h7 k2/\(Us .u32 k2 vp (zB (V*d*4294967296^(K-1)))/\d<=4294967295/\R<V*(d+1)*4294967296^(K-1))) (λ(vp,d,k2)=>[(1,aq),(4,G),(5,vr),(13,vI ↑s),(14,vI ↑n),(15,vI ↑(K-1)),(17,vU .u64 d),(18,vp)]) (λ(vp,d,k2)=>[.us 127 .u32 G (gH K qs)]) (λ(vp,d,k2)=>k2) (λ(vp,d,k2)=>d) (bm,min (top/(zB V).getD (n-1) 0) 4294967295,h7) ?_ e8 I I ?_
  ·
   refine⟨MLe.refl _,?_⟩;exact⟨bg,Nat.min_le_right _ _,cd⟩
  rintro⟨vp,d,k2⟩ ⟨ab,⟨hp,er,cz⟩⟩
  refine yQ ?_;refine go5 ?_;replace hR:=hR.mono ((am.trans ak).trans ab);refine cL (ev2 I I) call56 (λw hs=>mC hs hp hR) λdn h8 M bf=>?_;subst bf;refine gc3 (λZ=>?_) λZ=>?_
  ·
   have hgt:=zLY.1 Z;have ce:1<=d:=zfe λh0=>by rw[h0,z7u,zvi] at hgt;omega
   obtain⟨db,da⟩:=zYH (V:=V) (p:=4294967296^(K-1)) ce;refine go6 ?_;refine gv (bZ (k:=.u64) (q:=1) (W:=18446744073709551616) I I I I oM oM) I (go7 ?_);replace D:=D.mono (((am.trans ak).trans ab).trans M);refine cL (ev2 I I) call141 (λw hs=>zCG hs D oM oM) λdm h9 ar be=>?_;have en:=zF5 (V*d) (K-1);have dv:=yH V d;have du:=kL (n:=d) oM;replace hp:=hp.mono (M.trans ar);refine cL (ev2 I I) call130 (λw hs=>zBI hs hp be da oM) λbl dj ca ai=>?_;rw[db] at ai;refine go3 ?_;refine qV (bl,d-1,dj) ?_ ?_ e8 I I
   ·
    refine⟨(((ab.trans M).trans ar).trans ca),?_⟩;exact⟨ai,by omega,by rw[zyi ce];exact hgt⟩
   dsimp only;omega
  have aj:V*d*4294967296^(K-1)<=R:=ybe λhc=>Z (zLY.2 hc);refine uQ ?_;refine gv (wY (k:=.u64) (k':=.u32) (W:=4294967296) underlying130 underlying127 I I I oM) I (gv (yP (A:=[]) (K-1) underlying22 sizeOf127 I I oM (by rw[qZ];omega)) I (wF sizeOf127 I I (by rw[qZ];omega) (go5 ?_)));replace hR:=hR.mono M;replace hp:=hp.mono M;refine cL (ev2 I I) call130 (λw hs=>zBI hs hR hp aj oM) λbk h9 ar bd=>(go9 ?_);refine qV (K-1,bk,R-V*d*4294967296^(K-1),d::qs,h9) ?_ ?_ ⟨I,I,I,I,I,?_,y1i⟩ ?_ I
  ·
   refine⟨(((((bc.trans am).trans ak).trans ab).trans M).trans ar),?_⟩;have eK:(4294967296:Nat)^K=4294967296^(K-1)*4294967296:=by rw[<-zke,Nat.succ_eq_add_one,zyi oM]
   rw[eK] at aa;have dw:=zR (yiu R (V*d*4294967296^(K-1)));exact⟨bd,by omega,by simp only[lC];omega,sP.2 ⟨by omega,cc⟩,zYG aa aj,yFZ cz aj,by omega⟩
  ·
   dsimp only;omega
  · exact y0e (zbi vI oM)
  try dsimp only[List.nil_append,List.cons_append]
  rw[aF oM]
 refine go6 ?_;have di:K=0:=by omega
 subst di;rw[cX];rw[yse,yeu] at aa O;refine go2 ?_;refine yK (by exact cc) ?_;intro h6 am hq;refine cL (ev1 I) call91 (λw hs=>fV hs hq oM) λdl h7 ak H=>(go2 ?_);replace hR:=hR.mono (am.trans ak);refine cL (ev2 I I) call143 (λw hs=>zT6 hs hR oM oM) λdk h8 M ah=>(go6 ?_);refine jK I I I I ?_;replace H:=H.mono M;obtain⟨e1,e2⟩:=zQG (X:=X) (Y:=Y) (s:=s) (u:=R) (q:=val qs) oM (by rw[<-hV,<-hU];exact aa) (by rw[<-hV];exact O);rw[e1] at H;rw[e2] at ah;rw[zae C,zae C];exact⟨_,_,I,H,ah⟩
theorem zYJ{v v':Value}{A B:Nat}(hv:Us .u32 h0 v (zB A))(hv':Us .u32 h0 v' (zB B))(hl:(zB A).length<=549755813888)(hl':(zB B).length<=549755813888):
 Calls prog 92 #[v,v'] w0 (Ret w0 h0 (λh r=>Us .u32 h r (zB (Nat.gcd A B)))):=by
 obtain⟨G,hG⟩:∃G,G=Nat.gcd A B:=⟨_,I⟩;rw[<-hG];refine cb2 51 v v' func92 hs ?_;refine go8 ?_;refine cL (ev1 I) call91 (λw hs=>fV hs hv oM) λaj h1 au U=>?_;rw[zE] at U;refine go1 ?_;replace hv':=hv'.mono au;refine cL (ev1 I) call91 (λw hs=>fV hs hv' oM) λai h2 bf O=>?_;rw[zE] at O;refine go6 ?_;refine gcL (ι:=Value×Nat×Value×Nat×Mem) (λ(vx,X,vy,Y,k1)=>(MLe h2 k1/\(Us .u32 k1 vx (zB X)/\Us .u32 k1 vy (zB Y)/\Nat.gcd X Y=G/\(zB X).length<=549755813888/\(zB Y).length<=549755813888),[(0,vx),(1,vy)],[],k1,Y)) (aj,A,ai,B,h2) ?_ ?_
 · exact⟨mle,U.up,O,hG.symm,by omega,by omega⟩
 rintro⟨vx,X,vy,Y,k1⟩ ⟨aw,⟨ha,hb,M,be,aq⟩⟩
 refine yQ ?_;refine gc8 (λah=>?_) λah=>?_
 ·
  have J:Y≠0:=yN.1 oM;refine go6 ?_;refine cL (ev1 I) call137 (λw hs=>iJ hs ha) λba h3 ae ac=>?_;subst ac;refine uQ ?_;replace hb:=hb.mono ae;refine cL (ev1 I) call137 (λw hs=>iJ hs hb) λaz h4 ad ab=>?_;subst ab;refine qG ?_;refine gU 3 32 (vB (((zB X).length<=2)/\((zB Y).length<=2))) ?_ ?_
  ·
   refine yD ((zB X).length<=2) (λM=>?_) (λM=>?_)
   ·
    refine gT M I (go4 ?_);refine gqU ?_;exact y0e (xS M)
   refine gF M I (go3 ?_);refine gqU ?_;exact y0e (xT M)
  refine gc2 (λC=>?_) λC=>?_
  ·
   rw[zau C.1,zau C.2];have an:=aT C.1;have am:=aT C.2;refine go2 ?_;refine gcL (ι:=Nat×Nat) (λ(m,n)=>(Nat.gcd m n=G/\m<18446744073709551616/\n<18446744073709551616,[(5,vU .u64 m),(7,vU .u64 n)],[],h4,n)) (X,Y) ?_ ?_
   · exact⟨M,an,am⟩
   rintro⟨m,n⟩ ⟨Z,hm,hn⟩
   refine yQ ?_;refine go4 ?_;refine gv (fW (k:=.u64) (q:=0) I I) I (gc2 (λH=>?_) λH=>?_)
   ·
    refine go3 ?_;refine zK 6 _ [] (zai 0 6 []) yC nX zot nX (λr hr=>hr) (go3 ?_);refine wK I (λ_ _=>cJ (k:=.u64) I I oM) I (go4 ?_);refine gqL (n,m%n) ?_ ?_
    ·
     have bc:=zcu m (zfe H);exact⟨by rw[nO];exact Z,hn,by omega⟩
    exact zcu _ (zfe H)
   refine go8 ?_;refine cL (ev1 I) call131 (λw hs=>dZ hs oM) λay h5 ar aa=>(go9 ?_);refine zD I I ?_;have ap:n=0:=zdi H;rw[ap,yie] at Z;rw[<-Z];exact aa
  refine go6 ?_;replace ha:=ha.mono (ae.trans ad);replace hb:=hb.mono ad;refine cL (ev2 I I) call93 (λw hs=>zH3 hs ha hb oM oM) λax h5 ar D=>?_;obtain⟨bb,ak,rfl,av,D⟩:=D;rw[zae J] at D;have bd:=zR (ydi (zcu X (zfe J)));refine zBY ?_;refine gqL (vy,Y,ak,X%Y,h5) ?_ ?_
  · exact⟨mle,hb.up,D,by rw[nO];exact M,aq,by omega⟩
  exact zcu _ (zfe J)
 have J:Y=0:=zdu λao=>by have:=yN.2 ao;omega
 refine uV ?_;refine zD I I ?_;rw[J,yie] at M;rw[<-M];exact ha
theorem zPD:
 Calls prog 122 #[] w0 (Ret w0 h0 (λh r=>Us .u32 h r [1])):=by
 refine cb0 2 func122 hs ?_;refine go7 ?_;refine zF (gD (kd:=.u32) (p:=1) underlying22 wS I I I) I I I ?_;intro v1 r1 C;obtain rfl:=C;refine yK (by intro z hz;simp only[zne] at hz;subst hz;decide) ?_;intro h1 D h1;refine go4 ?_;refine zD I I ?_;exact h1
theorem fK{sa:Bool}{vna vda:Value}{na da:List Nat}(hna:Us .u32 h0 vna na)(hda:Us .u32 h0 vda da):
 Calls prog 120 #[.agg #[.bool sa,vna,vda]] w0 (Ret w0 h0 (λh r=>Us .u32 h r (if da=[] then[1] else da))):=by
 refine cb1 10 (.agg #[.bool sa,vna,vda]) func120 hs ?_;refine go2 ?_;refine zF (xM (cs:=[_,_,_]) I I) I I I ?_;intro v1 r1 G;obtain⟨O,rfl,rfl⟩:=G;refine zJA (λD=>?_) λD=>?_
 ·
  refine go2 ?_;refine cL (vs:=[]) trivial call122 (λw hs=>zPD hs) λM h1 J C=>?_;rw[pP] at C;have H:=zAQ;refine go5 ?_;refine zD I I ?_;rw[zau (zof oM),pP];exact C
 refine uQ ?_;refine zD I I ?_;rw[zae (λh=>D (by rw[h];rfl))];exact hda
theorem mD{qa:Rat}{vna vda:Value}(hna:Us .u32 h0 vna (zB qa.num.natAbs))(hda:Us .u32 h0 vda (zB (wC qa.den)))(hl:(zB qa.num.natAbs).length<=1099511627776)(hl':(zB (wC qa.den)).length<=1099511627776):
 Calls prog 185 #[.agg #[vB (qa.num<0),vna,vda]] w0 (Ret w0 h0 (λh r=>wR h r qa)):=by
 refine cb1 12 (.agg #[vB (qa.num<0),vna,vda]) func185 hs ?_;refine go2 ?_;refine zF (xM (cs:=[_,_,_]) I I) I I I ?_;intro v1 r1 aa;obtain⟨b1,rfl,rfl⟩:=aa;refine zF (wG (cs:=[vB ((0:Rat).num<0),.slice none 0 0,.slice none 0 0]) yS I (by simp only[zb];rfl)) I I I ?_;intro v2 r2 Z;obtain⟨b2,rfl,rfl⟩:=Z;refine go3 ?_;refine zK 9 _ [] (zai 0 4 [(5,.q),(6,.q),(4,.c),(7,.c),(8,.c),(9,.t)]) yC nX zot nX (λr hr=>hr) (go6 ?_);refine w_c I ?_;refine pL (vs:=[_]) call103 ⟨I,y1i⟩ (λw hs=>cE hs hna oM) I ?_;intro v7 h1 L7 O U;obtain rfl:=U;refine w_c I ?_;replace hda:=hda.mono O;refine pL (vs:=[_]) call103 ⟨I,y1i⟩ (λw hs=>cE hs hda oM) I ?_;intro H h2 ad M J;obtain rfl:=J;refine w_c I ?_;replace hna:=hna.mono (O.trans M);refine cG (A:=[_]) (by exact hna.lt) (by simp only[zfi,zgi,or_false];rintro r (rfl|rfl) _<;>simp) ?_;intro h3 ac D;replace hda:=hda.mono (M.trans ac);refine cG (A:=[]) (by exact hda.lt) (by simp only[zfi,zgi,or_false];rintro r (rfl|rfl) _<;>simp) ?_;intro h4 ab G;replace D:=D.mono ab;refine zTQ (λX=>yO (ps':=[(0,_),(1,_),(2,_)]) (vs:=[vB (qa.num<0),v7,H]) underlying26 yS I (vQ underlying26) e6 (xD (A:=[]) (B:=[_]) (C:=[_,_]) (cs:=[_]) (off:=0) (size:=1) I I I I I (xD (A:=[_]) (B:=[_]) (C:=[_]) (cs:=[_]) (off:=1) (size:=1) I I I I D.cells (xD (A:=[_,_]) (B:=[_]) (C:=[]) (cs:=[_]) (off:=2) (size:=1) I I I I G.cells uF)))) I (gL (A:=[]) (q':=.var b2 26 [vB (qa.num<0),v7,H]) I (zH (k:=0) (cs:=[_,_,_]) (vs:=[_,_,_]) I I I (ocr I (ocu D (ocu G oc0))) yB (bL I)) I (go3 ?_));refine yG (λE S=>zQ I (xN (cs:=[_,_,_]) mh0 underlying26 I yB I) E S) ?_;exact⟨_,_,I,D,G⟩
theorem s5{v:Value}{xs:List Nat}(hv:Us .u32 h0 v xs)(hl:xs.length<=2):
 Calls prog 163 #[v] w0 (Ret w0 h0 (λ_ r=>r=vU .u64 (val xs))):=by
 have H:Fit xs:=hv.lt;refine cb1 21 v func163 hs ?_;refine go2 ?_;refine asg (v:=vU .u64 0) I I (go4 ?_);refine asg (v:=vU .u64 0) I I (uV ?_);have D:val (xs.drop xs.length)=0:=by rw[zle (zbe _)];rfl
 refine jU (ι:=Nat) (λ(j:(Nat))=>j<=xs.length) (λ(j:(Nat))=>[(0,v),(3,vU .u64 (val (xs.drop j))),(4,vI (↑j-1))]) (λ(j:(Nat))=>[]) (λ(j:(Nat))=>h0) (λ(j:(Nat))=>j) xs.length ?_ ⟨?_,?_,?_,y1i⟩ I I ?_
 · exact zbe _
 · exact I
 · exact y0e (zbi (vU .u64) D.symm)
 · exact I
 rintro j J
 refine yQ ?_;refine gc7 (λG=>?_) λG=>?_
 ·
  refine go6 ?_;refine gv (kW (k:=.u64) (s:=32) (yk:=.u64) (W:=18446744073709551616) I I I I) I (go2 ?_);refine gv (zU (j-1) underlying22 sizeOf127 I I hv oM oM) I (go1 ?_);have C:=hv.get32 (j-1);refine go1 ?_;refine gv (tU (k:=.u64) I I I (by simp only[ub];omega) (by simp only[ub];omega)) I ?_;rw[rV (by
   have h2:=kJ (nQ H j);rw[zhe] at h2;have h3:(4294967296:Nat)^(xs.length-j)<=4294967296^1:=ziu oM oM;omega) C]
  refine go9 ?_;refine qV (j-1) ?_ ?_ ⟨I,?_,?_,y1i⟩ I I
  · omega
  · omega
  ·
   rw[jP xs (j-1) oM];exact y0e (zbi (vU .u64) (by rw[show j-1+1=j by omega];omega))
  · exact y0e (zbi vI oM)
 refine uV ?_;refine zD I I ?_;rw[show j=0 by omega];rfl
theorem zKA{m n:Nat}(hm0:m<18446744073709551616)(hn0:n<18446744073709551616):
 Calls prog 164 #[vU .u64 m,vU .u64 n] w0 (Ret w0 h0 (λ_ r=>r=vU .u64 (Nat.gcd m n))):=by
 refine cb2 12 (vU .u64 m) (vU .u64 n) func164 hs ?_;refine go2 ?_;refine asg (v:=vU .u64 0) I I (go4 ?_);refine gcL (ι:=Nat×Nat) (λ(x,y)=>(Nat.gcd x y=Nat.gcd m n/\x<18446744073709551616/\y<18446744073709551616,[(0,vU .u64 x),(1,vU .u64 y)],[],h0,y)) (m,n) ?_ ?_
 · exact⟨I,hm0,hn0⟩
 rintro⟨x,y⟩ ⟨D,O,J⟩
 refine yQ ?_;refine go4 ?_;refine gv (fW (k:=.u64) (q:=0) I I) I (gc2 (λC=>?_) λC=>?_)
 ·
  refine go3 ?_;refine zK 6 _ [] (zai 0 6 []) yC nX zot nX (λr H=>H) (go3 ?_);refine wK I (λ_ _=>cJ (k:=.u64) I I oM) I (go4 ?_);refine gqL (y,x%y) ?_ ?_
  ·
   have M:=zcu x (zfe C);exact⟨by rw[nO];exact D,J,by omega⟩
  exact zcu _ (zfe C)
 refine uV ?_;refine zD I I ?_;have G:y=0:=zdi C;rw[G,yie] at D;rw[D]
theorem zUA{n:Int}(hn:-9223372036854775808<=n)(hn':n<9223372036854775808):
 Calls prog 121 #[vI n] w0 (Ret w0 h0 (λh r=>Us .u32 h r (zB n.natAbs))):=by
 refine cb1 12 (vI n) func121 hs ?_;refine zJA (λJ=>?_) λJ=>?_
 ·
  have G:n.natAbs=9223372036854775808:=by omega
  refine go2 ?_;refine cL (vs:=[vU .u64 9223372036854775808]) ⟨I,y1i⟩ call167 (λw hs=>nat_of hs oM) λO h1 H D=>(go5 ?_);refine zD I I ?_;rw[G];exact D
 refine go6 ?_;refine gv (nC I oM oM) I (gv (zKG I I) I (gv (y5 (p:=n.natAbs) (k':=.u64) (W:=18446744073709551616) underlying2 underlying130 I I (y0e (zbi vI oM)) oM) I (cL (ev1 I) call167 (λw hs=>nat_of hs oM) λM h1 H C=>(go4 ?_))));refine zD I I ?_;exact C
end
theorem zGO{w0 w:World}{h0 h:Mem}{v u:Value}{xs:List Nat}{L:List Res}{lo n:Nat}(hu:u=fF 1 v lo xs.length)(hlo:lo+2<=xs.length)(hn0:n≠0)(hn:n<18446744073709551616)(hs:St w0 h0 (.us 127 .u32 v xs::L) h w):
 Calls prog 165 #[u,vU .u64 n] w (rG w0 h0 (λg r K=>g=h/\K=.us 127 .u32 v (xs.take lo++zB n++xs.drop (lo+(zB n).length))::L/\r=vI ↑(zB n).length)):=by
 refine kS (n:=17) (e:=[(0,u),(1,vU .u64 n)]) (vs:=[u,vU .u64 n]) func165 rfl rfl (bL rfl) hs e2z (uQ ?_);refine gv (dE (q:=0) mh0 hu (0) underlying22 sizeOf127 I I I oM) I (wF sizeOf127 I I oM (go7 ?_));refine gv (gW (k:=.u64) (q:=0) I I) I (gc2 (λD=>?_) λD=>?_)
 ·
  refine go7 ?_;refine uY I I ?_;have C:n<4294967296:=by omega
  refine⟨I,?_,by rw[jT hn0 C];rfl⟩;rw[zoh C,zmi,putL oM hn0 C]
 refine go8 ?_;refine gv (dE (q:=1) mh0 (by rw[lS];exact hu) (1) underlying22 sizeOf127 I I I (by rw[lS];omega)) I (wF sizeOf127 I I (by simp;omega) (go8 ?_));refine uY I I ?_;have C:4294967296<=n:=by omega
 have G:n/2^32%4294967296=n/4294967296:=by omega
 refine⟨I,?_,?_⟩
 · rw[G,zmi,yF1 hlo hn C]
 · rw[kH oM,jT (t:=n/4294967296) oM oM];rfl
section
variable{w0:World}{h0:Mem}(hs:MLe h0 (mem w0))
include hs
theorem bT{s:Prop}{n d:Nat}(hn:n<18446744073709551616)(hd:d<18446744073709551616)(hd0:d≠0):
 Calls prog 118 #[vB s,vU .u64 n,vU .u64 d] w0 (Ret w0 h0 (λh r=>wR h r (mkRat (sg s n) d))):=by
 refine cb3 50 (vB s) (vU .u64 n) (vU .u64 d) func118 hs ?_;refine go2 ?_;refine zF (wG (cs:=[vB ((0:Rat).num<0),.slice none 0 0,.slice none 0 0]) yS I (by simp only[zb];rfl)) I I I ?_;intro v6 r6 ai;obtain⟨b6,rfl,rfl⟩:=ai;refine go6 ?_;refine gv (gW (k:=.u64) (q:=0) I I) I (gc2 (λM=>?_) λM=>?_)
 ·
  refine go2 ?_;refine gv (yO (ps':=[]) (vs:=[vB ((0:Rat).num<0),.slice none 0 0,.slice none 0 0]) underlying26 yS I (vQ underlying26) trivial (by simp only[zb];exact uF)) I (xY (A:=[]) (r':=.var b6 26 [vB ((0:Rat).num<0),.slice none 0 0,.slice none 0 0]) (zH (k:=0) (cs:=[_,_,_]) (vs:=[_,_,_]) I I I I yB (bL I)) I I I (go4 ?_));refine yG (λE S=>zQ I (xN (cs:=[_,_,_]) mh0 underlying26 I yB I) E S) ?_;rw[M,zAK];exact wR.zero _
 have ab:n≠0:=by omega
 refine go6 ?_;refine cL (ev2 I I) call164 (λw hs=>zKA hs oM oM) λay h1 be Z=>?_;subst Z;refine go1 ?_;have ac:0<Nat.gcd n d:=yhi d oM;have aj:n/Nat.gcd n d≠0:=yku (Nat.div_pos (yyu oM (yri n d)) ac);have ao:d/Nat.gcd n d≠0:=yku (Nat.div_pos (yyu oM (Nat.gcd_dvd_right n d)) ac);have bb:=zki n (Nat.gcd n d);have bf:=zki d (Nat.gcd n d);refine go3 ?_;refine zK 8 _ [] (zai 0 8 []) yC nX zot nX (λr hr=>hr) (go2 ?_);refine wK I (λ_ _=>cK (k:=.u64) (W:=18446744073709551616) I I I I oM oM) I (go2 ?_);refine wK I (λ_ _=>cK (k:=.u64) (W:=18446744073709551616) I I I I oM oM) I (go2 ?_);generalize hA:n/Nat.gcd n d=A at *;generalize hB:d/Nat.gcd n d=B at *;have bd:=kL (n:=A) oM;have bc:=kL (n:=B) oM;refine go4 ?_;refine qQ (kd:=.u32) (by':=4) (q:=4) (q':=4) 4 underlying22 wS I I I I I I I oM oM I ?_;intro D;refine go7 ?_;refine eT (vs:=[_,_]) I I I I call165 e2z (λw hs=>zGO (hs.own_self (.head _)) dC aj oM hs) ?_;intro ax aq au H;obtain⟨e1,e2,H⟩:=H;rw[e1,e2]
 clear e1 e2 aq au
 subst H;rw[show List.take 0 (List.replicate 4 0)++zB A++List.drop (0+(zB A).length) (List.replicate 4 0)=zB A++List.replicate (4-(zB A).length) 0 from by rw[yke,zhu,zue,List.drop_replicate]];have am:(zB A++List.replicate (4-(zB A).length) 0).length=4:=by simp;omega
 refine go9 ?_;refine zV8 (.head _) (λad bg U av=>?_);have J:kU 1 D 0 (zB A).length (zB A).length=.slice (if(zB A).length=0 then ad else ad.map (·.add (0*1))) ((zB A).length-0) ((zB A).length-0):=by rw[U];rfl
 refine gv (zD8 mh0 _ _ underlying22 sizeOf127 I I I I I oM oM) I (gv (yO (ps':=[(0,_),(1,_)]) (vs:=[vB s,kU 1 D 0 _ _,.slice none 0 0]) underlying26 yS I (vQ underlying26) e4z (xD (A:=[]) (B:=[_]) (C:=[_,_]) (cs:=[_]) (off:=0) (size:=1) I I I I I (xD (A:=[_]) (B:=[_]) (C:=[_]) (cs:=[_]) (off:=1) (size:=1) I I I I (by rw[J];rfl) uF))) I (zF (wG (cs:=[vB ((0:Rat).num<0),.slice none 0 0,.slice none 0 0]) yS I (by simp only[zb];rfl)) I I I ?_));intro az ba aa;obtain⟨ah,rfl,rfl⟩:=aa;refine xY (A:=[]) (r':=.var ah 26 [vB s,kU 1 D 0 _ _,.slice none 0 0]) (zH (k:=0) (cs:=[_,_,_]) (vs:=[vB s,kU 1 D 0 _ _,.slice none 0 0]) I I I (by rw[J];rfl) yB (bL I)) I I I (go6 ?_);refine gv (nE (k:=.u64) (q:=1) I I) I (gc2 (λae=>?_) λae=>?_)
 ·
  refine go5 ?_;refine gv (zD7 mh1 _ underlying22 sizeOf127 I I I oM) I (go1 ?_);refine zLL (A:=[_]) ?_;refine eT (vs:=[_,_]) I I I I call165 e2z (λw hs=>zGO (lo:=(zB A).length) zo0 oM ao oM hs) ?_;intro aw ap ar G;obtain⟨e1,e2,G⟩:=G;rw[e1,e2]
  clear e1 e2 ap ar
  subst G;rw[show List.take (zB A).length (zB A++List.replicate (4-(zB A).length) 0)++zB B++List.drop ((zB A).length+(zB B).length) (zB A++List.replicate (4-(zB A).length) 0)=zB A++zB B++List.replicate (4-(zB A).length-(zB B).length) 0 from by simp];have ak:(zB A++zB B++List.replicate (4-(zB A).length-(zB B).length) 0).length=4:=by simp;omega
  refine go9 ?_;have O:kU 1 D (zB A).length ((zB A).length+(zB B).length) ((zB A).length+(zB B).length)=.slice (if(zB A).length+(zB B).length=(zB A).length then ad else ad.map (·.add ((zB A).length*1))) ((zB A).length+(zB B).length-(zB A).length) ((zB A).length+(zB B).length-(zB A).length):=by rw[U];rfl
  refine gv (zFY mh0 ((zB A).length) ((zB A).length+(zB B).length) ((zB A).length+(zB B).length) underlying22 sizeOf127 I I I I oM oM oM oM oM oM) I (go1 ?_);refine xY (A:=[_]) (r':=.var ah 26 [vB s,kU 1 D 0 _ _,kU 1 D ((zB A).length) ((zB A).length+(zB B).length) ((zB A).length+(zB B).length)]) (zH (k:=2) (cs:=[_,_,_]) (vs:=[kU 1 D ((zB A).length) ((zB A).length+(zB B).length) ((zB A).length+(zB B).length)]) I I (by rw[O];rfl) (by rw[O];rfl) zTE (bL I)) I I I (go4 ?_);refine yK (by first|exact vJ (vJ (xZ A) (xZ B)) (qL _)|exact vJ (xZ A) (qL _)) ?_;intro h2 an hz;refine go1 ?_;refine xY (A:=[_]) (r':=.var b6 26 [vB s,kU 1 D 0 _ _,kU 1 D ((zB A).length) ((zB A).length+(zB B).length) ((zB A).length+(zB B).length)]) (zH (k:=0) (cs:=[_,_,_]) (vs:=[vB s,kU 1 D 0 _ _,kU 1 D ((zB A).length) ((zB A).length+(zB B).length) ((zB A).length+(zB B).length)]) I I I (by rw[J,O];rfl) yB (bL I)) I I I (go3 ?_);refine yG (λE S=>zQ I (xN (cs:=[_,_,_]) mh1 underlying26 I yB I) E S) ?_;have z1:=hz.sub3 (lo:=0) (hi:=(zB A).length) (mx:=(zB A).length) oM oM oM;have z2:=hz.sub3 (lo:=(zB A).length) (hi:=(zB A).length+(zB B).length) (mx:=(zB A).length+(zB B).length) oM oM oM;refine wR.make ab hd0 ?_ ?_
  · rw[hA];simpa using z1
  · rw[hB];rw[bQ oM];simpa using z2
 refine go4 ?_;refine zF8 (by first|exact vJ (vJ (xZ A) (xZ B)) (qL _)|exact vJ (xZ A) (qL _)) ?_;intro h2 an hz;refine go1 ?_;refine xY (A:=[_]) (r':=.var b6 26 [vB s,kU 1 D 0 _ _,.slice none 0 0]) (zH (k:=0) (cs:=[_,_,_]) (vs:=[vB s,kU 1 D 0 _ _,.slice none 0 0]) I I I (by rw[J];rfl) yB (bL I)) I I I (go3 ?_);refine yG (λE S=>zQ I (xN (cs:=[_,_,_]) mh1 underlying26 I yB I) E S) ?_;have z1:=hz.sub3 (lo:=0) (hi:=(zB A).length) (mx:=(zB A).length) oM oM oM;refine wR.make ab hd0 ?_ ?_
 · rw[hA];simpa using z1
 · rw[hB];rw[show B=1 by omega,cY,yR];exact Us.nil _ _
theorem rI{qa:Rat}{vna vda:Value}(hna:Us .u32 h0 vna (zB qa.num.natAbs))(hda:Us .u32 h0 vda (zB (wC qa.den))):
 Calls prog 117 #[.agg #[vB (qa.num<0),vna,vda]] w0 (Ret w0 h0 (λ_ r=>r=.tuple #[vU .u64 (pN qa),vU .u64 (pD qa),vB (tF qa)])):=by
 refine cb1 30 (.agg #[vB (qa.num<0),vna,vda]) func117 hs ?_;refine go2 ?_;refine zF (xM (cs:=[_,_,_]) I I) I I I ?_;intro v1 r1 Z;obtain⟨b1,rfl,rfl⟩:=Z;refine asg (v:=vU .u64 0) I I (asg (v:=vU .u64 0) I I (uQ ?_));refine gU 6 14 (vB (((1:Int)<(↑(zB qa.num.natAbs).length:Int))\/((1:Int)<(↑(zB (wC qa.den)).length:Int)))) ?_ ?_
 ·
  refine yD ((1:Int)<(↑(zB qa.num.natAbs).length:Int)) (λO=>?_) (λO=>?_)
  ·
   refine gT O I (go6 ?_);refine gqU ?_;exact y0e (vV O)
  refine gF O I (uQ ?_);refine gqU ?_;exact y0e (vW O)
 refine gc2 (λH=>?_) λH=>?_
 ·
  have J:¬tF qa:=zMM H;refine go2 ?_;refine asg (v:=vU .u64 0) I I (asg (v:=vU .u64 0) I I (go5 ?_));refine jK I I I I ?_;rw[pN_f J,pD_f J,yV J]
 have C:tF qa:=zQ3 H;have ab:=fI C;have ac:=fJ C;refine go4 ?_;refine asg (v:=vU .u64 1) I I (zE9 (λG=>?_) λG=>?_)
 ·
  have M:(zB (wC qa.den)).getD 0 0=qa.den:=zWN G;refine go3 ?_;refine gv (zU (q:=0) (0) underlying22 sizeOf127 I I hda I oM) I (go1 ?_);rw[M];refine go8 ?_;refine cL (ev1 I) call163 (λw hs=>s5 hs hna oM) λU h1 aa D=>?_
  try simp only[zE] at D
  subst D;refine go2 ?_;refine gv (OpV.tr (by have:=qa.den_nz;omega) (fW (k:=.u64) (q:=0) I I)) I (go6 ?_);refine jK I I I I ?_;rw[zFW C,zFX C,xR C]
 have M:qa.den=1:=zWO G C;refine go6 ?_;refine cL (ev1 I) call163 (λw hs=>s5 hs hna oM) λU h1 aa D=>?_
 try simp only[zE] at D
 subst D;refine go2 ?_;refine gv (OpV.tr (by have:=qa.den_nz;omega) (fW (k:=.u64) (q:=0) I I)) I (go6 ?_);refine jK I I I I ?_;rw[zFW C,zFX C,xR C,M]
theorem jV{s:Prop}{vn vd:Value}{xs ys:List Nat}(hn:Us .u32 h0 vn xs)(hd:Us .u32 h0 vd ys)(hl:xs.length<=1000000000000)(hl':ys.length<=1000000000000):
 Calls prog 119 #[vB s,vn,vd] w0 (Ret w0 h0 (λh r=>wR h r (mkRat (sg s (val xs)) (val ys)))):=by
 have cj:=gJ (n:=val xs);have ci:=gJ (n:=val ys);have cd:=vC hn.lt;have cc:=vC hd.lt;refine cb3 68 (vB s) vn vd func119 hs ?_;refine go2 ?_;refine zF (wG (cs:=[vB ((0:Rat).num<0),.slice none 0 0,.slice none 0 0]) yS I (by simp only[zb];rfl)) I I I ?_;intro v6 r6 bj;obtain⟨b6,rfl,rfl⟩:=bj;refine go6 ?_;refine cL (ev1 I) call94 (λw hs=>cS hs hn oM) λv9 h1 am bd=>?_
 try simp only[zE] at bd
 subst bd;refine go1 ?_;refine uZ (ι:=Mem) 5 (λm_=>MLe h1 m_) (λ_=>[(15,vB (((↑(wH (val (xs))):Int)=(0:Int))\/((↑(wH (val (ys))):Int)=(0:Int)))),(0,vB s),(1,vn),(2,vd),(6,vP b6 0)]) (λ_=>[.var b6 26 [vB ((0:Rat).num<0),.slice none 0 0,.slice none 0 0]]) (λm_=>m_) ?_ ?_
 ·
  refine yD ((↑(wH (val (xs))):Int)=(0:Int)) (λM=>?_) (λM=>?_)
  ·
   refine gT M I (go5 ?_);refine zS h1 (MLe.refl _) ⟨?_,I,I,I,I,y1i⟩ I I;exact y0e (vV M)
  refine gF M I (go3 ?_);replace hd:=hd.mono am;refine cL (ev1 I) call94 (λw hs=>cS hs hd oM) λbv h2 Z aw=>?_
  try simp only[zE] at aw
  subst aw;refine go4 ?_;refine zS h2 Z ⟨?_,I,I,I,I,y1i⟩ I I;exact y0e (vW M)
 intro bi H;refine sD ?_;refine gc2 (λac=>?_) λac=>?_
 ·
  refine go2 ?_;refine gv (yO (ps':=[]) (vs:=[vB ((0:Rat).num<0),.slice none 0 0,.slice none 0 0]) underlying26 yS I (vQ underlying26) trivial (by simp only[zb];exact uF)) I (xY (A:=[]) (r':=.var b6 26 [vB ((0:Rat).num<0),.slice none 0 0,.slice none 0 0]) (zH (k:=0) (cs:=[_,_,_]) (vs:=[_,_,_]) I I I I yB (bL I)) I I I (go4 ?_));refine yG (λE S=>zQ I (xN (cs:=[_,_,_]) mh0 underlying26 I yB I) E S) ?_
  rcases ac with h|h
  · rw[show val xs=0 by omega,zAK];exact wR.zero _
  · rw[show val ys=0 by omega,zAJ];exact wR.zero _
 have ao:val xs≠0:=λh=>ac (.inl oM);have aq:val ys≠0:=λh=>ac (.inr oM);replace hn:=hn.mono (am.trans H);refine go8 ?_;refine gU 5 24 (vB (((↑(xs).length:Int)<=(2:Int))/\((↑(ys).length:Int)<=(2:Int)))) ?_ ?_
 ·
  refine yD ((↑(xs).length:Int)<=(2:Int)) (λM=>?_) (λM=>?_)
  ·
   refine gT M I ?_;replace hd:=hd.mono (am.trans H);refine go8 ?_;refine gqU ?_;exact y0e (xS M)
  refine gF M I (go5 ?_);refine gqU ?_;exact y0e (xT M)
 refine gc2 (λbh=>?_) λbh=>?_
 ·
  have cb:=aT (n:=val xs) oM;have ch:=aT (n:=val ys) oM;refine go4 ?_;refine cL (ev1 I) call163 (λw hs=>s5 hs hn oM) λbu h2 Z av=>?_
  try simp only[zE] at av
  subst av;refine go1 ?_;replace hd:=hd.mono ((am.trans H).trans Z);refine cL (ev1 I) call163 (λw hs=>s5 hs hd oM) λbt h3 ad au=>?_
  try simp only[zE] at au
  subst au;refine cL (ev3 I I I) call118 (λw hs=>bT hs oM oM oM) λbs h4 ak be=>?_;obtain⟨bb,bc,rfl,ax,ay⟩:=be;refine xY (A:=[]) (r':=.var b6 26 [vB ((mkRat (sg (s) (val (xs))) (val (ys))).num<0),bb,bc]) (zH (k:=0) (cs:=[_,_,_]) (vs:=[_,_,_]) I I I (ocr I (ocu ax (ocu ay oc0))) yB (bL I)) I I I (go4 ?_);refine yG (λE S=>zQ I (xN (cs:=[_,_,_]) mh0 underlying26 I yB I) E S) ?_;exact⟨_,_,I,ax,ay⟩
 refine go7 ?_;replace hd:=hd.mono (am.trans H);refine cL (ev2 I I) call166 (λw hs=>zY4 hs hn hd oM oM) λbr h2 Z J=>?_
 try simp only[zE] at J
 have bm:=dG (val (xs)) (val (ys));have bg:Nat.gcd (val xs) (val ys)≠0:=yku (yhi _ oM);have cg:=zR (yyu oM (yri (val xs) (val ys)));refine go6 ?_;refine cL (ev1 I) call94 (λw hs=>cS hs J oM) λbq h3 ad ar=>?_
 try simp only[zE] at ar
 subst ar;refine gc3 (λan=>?_) λan=>?_
 ·
  refine go4 ?_;replace hn:=hn.mono (Z.trans ad);replace J:=J.mono ad;refine cL (ev2 I I) call147 (λw hs=>iO hs hn J oM oM) λbp h4 ak aj=>?_;obtain⟨ca,bx,rfl,ab,aj⟩:=aj
  try simp only[zE] at ab aj ⊢
  have bl:=zR (zki (val (xs)) (((Nat.gcd (val (xs)) (val (ys))))));have cf:=zR (zki (val xs) (Nat.gcd (val xs) (val ys)));refine uQ ?_;replace hd:=hd.mono ((Z.trans ad).trans ak);replace J:=J.mono ak;refine cL (ev2 I I) call147 (λw hs=>iO hs hd J oM oM) λbo h5 ap ai=>?_;obtain⟨bz,bw,rfl,aa,ai⟩:=ai
  try simp only[zE] at aa ai ⊢
  have bk:=zR (zki (val (ys)) (((Nat.gcd (val (xs)) (val (ys))))));have ce:=zR (zki (val ys) (Nat.gcd (val xs) (val ys)));refine uQ ?_;replace ab:=ab.mono ap;refine cL (ev2 I I) call100 (λw hs=>aQ hs ab (Us.nil _ _) zo4 zo4) λU h6 bn D=>?_
  try simp only[zE] at D
  have ba:=uJ ((((val (xs))/(((Nat.gcd (val (xs)) (val (ys)))))))) (val ([]));refine go1 ?_;replace aa:=aa.mono bn;refine cL (ev2 I I) call100 (λw hs=>aQ hs aa (Us.nil _ _) zo4 zo4) λah h7 bf G=>?_
  try simp only[zE] at G
  have az:=uJ ((((val (ys))/(((Nat.gcd (val (xs)) (val (ys)))))))) (val ([]));refine uQ ?_;refine gU 6 63 (vB (((↑(zB (((((val (ys))/(((Nat.gcd (val (xs)) (val (ys))))))))+(val ([])))).length:Int)=(1:Int))/\(((zB (((((val (ys))/(((Nat.gcd (val (xs)) (val (ys))))))))+(val ([])))).getD (0) 0)=(1:Nat)))) ?_ ?_
  ·
   refine yD ((↑(zB (((((val (ys))/(((Nat.gcd (val (xs)) (val (ys))))))))+(val ([])))).length:Int)=(1:Int)) (λM=>?_) (λM=>?_)
   ·
    refine gT M I (go3 ?_);refine gv (zU (q:=0) (0) underlying22 sizeOf127 I I G I oM) I (go3 ?_);refine gv (gW (k:=.u32) (q:=1) I I) I (go2 ?_);refine gqU ?_;exact y0e (xS M)
   refine gF M I (go6 ?_);refine gqU ?_;exact y0e (xT M)
  refine gc2 (λO=>?_) λO=>?_
  ·
   refine go9 ?_;replace D:=D.mono bf;refine gv (yO (ps':=[(0,_),(1,_),(2,_)]) (vs:=[vB s,U,.slice none 0 0]) underlying26 yS I (vQ underlying26) e6 (xD (A:=[]) (B:=[_]) (C:=[_,_]) (cs:=[_]) (off:=0) (size:=1) I I I I I (xD (A:=[_]) (B:=[_]) (C:=[_]) (cs:=[_]) (off:=1) (size:=1) I I I I D.cells (xD (A:=[_,_]) (B:=[_]) (C:=[]) (cs:=[_]) (off:=2) (size:=1) I I I I I uF)))) I (xY (A:=[]) (r':=.var b6 26 [vB s,U,.slice none 0 0]) (zH (k:=0) (cs:=[_,_,_]) (vs:=[_,_,_]) I I I (ocr I (ocu D (ocr I oc0))) yB (bL I)) I I I (go3 ?_));refine yG (λE S=>zQ I (xN (cs:=[_,_,_]) mh0 underlying26 I yB I) E S) ?_;exact wR.fin1 ao aq D O
  refine go7 ?_;replace D:=D.mono bf;refine gv (yO (ps':=[(0,_),(1,_),(2,_)]) (vs:=[vB s,U,ah]) underlying26 yS I (vQ underlying26) e6 (xD (A:=[]) (B:=[_]) (C:=[_,_]) (cs:=[_]) (off:=0) (size:=1) I I I I I (xD (A:=[_]) (B:=[_]) (C:=[_]) (cs:=[_]) (off:=1) (size:=1) I I I I D.cells (xD (A:=[_,_]) (B:=[_]) (C:=[]) (cs:=[_]) (off:=2) (size:=1) I I I I G.cells uF)))) I (xY (A:=[]) (r':=.var b6 26 [vB s,U,ah]) (zH (k:=0) (cs:=[_,_,_]) (vs:=[_,_,_]) I I I (ocr I (ocu D (ocu G oc0))) yB (bL I)) I I I (go3 ?_));refine yG (λE S=>zQ I (xN (cs:=[_,_,_]) mh0 underlying26 I yB I) E S) ?_;exact wR.fin ao aq D G O
 refine go5 ?_;replace hn:=hn.mono (Z.trans ad);refine cL (ev2 I I) call100 (λw hs=>aQ hs hn (Us.nil _ _) zo4 zo4) λU h4 ak D=>?_
 try simp only[zE] at D
 have ba:=uJ (val (xs)) (val ([]));refine go1 ?_;replace hd:=hd.mono ((Z.trans ad).trans ak);refine cL (ev2 I I) call100 (λw hs=>aQ hs hd (Us.nil _ _) zo4 zo4) λah h5 ap G=>?_
 try simp only[zE] at G
 have az:=uJ (val (ys)) (val ([]));refine uQ ?_;refine gU 6 63 (vB (((↑(zB ((val (ys))+(val ([])))).length:Int)=(1:Int))/\(((zB ((val (ys))+(val ([])))).getD (0) 0)=(1:Nat)))) ?_ ?_
 ·
  refine yD ((↑(zB ((val (ys))+(val ([])))).length:Int)=(1:Int)) (λM=>?_) (λM=>?_)
  ·
   refine gT M I (go3 ?_);refine gv (zU (q:=0) (0) underlying22 sizeOf127 I I G I oM) I (go3 ?_);refine gv (gW (k:=.u32) (q:=1) I I) I (go2 ?_);refine gqU ?_;exact y0e (xS M)
  refine gF M I (go6 ?_);refine gqU ?_;exact y0e (xT M)
 refine gc2 (λO=>?_) λO=>?_
 ·
  refine go9 ?_;replace D:=D.mono ap;refine gv (yO (ps':=[(0,_),(1,_),(2,_)]) (vs:=[vB s,U,.slice none 0 0]) underlying26 yS I (vQ underlying26) e6 (xD (A:=[]) (B:=[_]) (C:=[_,_]) (cs:=[_]) (off:=0) (size:=1) I I I I I (xD (A:=[_]) (B:=[_]) (C:=[_]) (cs:=[_]) (off:=1) (size:=1) I I I I D.cells (xD (A:=[_,_]) (B:=[_]) (C:=[]) (cs:=[_]) (off:=2) (size:=1) I I I I I uF)))) I (xY (A:=[]) (r':=.var b6 26 [vB s,U,.slice none 0 0]) (zH (k:=0) (cs:=[_,_,_]) (vs:=[_,_,_]) I I I (ocr I (ocu D (ocr I oc0))) yB (bL I)) I I I (go3 ?_));refine yG (λE S=>zQ I (xN (cs:=[_,_,_]) mh0 underlying26 I yB I) E S) ?_;have ae:=zHO an bg;exact wR.fin1 ao aq (by rw[ae,z2i];exact D) (by rw[ae,z2i];exact O)
 refine go7 ?_;replace D:=D.mono ap;refine gv (yO (ps':=[(0,_),(1,_),(2,_)]) (vs:=[vB s,U,ah]) underlying26 yS I (vQ underlying26) e6 (xD (A:=[]) (B:=[_]) (C:=[_,_]) (cs:=[_]) (off:=0) (size:=1) I I I I I (xD (A:=[_]) (B:=[_]) (C:=[_]) (cs:=[_]) (off:=1) (size:=1) I I I I D.cells (xD (A:=[_,_]) (B:=[_]) (C:=[]) (cs:=[_]) (off:=2) (size:=1) I I I I G.cells uF)))) I (xY (A:=[]) (r':=.var b6 26 [vB s,U,ah]) (zH (k:=0) (cs:=[_,_,_]) (vs:=[_,_,_]) I I I (ocr I (ocu D (ocu G oc0))) yB (bL I)) I I I (go3 ?_));refine yG (λE S=>zQ I (xN (cs:=[_,_,_]) mh0 underlying26 I yB I) E S) ?_;have ae:=zHO an bg;exact wR.fin ao aq (by rw[ae,z2i];exact D) (by rw[ae,z2i];exact G) (by rw[ae,z2i];exact O)
theorem zJU{v v':Value}{xs ys:List Nat}(hv:Us .u32 h0 v xs)(hv':Us .u32 h0 v' ys):
 Calls prog 161 #[v,v'] w0 (Ret w0 h0 (λ_ r=>r=vB (xs=ys))):=by
 have O:=hv.lt63;have M:=hv'.lt63;refine cb2 26 v v' func161 hs ?_;refine qG ?_;refine gv (wW underlying22 I hv') I (gc3 (λD=>?_) λD=>?_)
 ·
  refine go7 ?_;refine zD I I ?_;rw[yV (λe=>D (by rw[e]))]
 have J:xs.length=ys.length:=by omega
 refine qG ?_;refine gcL (ι:=Nat) (λ(i:(Nat))=>(i<=xs.length/\xs.take i=ys.take i,[(0,v),(1,v'),(12,vI ↑xs.length),(13,vI ↑i)],[],h0,xs.length-i)) 0 ?_ ?_
 · exact⟨by omega,by simp⟩
 rintro i ⟨hi,H⟩
 refine yQ ?_;refine gc6 (λG=>?_) λG=>?_
 ·
  refine qG ?_;refine zK 9 _ [] (zai 0 9 []) yC nX zot nX (λr U=>U) (go2 ?_);refine w_q I (λh' L' hh hR=>zU (i) underlying22 sizeOf127 I I (hv.mono hh) oM oM) I (w_q I (λh' L' hh hR=>xO isAgg127 I (hv.mono hh) oM) I (go2 ?_));refine w_q I (λh' L' hh hR=>zU (i) underlying22 sizeOf127 I I (hv'.mono hh) oM oM) I (w_q I (λh' L' hh hR=>xO isAgg127 I (hv'.mono hh) oM) I (gc3 (λC=>?_) λC=>?_))
  ·
   refine qG ?_;refine zD I I ?_;rw[yV (λe=>C (by rw[e]))]
  refine go7 ?_;refine gqL (i+1) ?_ ?_ (he:=⟨I,I,I,?_,y1i⟩)
  ·
   refine⟨by omega,?_⟩;rw[iE xs i oM,iE ys i oM,H];have e:=zdi C;rw[e]
  · omega
  · exact y0e (zbi vI oM)
 refine qG ?_;refine zD I I ?_;have Z:xs=ys:=by
  have e:i=xs.length:=by omega
  rw[e,zze,J,zze] at H;exact H
 rw[xR Z]
theorem s6{qa:Rat}{vna vda:Value}(hna:Us .u32 h0 vna (zB qa.num.natAbs))(hda:Us .u32 h0 vda (zB (wC qa.den)))(hqa:lq qa<=100000000000):
 Calls prog 51 #[.agg #[vB (qa.num<0),vna,vda]] w0 (Ret w0 h0 (λ_ r=>r=vI (yW qa))):=by
 have J:=wM qa;have M:=wU qa;have O:=wI qa;refine cb1 11 (.agg #[vB (qa.num<0),vna,vda]) func51 hs ?_;refine go2 ?_;refine zF (xM (cs:=[_,_,_]) I I) I I I ?_;intro v1 r1 H;obtain⟨b1,rfl,rfl⟩:=H;refine go9 ?_;refine cL (ev1 I) call94 (λw hs=>cS hs hna oM) λZ h1 U G=>?_
 try simp only[zE] at G
 subst G;refine gc4 (λD=>?_) λD=>?_
 ·
  refine go8 ?_;refine zD I I ?_;rw[lM (zF3 D)]
 refine gc7 (λC=>?_) λC=>?_
 ·
  refine go8 ?_;refine zD I I ?_;rw[t8 C]
 refine go9 ?_;refine zD I I ?_;rw[t7 (λh=>D (zGA h)) C]
theorem zPE{qa:Rat}{vna vda:Value}(hna:Us .u32 h0 vna (zB qa.num.natAbs))(hda:Us .u32 h0 vda (zB (wC qa.den))){qb:Rat}{vnb vdb:Value}(hnb:Us .u32 h0 vnb (zB qb.num.natAbs))(hdb:Us .u32 h0 vdb (zB (wC qb.den)))(hqa:lq qa<=100000000000)(hqb:lq qb<=100000000000):
 Calls prog 184 #[.agg #[vB (qa.num<0),vna,vda],.agg #[vB (qb.num<0),vnb,vdb]] w0 (Ret w0 h0 (λ_ r=>r=vI (wQ qa qb))):=by
 have bo:=wM qa;have bq:=wU qa;have bs:=wI qa;have bn:=wM qb;have bp:=wU qb;have br:=wI qb;refine cb2 80 (.agg #[vB (qa.num<0),vna,vda]) (.agg #[vB (qb.num<0),vnb,vdb]) func184 hs ?_;refine go2 ?_;refine zF (xM (cs:=[_,_,_]) I I) I I I ?_;intro v2 r2 bg;obtain⟨b2,rfl,rfl⟩:=bg;refine zF (xM (cs:=[_,_,_]) I I) I I I ?_;intro v3 r3 bf;obtain⟨b3,rfl,rfl⟩:=bf;refine go5 ?_;refine zK 6 _ [] [(0,.q),(2,.q),(1,.c),(3,.c),(4,.q),(5,.q)] yC nX zot nX (λr hr=>hr) (go2 ?_);refine w_c I (sC (ev1 I) call51 (λw hs=>s6 hs hna hda oM) λcf h1 ae ay=>?_);have bc:=wB qa;subst ay;refine w_c I ?_;replace hnb:=hnb.mono ae;replace hdb:=hdb.mono ae;refine sC (ev1 I) call51 (λw hs=>s6 hs hnb hdb oM) λce h2 M ax=>?_;have bb:=wB qb;subst ax;refine zE9 (λJ=>?_) λJ=>?_
 ·
  refine gc8 (λZ=>?_) λZ=>?_
  ·
   refine go8 ?_;refine zD I I ?_;rw[zAZ J,zau Z]
  refine go9 ?_;refine zD I I ?_;rw[zAZ J,zae Z]
 have ar:=zJW J;refine go7 ?_;refine qK (ι:=Mem) (λ(mc:(Mem))=>MLe h2 mc/\(True)) (λ(mc:(Mem))=>[(2,vP b2 0),(7,vI (cN qa qb))]) (λ(mc:(Mem))=>[.var b3 26 [vB (qb.num<0),vnb,vdb],.var b2 26 [vB (qa.num<0),vna,vda]]) (λ(mc:(Mem))=>mc) ?_ ?_
 ·
  refine go3 ?_;replace hna:=hna.mono (ae.trans M);replace hda:=hda.mono (ae.trans M);refine cL (ev1 I) call117 (λw hs=>rI hs hna hda) λcd h3 D aw=>?_;subst aw;refine iV ?_;replace hda:=hda.mono D;replace hdb:=hdb.mono (M.trans D);refine cL (ev2 I I) call161 (λw hs=>zJU hs hda hdb) λcc h4 C av=>?_;subst av;refine gc2 (λap=>?_) λap=>?_
  ·
   refine go5 ?_;replace hna:=hna.mono (D.trans C);replace hnb:=hnb.mono ((M.trans D).trans C);refine cL (ev2 I I) call98 (λw hs=>iP hs hna hnb) λcb h5 G am=>?_
   try simp only[zE] at am
   subst am;refine go2 ?_;refine zS (h5) ?_ ⟨I,?_,y1i⟩ I I
   ·
    refine⟨((D.trans C).trans G),?_⟩
    trivial
   · exact y0e (zbi vI ((yE0 ap).symm))
  refine go3 ?_;replace hnb:=hnb.mono ((M.trans D).trans C);replace hdb:=hdb.mono C;refine cL (ev1 I) call117 (λw hs=>rI hs hnb hdb) λca h5 G au=>?_;subst au;refine uV ?_;refine gU 3 49 (vB ((tF qa)/\(tF qb))) ?_ ?_
  ·
   refine yD (tF qa) (λhg=>?_) (λhg=>?_)
   ·
    refine gT hg I (go4 ?_);refine gqU ?_;exact y0e (xS hg)
   refine gF hg I (go3 ?_);refine gqU ?_;exact y0e (xT hg)
  refine gc2 (λU=>?_) λU=>?_
  ·
   have ab:=U.1;have aa:=U.2;have bi:=fI ab;have be:=fJ ab;have bh:=fI aa;have bd:=fJ aa;have ch:=qS bi bd;have cg:=qS bh be;rw[zFW ab,zFX ab,zFW aa,zFX aa];refine zE9 (λao=>?_) λao=>?_
   ·
    refine go3 ?_;refine zS (h5) ?_ ⟨I,?_,y1i⟩ I I
    ·
     refine⟨((D.trans C).trans G),?_⟩
     trivial
    · exact y0e (zbi vI ((zA0 ao).symm))
   refine zE9 (λan=>?_) λan=>?_
   ·
    refine go3 ?_;refine zS (h5) ?_ ⟨I,?_,y1i⟩ I I
    ·
     refine⟨((D.trans C).trans G),?_⟩
     trivial
    · exact y0e (zbi vI ((zA1 an).symm))
   refine go1 ?_;refine zS (h5) ?_ ⟨I,?_,y1i⟩ I I
   ·
    refine⟨((D.trans C).trans G),?_⟩
    trivial
   · exact y0e (zbi vI ((zB3.2 oM).symm))
  refine zK 12 _ [] [(0,.q),(1,.q),(2,.q),(5,.q),(6,.q),(7,.q),(3,.c),(4,.c),(8,.c),(9,.c),(10,.c),(11,.q)] yC nX zot nX (λr hr=>hr) (go6 ?_);refine w_c I ?_;replace hnb:=hnb.mono G;replace hdb:=hdb.mono G;refine sC (ev1 I) call120 (λw hs=>fK hs hnb hdb) λbz h6 ad ak=>?_;rw[uP] at ak;refine w_c I ?_;replace hna:=hna.mono (((D.trans C).trans G).trans ad);refine sC (ev2 I I) call99 (λw hs=>tE hs hna ak oM oM) λbx h7 ac H=>?_
  try simp only[zE] at H
  have bk:=yH ((qa.num.natAbs)) ((qb.den));refine w_c I ?_;replace hna:=hna.mono ac;replace hda:=hda.mono (((C.trans G).trans ad).trans ac);refine sC (ev1 I) call120 (λw hs=>fK hs hna hda) λbw h8 aq aj=>?_;rw[uP] at aj;refine w_c I ?_;replace hnb:=hnb.mono ((ad.trans ac).trans aq);refine sC (ev2 I I) call99 (λw hs=>tE hs hnb aj oM oM) λbv h9 az ai=>?_
  try simp only[zE] at ai
  have bj:=yH ((qb.num.natAbs)) ((qa.den));refine w_c I ?_;replace H:=H.mono (aq.trans az);refine sC (ev2 I I) call98 (λw hs=>iP hs H ai) λbu bl ba ah=>?_
  try simp only[zE] at ah
  subst ah;refine go2 ?_;refine zS (bl) ?_ e2z I I;refine⟨(((((((D.trans C).trans G).trans ad).trans ac).trans aq).trans az).trans ba),?_⟩
  trivial
 rintro mc ⟨bm,bt⟩
 refine yQ ?_;have ci:=zL2 qa qb;refine gc7 (λO=>?_) λO=>?_
 ·
  refine go3 ?_;refine gv (nC I oM oM) I (go5 ?_);refine zD I I ?_;rw[zQI ar O]
 refine go9 ?_;refine zD I I ?_;rw[zLX ar O]
theorem zYO{qa:Rat}{vna vda:Value}(hna:Us .u32 h0 vna (zB qa.num.natAbs))(hda:Us .u32 h0 vda (zB (wC qa.den))){qb:Rat}{vnb vdb:Value}(hnb:Us .u32 h0 vnb (zB qb.num.natAbs))(hdb:Us .u32 h0 vdb (zB (wC qb.den)))(hqa:lq qa<=100000000000)(hqb:lq qb<=100000000000):
 Calls prog 76 #[.agg #[vB (qa.num<0),vna,vda],.agg #[vB (qb.num<0),vnb,vdb]] w0 (Ret w0 h0 (λh r=>wR h r (qa*qb))):=by
 have bm:=wM qa;have bo:=wU qa;have bq:=wI qa;have bl:=wM qb;have bn:=wU qb;have bp:=wI qb;rw[<-zU9];refine cb2 64 (.agg #[vB (qa.num<0),vna,vda]) (.agg #[vB (qb.num<0),vnb,vdb]) func76 hs ?_;refine go2 ?_;refine zF (xM (cs:=[_,_,_]) I I) I I I ?_;intro v2 r2 bk;obtain⟨b2,rfl,rfl⟩:=bk;refine zF (xM (cs:=[_,_,_]) I I) I I I ?_;intro v3 r3 bj;obtain⟨b3,rfl,rfl⟩:=bj;refine zF (wG (cs:=[vB ((0:Rat).num<0),.slice none 0 0,.slice none 0 0]) yS I (by simp only[zb];rfl)) I I I ?_;intro v4 r4 bi;obtain⟨b4,rfl,rfl⟩:=bi;refine go9 ?_;refine gU 6 20 (vB (((↑(zB qa.num.natAbs).length:Int)=(0:Int))\/((↑(zB qb.num.natAbs).length:Int)=(0:Int)))) ?_ ?_
 ·
  refine yD ((↑(zB qa.num.natAbs).length:Int)=(0:Int)) (λhg=>?_) (λhg=>?_)
  ·
   refine gT hg I (go6 ?_);refine gqU ?_;exact y0e (vV hg)
  refine gF hg I (uQ ?_);refine gqU ?_;exact y0e (vW hg)
 refine gc2 (λao=>?_) λao=>?_
 ·
  refine go2 ?_;refine gv (yO (ps':=[]) (vs:=[vB ((0:Rat).num<0),.slice none 0 0,.slice none 0 0]) underlying26 yS I (vQ underlying26) trivial (by simp only[zb];exact uF)) I (xY (A:=[]) (r':=.var b4 26 [vB ((0:Rat).num<0),.slice none 0 0,.slice none 0 0]) (zH (k:=0) (cs:=[_,_,_]) (vs:=[_,_,_]) I I I I yB (bL I)) I I I (go4 ?_));refine yG (λE S=>zQ I (xN (cs:=[_,_,_]) mh0 underlying26 I yB I) E S) ?_
  rcases ao with h|h
  · rw[cR h,show(0:Rat).num.natAbs=0 from I,zvi,zAK];exact wR.zero _
  · rw[cR h,show(0:Rat).num.natAbs=0 from I,z7u,zAK];exact wR.zero _
 refine go6 ?_;refine cL (ev1 I) call117 (λw hs=>rI hs hna hda) λbt h1 Z ba=>?_;subst ba;refine sN ?_;refine cnd (λan=>?_) λan=>?_
 ·
  have ah:=an;have bb:=fI ah;have ap:=fJ ah;refine go3 ?_;replace hnb:=hnb.mono Z;replace hdb:=hdb.mono Z;refine cL (ev1 I) call117 (λw hs=>rI hs hnb hdb) λbs h2 H az=>?_;subst az;refine sN ?_;refine cnd (λam=>?_) λam=>?_
  ·
   have ae:=am;have aq:=fI ae;have ax:=fJ ae;have bz:=qS bb ax;have bx:=qS aq ap;have bw:=qS ap ax;have bv:=qS bb aq;have bu:=qS ap aq;have cb:qa.den*qb.den≠0:=z3e qa.den_nz qb.den_nz;simp only[zFW ah,zFX ah,zFW ae,zFX ae];refine go6 ?_;refine gv (tI underlying4 I I) I (go6 ?_);refine cL (ev3 I I I) call118 (λw hs=>bT hs oM oM oM) λbr h3 G ay=>?_;obtain⟨av,aw,rfl,aj,ak⟩:=ay;refine xY (A:=[]) (r':=.var b4 26 [vB ((mkRat (sg (¬((qa.num<0)↔(qb.num<0))) (qa.num.natAbs*qb.num.natAbs)) (qa.den*qb.den)).num<0),av,aw]) (zH (k:=0) (cs:=[_,_,_]) (vs:=[_,_,_]) I I I (ocr I (ocu aj (ocu ak oc0))) yB (bL I)) I I I (go4 ?_);refine yG (λE S=>zQ I (xN (cs:=[_,_,_]) mh0 underlying26 I yB I) E S) ?_;exact⟨_,_,I,aj,ak⟩
  refine go3 ?_;refine zK 16 _ [] (zai 0 9 [(10,.q),(12,.q),(9,.c),(11,.c),(13,.c),(14,.c),(15,.c),(16,.t)]) yC nX zot nX (λr hr=>hr) (go4 ?_);refine wK I (λ_ _=>tI underlying4 I I) I (go6 ?_);refine w_c I ?_;replace hna:=hna.mono (Z.trans H);replace hnb:=hnb.mono H;refine sC (ev2 I I) call99 (λw hs=>tE hs hna hnb oM oM) λbh h3 G D=>?_
  try simp only[zE] at D
  have au:=yH ((qa.num.natAbs)) ((qb.num.natAbs));refine w_c I ?_;replace hna:=hna.mono G;replace hda:=hda.mono ((Z.trans H).trans G);refine sC (ev1 I) call120 (λw hs=>fK hs hna hda) λbg h4 ab C=>?_;rw[uP] at C;refine w_c I ?_;replace hnb:=hnb.mono (G.trans ab);replace hdb:=hdb.mono ((H.trans G).trans ab);refine sC (ev1 I) call120 (λw hs=>fK hs hnb hdb) λbf h5 ai O=>?_;rw[uP] at O;refine w_c I ?_;replace C:=C.mono ai;refine sC (ev2 I I) call99 (λw hs=>tE hs C O oM oM) λbe h6 bc M=>?_
  try simp only[zE] at M
  have ar:=yH ((qa.den)) ((qb.den));refine w_c I ?_;replace D:=D.mono ((ab.trans ai).trans bc);refine sC (ev3 I I I) call119 (λw hs=>jV hs D M oM oM) λbd h7 ca J=>?_
  try simp only[zE] at J
  obtain⟨ac,ad,rfl,U,aa⟩:=J;refine gL (A:=[]) (q':=.var b4 26 [vB ((mkRat (sg (¬((qa.num<0)↔(qb.num<0))) (((((qa.num.natAbs))*((qb.num.natAbs)))))) (((((qa.den))*((qb.den)))))).num<0),ac,ad]) I (zH (k:=0) (cs:=[_,_,_]) (vs:=[_,_,_]) I I I (ocr I (ocu U (ocu aa oc0))) yB (bL I)) I (go3 ?_);refine yG (λE S=>zQ I (xN (cs:=[_,_,_]) mh0 underlying26 I yB I) E S) ?_;exact⟨_,_,I,U,aa⟩
 refine go3 ?_;refine zK 16 _ [] (zai 0 9 [(10,.q),(12,.q),(9,.c),(11,.c),(13,.c),(14,.c),(15,.c),(16,.t)]) yC nX zot nX (λr hr=>hr) (go4 ?_);refine wK I (λ_ _=>tI underlying4 I I) I (go6 ?_);refine w_c I ?_;replace hna:=hna.mono Z;replace hnb:=hnb.mono Z;refine sC (ev2 I I) call99 (λw hs=>tE hs hna hnb oM oM) λbh h2 H D=>?_
 try simp only[zE] at D
 have au:=yH ((qa.num.natAbs)) ((qb.num.natAbs));refine w_c I ?_;replace hna:=hna.mono H;replace hda:=hda.mono (Z.trans H);refine sC (ev1 I) call120 (λw hs=>fK hs hna hda) λbg h3 G C=>?_;rw[uP] at C;refine w_c I ?_;replace hnb:=hnb.mono (H.trans G);replace hdb:=hdb.mono ((Z.trans H).trans G);refine sC (ev1 I) call120 (λw hs=>fK hs hnb hdb) λbf h4 ab O=>?_;rw[uP] at O;refine w_c I ?_;replace C:=C.mono ab;refine sC (ev2 I I) call99 (λw hs=>tE hs C O oM oM) λbe h5 ai M=>?_
 try simp only[zE] at M
 have ar:=yH ((qa.den)) ((qb.den));refine w_c I ?_;replace D:=D.mono ((G.trans ab).trans ai);refine sC (ev3 I I I) call119 (λw hs=>jV hs D M oM oM) λbd h6 bc J=>?_
 try simp only[zE] at J
 obtain⟨ac,ad,rfl,U,aa⟩:=J;refine gL (A:=[]) (q':=.var b4 26 [vB ((mkRat (sg (¬((qa.num<0)↔(qb.num<0))) (((((qa.num.natAbs))*((qb.num.natAbs)))))) (((((qa.den))*((qb.den)))))).num<0),ac,ad]) I (zH (k:=0) (cs:=[_,_,_]) (vs:=[_,_,_]) I I I (ocr I (ocu U (ocu aa oc0))) yB (bL I)) I (go3 ?_);refine yG (λE S=>zQ I (xN (cs:=[_,_,_]) mh0 underlying26 I yB I) E S) ?_;exact⟨_,_,I,U,aa⟩
theorem zYN{qa:Rat}{vna vda:Value}(hna:Us .u32 h0 vna (zB qa.num.natAbs))(hda:Us .u32 h0 vda (zB (wC qa.den))){qb:Rat}{vnb vdb:Value}(hnb:Us .u32 h0 vnb (zB qb.num.natAbs))(hdb:Us .u32 h0 vdb (zB (wC qb.den)))(hqa:lq qa<=100000000000)(hqb:lq qb<=100000000000):
 Calls prog 74 #[.agg #[vB (qa.num<0),vna,vda],.agg #[vB (qb.num<0),vnb,vdb]] w0 (Ret w0 h0 (λh r=>∃u,r=.tuple #[u,vI (if qb=0 then 3 else 0)]/\wR h u (if qb=0 then 0 else qa/qb))):=by
 have br:=wM qa;have bt:=wU qa;have bv:=wI qa;have bq:=wM qb;have bs:=wU qb;have bu:=wI qb;refine cb2 58 (.agg #[vB (qa.num<0),vna,vda]) (.agg #[vB (qb.num<0),vnb,vdb]) func74 hs ?_;refine go2 ?_;refine zF (xM (cs:=[_,_,_]) I I) I I I ?_;intro v2 r2 bo;obtain⟨b2,rfl,rfl⟩:=bo;refine zF (xM (cs:=[_,_,_]) I I) I I I ?_;intro v3 r3 bn;obtain⟨b3,rfl,rfl⟩:=bn;refine zF (wG (cs:=[vB ((0:Rat).num<0),.slice none 0 0,.slice none 0 0]) yS I (by simp only[zb];rfl)) I I I ?_;intro v4 r4 bm;obtain⟨b4,rfl,rfl⟩:=bm;refine go7 ?_;refine cL (ev1 I) call51 (λw hs=>s6 hs hnb hdb oM) λca h1 ad bd=>?_;have bl:=wB qb;subst bd;refine gc3 (λai=>?_) λai=>?_
 ·
  have ab:=uT.1 ai;rw[zau ab,zau ab];refine go2 ?_;refine gv (yO (ps':=[]) (vs:=[vB ((0:Rat).num<0),.slice none 0 0,.slice none 0 0]) underlying26 yS I (vQ underlying26) trivial (by simp only[zb];exact uF)) I (xY (A:=[]) (r':=.var b4 26 [vB ((0:Rat).num<0),.slice none 0 0,.slice none 0 0]) (zH (k:=0) (cs:=[_,_,_]) (vs:=[_,_,_]) I I I I yB (bL I)) I I I (go5 ?_));refine yG (λE S=>vO I (xN (cs:=[_,_,_]) mh0 underlying26 I yB I) (jE I) E S) ?_;exact⟨_,I,wR.zero _⟩
 have ab:qb≠0:=λh=>ai (uT.2 h);rw[zae ab,zae ab,<-zUB qa ab];have bp:=zEK.2 ab;refine go6 ?_;replace hna:=hna.mono ad;replace hda:=hda.mono ad;refine cL (ev1 I) call117 (λw hs=>rI hs hna hda) λbz h2 Z bc=>?_;subst bc;refine sN ?_;refine cnd (λaq=>?_) λaq=>?_
 ·
  have ak:=aq;have be:=fI ak;have ar:=fJ ak;refine go3 ?_;replace hnb:=hnb.mono (ad.trans Z);replace hdb:=hdb.mono (ad.trans Z);refine cL (ev1 I) call117 (λw hs=>rI hs hnb hdb) λbx h3 U bb=>?_;subst bb;refine sN ?_;refine cnd (λap=>?_) λap=>?_
  ·
   have aj:=ap;have au:=fI aj;have az:=fJ aj;have cf:=qS be az;have ce:=qS au ar;have cd:=qS ar az;have cc:=qS be au;have cb:=qS ar au;have ch:qa.den*qb.num.natAbs≠0:=z3e qa.den_nz bp;simp only[zFW ak,zFX ak,zFW aj,zFX aj];refine go6 ?_;refine gv (tI underlying4 I I) I (go6 ?_);refine cL (ev3 I I I) call118 (λw hs=>bT hs oM oM oM) λbw h4 O ba=>?_;obtain⟨ax,ay,rfl,an,ao⟩:=ba;refine xY (A:=[]) (r':=.var b4 26 [vB ((mkRat (sg (¬((qa.num<0)↔(qb.num<0))) (qa.num.natAbs*qb.den)) (qa.den*qb.num.natAbs)).num<0),ax,ay]) (zH (k:=0) (cs:=[_,_,_]) (vs:=[_,_,_]) I I I (ocr I (ocu an (ocu ao oc0))) yB (bL I)) I I I (go5 ?_);refine yG (λE S=>vO I (xN (cs:=[_,_,_]) mh0 underlying26 I yB I) (jE I) E S) ?_;exact⟨_,I,_,_,I,an,ao⟩
  refine go3 ?_;refine zK 16 _ [] (zai 0 8 [(10,.q),(12,.q),(13,.q),(8,.c),(9,.c),(11,.c),(14,.c),(15,.c),(16,.t),(17,.t)]) yC nX zot nX (λr hr=>hr) (go4 ?_);refine wK I (λ_ _=>tI underlying4 I I) I (go6 ?_);refine w_c I ?_;replace hnb:=hnb.mono U;replace hdb:=hdb.mono U;refine sC (ev1 I) call120 (λw hs=>fK hs hnb hdb) λbk h4 O J=>?_;rw[uP] at J;refine w_c I ?_;replace hna:=hna.mono ((Z.trans U).trans O);refine sC (ev2 I I) call99 (λw hs=>tE hs hna J oM oM) λbj h5 ac C=>?_
  try simp only[zE] at C
  have aw:=yH ((qa.num.natAbs)) ((qb.den));refine w_c I ?_;replace hna:=hna.mono ac;replace hda:=hda.mono (((Z.trans U).trans O).trans ac);refine sC (ev1 I) call120 (λw hs=>fK hs hna hda) λbi h6 am H=>?_;rw[uP] at H;refine w_c I ?_;replace hnb:=hnb.mono ((O.trans ac).trans am);refine sC (ev2 I I) call99 (λw hs=>tE hs H hnb oM oM) λbh h7 bf G=>?_
  try simp only[zE] at G
  have av:=yH ((qa.den)) ((qb.num.natAbs));refine w_c I ?_;replace C:=C.mono (am.trans bf);refine sC (ev3 I I I) call119 (λw hs=>jV hs C G oM oM) λbg h8 cg D=>?_
  try simp only[zE] at D
  obtain⟨ae,ah,rfl,M,aa⟩:=D;refine gL (A:=[]) (q':=.var b4 26 [vB ((mkRat (sg (¬((qa.num<0)↔(qb.num<0))) (((((qa.num.natAbs))*((qb.den)))))) (((((qa.den))*((qb.num.natAbs)))))).num<0),ae,ah]) I (zH (k:=0) (cs:=[_,_,_]) (vs:=[_,_,_]) I I I (ocr I (ocu M (ocu aa oc0))) yB (bL I)) I (iB I (fZ (v:=vI (0)) I) I (go3 ?_));refine yG (λE S=>vO I (xN (cs:=[_,_,_]) mh0 underlying26 I yB I) (jE I) E S) ?_;exact⟨_,I,_,_,I,M,aa⟩
 refine go3 ?_;refine zK 16 _ [] (zai 0 8 [(10,.q),(12,.q),(13,.q),(8,.c),(9,.c),(11,.c),(14,.c),(15,.c),(16,.t),(17,.t)]) yC nX zot nX (λr hr=>hr) (go4 ?_);refine wK I (λ_ _=>tI underlying4 I I) I (go6 ?_);refine w_c I ?_;replace hnb:=hnb.mono (ad.trans Z);replace hdb:=hdb.mono (ad.trans Z);refine sC (ev1 I) call120 (λw hs=>fK hs hnb hdb) λbk h3 U J=>?_;rw[uP] at J;refine w_c I ?_;replace hna:=hna.mono (Z.trans U);refine sC (ev2 I I) call99 (λw hs=>tE hs hna J oM oM) λbj h4 O C=>?_
 try simp only[zE] at C
 have aw:=yH ((qa.num.natAbs)) ((qb.den));refine w_c I ?_;replace hna:=hna.mono O;replace hda:=hda.mono ((Z.trans U).trans O);refine sC (ev1 I) call120 (λw hs=>fK hs hna hda) λbi h5 ac H=>?_;rw[uP] at H;refine w_c I ?_;replace hnb:=hnb.mono ((U.trans O).trans ac);refine sC (ev2 I I) call99 (λw hs=>tE hs H hnb oM oM) λbh h6 am G=>?_
 try simp only[zE] at G
 have av:=yH ((qa.den)) ((qb.num.natAbs));refine w_c I ?_;replace C:=C.mono (ac.trans am);refine sC (ev3 I I I) call119 (λw hs=>jV hs C G oM oM) λbg h7 bf D=>?_
 try simp only[zE] at D
 obtain⟨ae,ah,rfl,M,aa⟩:=D;refine gL (A:=[]) (q':=.var b4 26 [vB ((mkRat (sg (¬((qa.num<0)↔(qb.num<0))) (((((qa.num.natAbs))*((qb.den)))))) (((((qa.den))*((qb.num.natAbs)))))).num<0),ae,ah]) I (zH (k:=0) (cs:=[_,_,_]) (vs:=[_,_,_]) I I I (ocr I (ocu M (ocu aa oc0))) yB (bL I)) I (iB I (fZ (v:=vI (0)) I) I (go3 ?_));refine yG (λE S=>vO I (xN (cs:=[_,_,_]) mh0 underlying26 I yB I) (jE I) E S) ?_;exact⟨_,I,_,_,I,M,aa⟩
theorem zKB{qa:Rat}{vna vda:Value}(hna:Us .u32 h0 vna (zB qa.num.natAbs))(hda:Us .u32 h0 vda (zB (wC qa.den))){qb:Rat}{vnb vdb:Value}(hnb:Us .u32 h0 vnb (zB qb.num.natAbs))(hdb:Us .u32 h0 vdb (zB (wC qb.den)))(hqa:lq qa<=100000000000)(hqb:lq qb<=100000000000){s:Prop}:
 Calls prog 115 #[.agg #[vB (qa.num<0),vna,vda],.agg #[vB (qb.num<0),vnb,vdb],vB s] w0 (Ret w0 h0 (λh r=>wR h r (qa+sgd s qb))):=by
 have ea:=wM qa;have ec:=wU qa;have ee:=wI qa;have dz:=wM qb;have eb:=wU qb;have ed:=wI qb;refine cb3 152 (.agg #[vB (qa.num<0),vna,vda]) (.agg #[vB (qb.num<0),vnb,vdb]) (vB s) func115 hs ?_;refine go2 ?_;refine zF (xM (cs:=[_,_,_]) I I) I I I ?_;intro v3 r3 dp;obtain⟨b3,rfl,rfl⟩:=dp;refine zF (xM (cs:=[_,_,_]) I I) I I I ?_;intro v4 r4 dn;obtain⟨b4,rfl,rfl⟩:=dn;refine zF (wG (cs:=[vB ((0:Rat).num<0),.slice none 0 0,.slice none 0 0]) yS I (by simp only[zb];rfl)) I I I ?_;intro v6 r6 dm;obtain⟨b6,rfl,rfl⟩:=dm;refine go2 ?_;refine qK (ι:=Mem) (λ(mc:(Mem))=>MLe h0 mc/\(True)) (λ(mc:(Mem))=>[(2,vB s),(3,vP b3 0),(4,vP b4 0),(6,vP b6 0)]) (λ(mc:(Mem))=>[.var b6 26 [vB ((0:Rat).num<0),.slice none 0 0,.slice none 0 0],.var b4 26 [vB (qb.num<0),vnb,vdb],.var b3 26 [vB (qa.num<0),vna,vda]]) (λ(mc:(Mem))=>mc) ?_ ?_
 ·
  refine go3 ?_;refine cL (ev1 I) call117 (λw hs=>rI hs hna hda) λel h1 Z df=>?_;subst df;refine sN ?_;refine cnd (λcd=>?_) λcd=>?_
  ·
   have bq:=cd;have dh:=fI bq;have cf:=fJ bq;refine go3 ?_;replace hnb:=hnb.mono Z;replace hdb:=hdb.mono Z;refine cL (ev1 I) call117 (λw hs=>rI hs hnb hdb) λek h2 O de=>?_;subst de;refine sN ?_;refine cnd (λcc=>?_) λcc=>?_
   ·
    have bp:=cc;have ch:=fI bp;have da:=fJ bp;have eq:=qS dh da;have ep:=qS ch cf;have eo:=qS cf da;have en:=qS dh ch;have em:=qS cf ch;have er:qa.den*qb.den≠0:=z3e qa.den_nz qb.den_nz;simp only[zFW bq,zFX bq,zFW bp,zFX bp];refine zBY ?_;refine gv (zUQ (vs:=[_,_,vU .u64 0]) (yG0 _ _) e3z) I (rN ?_);refine gv (eG underlying4 I I) I ?_;refine gU 4 56 (vB (((qa.num<0)↔(s))/\((((qa.num.natAbs*qb.den)+(qb.num.natAbs*qa.den))/18446744073709551616)=(0:Nat)))) ?_ ?_
    ·
     refine yD ((qa.num<0)↔(s)) (λhg=>?_) (λhg=>?_)
     ·
      refine gT hg I (go3 ?_);refine gv (gW (k:=.u64) (q:=0) I I) I (go2 ?_);refine gqU ?_;exact y0e (xS hg)
     refine gF hg I (go4 ?_);refine gqU ?_;exact y0e (xT hg)
    refine gc3 (λcb=>?_) λcb=>?_
    ·
     obtain⟨ce,es⟩:=cb;refine go7 ?_;refine cL (ev3 I I I) call118 (λw hs=>bT hs oM oM oM) λej h3 M dd=>?_;obtain⟨cl,co,rfl,bg,bl⟩:=dd;refine xY (A:=[]) (r':=.var b6 26 [vB ((mkRat (sg (s) (((qa.num.natAbs*qb.den)+(qb.num.natAbs*qa.den))%18446744073709551616)) (qa.den*qb.den)).num<0),cl,co]) (zH (k:=0) (cs:=[_,_,_]) (vs:=[_,_,_]) I I I (ocr I (ocu bg (ocu bl oc0))) yB (bL I)) I I I (go5 ?_);refine yG (λE S=>zQ I (xN (cs:=[_,_,_]) mh0 underlying26 I yB I) E S) ?_;have e:=zoh (a:=qa.num.natAbs*qb.den+qb.num.natAbs*qa.den) (b:=18446744073709551616) oM;rw[e] at bg bl ⊢;rw[zDJ ce];exact⟨_,_,I,bg,bl⟩
    refine go5 ?_;refine gv (tI underlying4 I I) I ?_;refine gU 5 72 (vB ((¬((qa.num<0)↔(s)))/\((qb.num.natAbs*qa.den)<=(qa.num.natAbs*qb.den)))) ?_ ?_
    ·
     refine yD (¬((qa.num<0)↔(s))) (λhg=>?_) (λhg=>?_)
     ·
      refine gT hg I (go8 ?_);refine gqU ?_;exact y0e (xS hg)
     refine gF hg I (go5 ?_);refine gqU ?_;exact y0e (xT hg)
    refine gc3 (λbn=>?_) λbn=>?_
    ·
     obtain⟨ce,bk⟩:=bn;refine go6 ?_;refine gv (bZ (k:=.u64) (W:=18446744073709551616) I I I I oM oM) I (go3 ?_);refine cL (ev3 I I I) call118 (λw hs=>bT hs oM oM oM) λei h3 M dc=>?_;obtain⟨ck,cn,rfl,bx,ca⟩:=dc;refine xY (A:=[]) (r':=.var b6 26 [vB ((mkRat (sg (qa.num<0) ((qa.num.natAbs*qb.den)-(qb.num.natAbs*qa.den))) (qa.den*qb.den)).num<0),ck,cn]) (zH (k:=0) (cs:=[_,_,_]) (vs:=[_,_,_]) I I I (ocr I (ocu bx (ocu ca oc0))) yB (bL I)) I I I (go5 ?_);refine yG (λE S=>zQ I (xN (cs:=[_,_,_]) mh0 underlying26 I yB I) E S) ?_;rw[zC1 ce bk];exact⟨_,_,I,bx,ca⟩
    refine go5 ?_;refine gv (tI underlying4 I I) I (gc3 (λbm=>?_) λbm=>?_)
    ·
     have br:¬qb.num.natAbs*qa.den<=qa.num.natAbs*qb.den:=λh=>bn ⟨bm,h⟩;refine go5 ?_;refine gv (bZ (k:=.u64) (W:=18446744073709551616) I I I I oM oM) I (go3 ?_);refine cL (ev3 I I I) call118 (λw hs=>bT hs oM oM oM) λeh h3 M db=>?_;obtain⟨cj,cm,rfl,bw,bz⟩:=db;refine xY (A:=[]) (r':=.var b6 26 [vB ((mkRat (sg (s) ((qb.num.natAbs*qa.den)-(qa.num.natAbs*qb.den))) (qa.den*qb.den)).num<0),cj,cm]) (zH (k:=0) (cs:=[_,_,_]) (vs:=[_,_,_]) I I I (ocr I (ocu bw (ocu bz oc0))) yB (bL I)) I I I (go5 ?_);refine yG (λE S=>zQ I (xN (cs:=[_,_,_]) mh0 underlying26 I yB I) E S) ?_;rw[j8 bm oM];exact⟨_,_,I,bw,bz⟩
    refine go2 ?_;refine zS (h2) ?_ e4z I I;refine⟨(Z.trans O),?_⟩
    trivial
   refine go1 ?_;refine zS (h2) ?_ e4z I I;refine⟨(Z.trans O),?_⟩
   trivial
  refine go1 ?_;refine zS (h1) ?_ e4z I I;refine⟨Z,?_⟩
  trivial
 rintro mc ⟨ap,eg⟩
 refine yQ ?_;refine go1 ?_;refine zK 9 _ [] (zai 0 5 [(5,.c),(6,.q),(7,.q),(8,.q)]) yC nX zot nX (λr hr=>hr) (go5 ?_);refine w_c I ?_;replace hna:=hna.mono ap;replace hda:=hda.mono ap;refine sC (ev1 I) call120 (λw hs=>fK hs hna hda) λdy h1 Z C=>?_;rw[uP] at C;refine uV ?_;replace hda:=hda.mono Z;replace hdb:=hdb.mono (ap.trans Z);refine cL (ev2 I I) call161 (λw hs=>zJU hs hda hdb) λdx h2 O cg=>?_;subst cg;refine gc3 (λbo=>?_) λbo=>?_
 ·
  refine zK 15 _ [] [(0,.q),(1,.q),(4,.q),(5,.q),(8,.q),(9,.q),(2,.c),(3,.c),(6,.c),(7,.c),(10,.c),(11,.c),(12,.q),(13,.q),(14,.q)] yC nX zot nX (λr hr=>hr) (go6 ?_);refine w_c I ?_;replace hnb:=hnb.mono ((ap.trans Z).trans O);replace hdb:=hdb.mono O;refine sC (ev1 I) call120 (λw hs=>fK hs hnb hdb) λdw h3 M bf=>?_;rw[uP] at bf;refine w_c I ?_;replace hna:=hna.mono ((Z.trans O).trans M);refine sC (ev2 I I) call99 (λw hs=>tE hs hna bf oM oM) λdv h4 aq H=>?_
  try simp only[zE] at H
  have dl:=yH ((qa.num.natAbs)) ((qb.den));refine w_c I ?_;replace hna:=hna.mono aq;replace hda:=hda.mono ((O.trans M).trans aq);refine sC (ev1 I) call120 (λw hs=>fK hs hna hda) λdu h5 bc be=>?_;rw[uP] at be;refine w_c I ?_;replace hnb:=hnb.mono ((M.trans aq).trans bc);refine sC (ev2 I I) call99 (λw hs=>tE hs hnb be oM oM) λdt h6 bi G=>?_
  try simp only[zE] at G
  have dk:=yH ((qb.num.natAbs)) ((qa.den));refine w_c I ?_;replace hnb:=hnb.mono bi;replace hdb:=hdb.mono (((M.trans aq).trans bc).trans bi);refine sC (ev1 I) call120 (λw hs=>fK hs hnb hdb) λdr h7 bh bd=>?_;rw[uP] at bd;refine w_c I ?_;replace C:=C.mono (((((O.trans M).trans aq).trans bc).trans bi).trans bh);refine sC (ev2 I I) call99 (λw hs=>tE hs C bd oM oM) λdq h8 bv D=>?_
  try simp only[zE] at D
  have dj:=yH ((qa.den)) ((qb.den));refine qG ?_;refine gv (eG underlying4 I I) I (gc2 (λJ=>?_) λJ=>?_)
  ·
   refine go5 ?_;replace H:=H.mono (((bc.trans bi).trans bh).trans bv);replace G:=G.mono (bh.trans bv);refine cL (ev2 I I) call100 (λw hs=>aQ hs H G oM oM) λcw h9 bb ah=>?_
   try simp only[zE] at ah
   have bu:=uJ (((((qa.num.natAbs))*((qb.den))))) (((((qb.num.natAbs))*((qa.den)))));refine go1 ?_;replace D:=D.mono bb;refine cL (ev3 I I I) call119 (λw hs=>jV hs ah D oM oM) λcv di bj ae=>?_
   try simp only[zE] at ae
   obtain⟨av,ay,rfl,ak,ao⟩:=ae;refine xY (A:=[]) (r':=.var b6 26 [vB ((mkRat (sg (s) ((((((((qa.num.natAbs))*((qb.den)))))+(((((qb.num.natAbs))*((qa.den))))))))) (((((qa.den))*((qb.den)))))).num<0),av,ay]) (zH (k:=0) (cs:=[_,_,_]) (vs:=[_,_,_]) I I I (ocr I (ocu ak (ocu ao oc0))) yB (bL I)) I I I (go4 ?_);refine yG (λE S=>zQ I (xN (cs:=[_,_,_]) mh0 underlying26 I yB I) E S) ?_;rw[zDJ J];exact⟨_,_,I,ak,ao⟩
  refine go7 ?_;replace H:=H.mono (((bc.trans bi).trans bh).trans bv);replace G:=G.mono (bh.trans bv);refine cL (ev2 I I) call162 (λw hs=>zC7 hs H G oM) λcu h9 bb ba=>?_;obtain⟨cz,rfl,ab⟩:=ba
  try simp only[zE] at ab ⊢
  have bt:=zR (yiu (((((qa.num.natAbs))*((qb.den))))) (((((qb.num.natAbs))*((qa.den))))));refine rN ?_;refine cnd (λU=>?_) λU=>?_
  ·
   have bk:=zS8 U;rw[zae bk];refine go6 ?_;replace D:=D.mono bb;refine cL (ev3 I I I) call119 (λw hs=>jV hs ab D oM oM) λct di bj ad=>?_
   try simp only[zE] at ad
   obtain⟨au,ax,rfl,aj,an⟩:=ad;refine xY (A:=[]) (r':=.var b6 26 [vB ((mkRat (sg (qa.num<0) ((((((((qa.num.natAbs))*((qb.den)))))-(((((qb.num.natAbs))*((qa.den))))))))) (((((qa.den))*((qb.den)))))).num<0),au,ax]) (zH (k:=0) (cs:=[_,_,_]) (vs:=[_,_,_]) I I I (ocr I (ocu aj (ocu an oc0))) yB (bL I)) I I I (go4 ?_);refine yG (λE S=>zQ I (xN (cs:=[_,_,_]) mh0 underlying26 I yB I) E S) ?_;rw[zC1 J oM];exact⟨_,_,I,aj,an⟩
  have br:=zS9 U;rw[zau br];refine go6 ?_;replace H:=H.mono bb;replace G:=G.mono bb;refine cL (ev2 I I) call162 (λw hs=>zC7 hs G H oM) λcq di bj az=>?_;obtain⟨cy,rfl,aa⟩:=az
  try simp only[zE] at aa ⊢
  have bs:=zR (yiu (((((qb.num.natAbs))*((qa.den))))) (((((qa.num.natAbs))*((qb.den))))));refine uV ?_;replace D:=D.mono (bb.trans bj);refine cL (ev3 I I I) call119 (λw hs=>jV hs aa D oM oM) λcp eu ef ac=>?_
  try simp only[zE] at ac
  obtain⟨ar,aw,rfl,ai,am⟩:=ac;refine xY (A:=[]) (r':=.var b6 26 [vB ((mkRat (sg (s) ((((((((qb.num.natAbs))*((qa.den)))))-(((((qa.num.natAbs))*((qb.den))))))))) (((((qa.den))*((qb.den)))))).num<0),ar,aw]) (zH (k:=0) (cs:=[_,_,_]) (vs:=[_,_,_]) I I I (ocr I (ocu ai (ocu am oc0))) yB (bL I)) I I I (go3 ?_);refine yG (λE S=>zQ I (xN (cs:=[_,_,_]) mh0 underlying26 I yB I) E S) ?_;rw[j8 J oM];exact⟨_,_,I,ai,am⟩
 have ci:=zOP.1 (zdi bo);refine go8 ?_;refine gv (eG underlying4 I I) I (gc2 (λJ=>?_) λJ=>?_)
 ·
  refine go5 ?_;replace hna:=hna.mono (Z.trans O);replace hnb:=hnb.mono ((ap.trans Z).trans O);refine cL (ev2 I I) call100 (λw hs=>aQ hs hna hnb oM oM) λcw h3 M ah=>?_
  try simp only[zE] at ah
  have bu:=uJ ((qa.num.natAbs)) ((qb.num.natAbs));refine go1 ?_;replace C:=C.mono (O.trans M);refine cL (ev3 I I I) call119 (λw hs=>jV hs ah C oM oM) λcv h4 aq ae=>?_
  try simp only[zE] at ae
  obtain⟨av,ay,rfl,ak,ao⟩:=ae;refine xY (A:=[]) (r':=.var b6 26 [vB ((mkRat (sg (s) (((((qa.num.natAbs))+((qb.num.natAbs)))))) ((qa.den))).num<0),av,ay]) (zH (k:=0) (cs:=[_,_,_]) (vs:=[_,_,_]) I I I (ocr I (ocu ak (ocu ao oc0))) yB (bL I)) I I I (go4 ?_);refine yG (λE S=>zQ I (xN (cs:=[_,_,_]) mh0 underlying26 I yB I) E S) ?_;rw[zXK J ci];exact⟨_,_,I,ak,ao⟩
 refine go7 ?_;replace hna:=hna.mono (Z.trans O);replace hnb:=hnb.mono ((ap.trans Z).trans O);refine cL (ev2 I I) call162 (λw hs=>zC7 hs hna hnb oM) λcu h3 M ba=>?_;obtain⟨cz,rfl,ab⟩:=ba
 try simp only[zE] at ab ⊢
 have bt:=zR (yiu ((qa.num.natAbs)) ((qb.num.natAbs)));refine rN ?_;refine cnd (λU=>?_) λU=>?_
 ·
  have bk:=zS8 U;rw[zae bk];refine go6 ?_;replace C:=C.mono (O.trans M);refine cL (ev3 I I I) call119 (λw hs=>jV hs ab C oM oM) λct h4 aq ad=>?_
  try simp only[zE] at ad
  obtain⟨au,ax,rfl,aj,an⟩:=ad;refine xY (A:=[]) (r':=.var b6 26 [vB ((mkRat (sg (qa.num<0) (((((qa.num.natAbs))-((qb.num.natAbs)))))) ((qa.den))).num<0),au,ax]) (zH (k:=0) (cs:=[_,_,_]) (vs:=[_,_,_]) I I I (ocr I (ocu aj (ocu an oc0))) yB (bL I)) I I I (go4 ?_);refine yG (λE S=>zQ I (xN (cs:=[_,_,_]) mh0 underlying26 I yB I) E S) ?_;rw[zS7 J ci oM];exact⟨_,_,I,aj,an⟩
 have br:=zS9 U;rw[zau br];refine go6 ?_;replace hna:=hna.mono M;replace hnb:=hnb.mono M;refine cL (ev2 I I) call162 (λw hs=>zC7 hs hnb hna oM) λcq h4 aq az=>?_;obtain⟨cy,rfl,aa⟩:=az
 try simp only[zE] at aa ⊢
 have bs:=zR (yiu ((qb.num.natAbs)) ((qa.num.natAbs)));refine uV ?_;replace C:=C.mono ((O.trans M).trans aq);refine cL (ev3 I I I) call119 (λw hs=>jV hs aa C oM oM) λcp h5 bc ac=>?_
 try simp only[zE] at ac
 obtain⟨ar,aw,rfl,ai,am⟩:=ac;refine xY (A:=[]) (r':=.var b6 26 [vB ((mkRat (sg (s) (((((qb.num.natAbs))-((qa.num.natAbs)))))) ((qa.den))).num<0),ar,aw]) (zH (k:=0) (cs:=[_,_,_]) (vs:=[_,_,_]) I I I (ocr I (ocu ai (ocu am oc0))) yB (bL I)) I I I (go3 ?_);refine yG (λE S=>zQ I (xN (cs:=[_,_,_]) mh0 underlying26 I yB I) E S) ?_;rw[zQ1 J ci oM];exact⟨_,_,I,ai,am⟩
theorem zH4{qa:Rat}{vna vda:Value}(hna:Us .u32 h0 vna (zB qa.num.natAbs))(hda:Us .u32 h0 vda (zB (wC qa.den))){qb:Rat}{vnb vdb:Value}(hnb:Us .u32 h0 vnb (zB qb.num.natAbs))(hdb:Us .u32 h0 vdb (zB (wC qb.den)))(hqa:lq qa<=100000000000)(hqb:lq qb<=100000000000):
 Calls prog 70 #[.agg #[vB (qa.num<0),vna,vda],.agg #[vB (qb.num<0),vnb,vdb]] w0 (Ret w0 h0 (λh r=>wR h r (qa+qb))):=by
 have ac:=wM qa;have ae:=wU qa;have ai:=wI qa;have ab:=wM qb;have ad:=wU qb;have ah:=wI qb;refine cb2 10 (.agg #[vB (qa.num<0),vna,vda]) (.agg #[vB (qb.num<0),vnb,vdb]) func70 hs ?_;refine go2 ?_;refine zF (xM (cs:=[_,_,_]) I I) I I I ?_;intro v2 r2 U;obtain⟨b2,rfl,rfl⟩:=U;refine zF (xM (cs:=[_,_,_]) I I) I I I ?_;intro v3 r3 O;obtain⟨b3,rfl,rfl⟩:=O;refine zF (wG (cs:=[vB ((0:Rat).num<0),.slice none 0 0,.slice none 0 0]) yS I (by simp only[zb];rfl)) I I I ?_;intro v4 r4 M;obtain⟨b4,rfl,rfl⟩:=M;refine go8 ?_;refine cL (ev3 I I I) call115 (λw hs=>zKB hs hna hda hnb hdb oM oM) λv9 h1 aj J=>?_;obtain⟨G,H,rfl,C,D⟩:=J;have aa:=jX qa (sgd (qb.num<0) qb);have Z:=zVM (qb.num<0) qb;refine xY (A:=[]) (r':=.var b4 26 [vB ((qa+sgd (qb.num<0) qb).num<0),G,H]) (zH (k:=0) (cs:=[_,_,_]) (vs:=[_,_,_]) I I I (ocr I (ocu C (ocu D oc0))) yB (bL I)) I I I (go3 ?_);refine yG (λE S=>zQ I (xN (cs:=[_,_,_]) mh0 underlying26 I yB I) E S) ?_;rw[s0] at C D ⊢;exact⟨_,_,I,C,D⟩
theorem zYM{qa:Rat}{vna vda:Value}(hna:Us .u32 h0 vna (zB qa.num.natAbs))(hda:Us .u32 h0 vda (zB (wC qa.den))){qb:Rat}{vnb vdb:Value}(hnb:Us .u32 h0 vnb (zB qb.num.natAbs))(hdb:Us .u32 h0 vdb (zB (wC qb.den)))(hqa:lq qa<=100000000000)(hqb:lq qb<=100000000000):
 Calls prog 179 #[.agg #[vB (qa.num<0),vna,vda],.agg #[vB (qb.num<0),vnb,vdb]] w0 (Ret w0 h0 (λh r=>wR h r (qa-qb))):=by
 have ac:=wM qa;have ae:=wU qa;have ai:=wI qa;have ab:=wM qb;have ad:=wU qb;have ah:=wI qb;refine cb2 11 (.agg #[vB (qa.num<0),vna,vda]) (.agg #[vB (qb.num<0),vnb,vdb]) func179 hs ?_;refine go2 ?_;refine zF (xM (cs:=[_,_,_]) I I) I I I ?_;intro v2 r2 U;obtain⟨b2,rfl,rfl⟩:=U;refine zF (xM (cs:=[_,_,_]) I I) I I I ?_;intro v3 r3 O;obtain⟨b3,rfl,rfl⟩:=O;refine zF (wG (cs:=[vB ((0:Rat).num<0),.slice none 0 0,.slice none 0 0]) yS I (by simp only[zb];rfl)) I I I ?_;intro v4 r4 M;obtain⟨b4,rfl,rfl⟩:=M;refine go9 ?_;refine cL (ev3 I I I) call115 (λw hs=>zKB hs hna hda hnb hdb oM oM) λaj h1 ak J=>?_;obtain⟨G,H,rfl,C,D⟩:=J;have aa:=jX qa (sgd (¬(qb.num<0)) qb);have Z:=zVM (¬(qb.num<0)) qb;refine xY (A:=[]) (r':=.var b4 26 [vB ((qa+sgd (¬(qb.num<0)) qb).num<0),G,H]) (zH (k:=0) (cs:=[_,_,_]) (vs:=[_,_,_]) I I I (ocr I (ocu C (ocu D oc0))) yB (bL I)) I I I (go3 ?_);refine yG (λE S=>zQ I (xN (cs:=[_,_,_]) mh0 underlying26 I yB I) E S) ?_;rw[zYA,<-yyi] at C D ⊢;exact⟨_,_,I,C,D⟩
theorem zYP{qa:Rat}{vna vda:Value}(hna:Us .u32 h0 vna (zB qa.num.natAbs))(hda:Us .u32 h0 vda (zB (wC qa.den))){qb:Rat}{vnb vdb:Value}(hnb:Us .u32 h0 vnb (zB qb.num.natAbs))(hdb:Us .u32 h0 vdb (zB (wC qb.den)))(hqa:lq qa<=100000000000)(hqb:lq qb<=100000000000):
 Calls prog 148 #[.agg #[vB (qa.num<0),vna,vda],.agg #[vB (qb.num<0),vnb,vdb]] w0 (Ret w0 h0 (λh r=>wR h r (zEU qa qb))):=by
 have ah:=wM qa;have aj:=wU qa;have am:=wI qa;have ae:=wM qb;have ai:=wU qb;have ak:=wI qb;refine cb2 12 (.agg #[vB (qa.num<0),vna,vda]) (.agg #[vB (qb.num<0),vnb,vdb]) func148 hs ?_;refine go2 ?_;refine zF (xM (cs:=[_,_,_]) I I) I I I ?_;intro v2 r2 ac;obtain⟨b2,rfl,rfl⟩:=ac;refine zF (xM (cs:=[_,_,_]) I I) I I I ?_;intro v3 r3 ab;obtain⟨b3,rfl,rfl⟩:=ab;refine zF (wG (cs:=[vB ((0:Rat).num<0),.slice none 0 0,.slice none 0 0]) yS I (by simp only[zb];rfl)) I I I ?_;intro v4 r4 aa;obtain⟨b4,rfl,rfl⟩:=aa;refine go7 ?_;refine cL (ev2 I I) call184 (λw hs=>zPE hs hnb hdb hna hda oM oM) λv7 h1 M Z=>?_;have an:=kR qb qa;subst Z;refine gc3 (λO=>?_) λO=>?_
 ·
  refine go2 ?_;replace hnb:=hnb.mono M;replace hdb:=hdb.mono M;refine xY (A:=[_,_]) (r':=.var b2 26 [vB (qb.num<0),vnb,vdb]) (zH (k:=0) (cs:=[_,_,_]) (vs:=[_,_,_]) I I I (ocr I (ocu hnb (ocu hdb oc0))) yB (bL I)) I I I (go5 ?_);refine cL (ev1 I) call185 (λw hs=>mD hs hnb hdb (by first|omega|exact zci (wM _) oM) (by first|omega|exact zci (wI _) oM)) λU h2 ad J=>?_;obtain⟨G,H,rfl,C,D⟩:=J;refine xY (A:=[]) (r':=.var b4 26 [vB ((qb).num<0),G,H]) (zH (k:=0) (cs:=[_,_,_]) (vs:=[_,_,_]) I I I (ocr I (ocu C (ocu D oc0))) yB (bL I)) I I I (go3 ?_);refine yG (λE S=>zQ I (xN (cs:=[_,_,_]) mh0 underlying26 I yB I) E S) ?_;rw[yDO O];exact⟨_,_,I,C,D⟩
 refine go5 ?_;replace hna:=hna.mono M;replace hda:=hda.mono M;refine cL (ev1 I) call185 (λw hs=>mD hs hna hda (by first|omega|exact zci (wM _) oM) (by first|omega|exact zci (wI _) oM)) λU h2 ad J=>?_;obtain⟨G,H,rfl,C,D⟩:=J;refine xY (A:=[]) (r':=.var b4 26 [vB ((qa).num<0),G,H]) (zH (k:=0) (cs:=[_,_,_]) (vs:=[_,_,_]) I I I (ocr I (ocu C (ocu D oc0))) yB (bL I)) I I I (go3 ?_);refine yG (λE S=>zQ I (xN (cs:=[_,_,_]) mh0 underlying26 I yB I) E S) ?_;rw[yDP O];exact⟨_,_,I,C,D⟩
theorem zYQ{qa:Rat}{vna vda:Value}(hna:Us .u32 h0 vna (zB qa.num.natAbs))(hda:Us .u32 h0 vda (zB (wC qa.den))){qb:Rat}{vnb vdb:Value}(hnb:Us .u32 h0 vnb (zB qb.num.natAbs))(hdb:Us .u32 h0 vdb (zB (wC qb.den)))(hqa:lq qa<=100000000000)(hqb:lq qb<=100000000000):
 Calls prog 149 #[.agg #[vB (qa.num<0),vna,vda],.agg #[vB (qb.num<0),vnb,vdb]] w0 (Ret w0 h0 (λh r=>wR h r (nL qa qb))):=by
 have ah:=wM qa;have aj:=wU qa;have am:=wI qa;have ae:=wM qb;have ai:=wU qb;have ak:=wI qb;refine cb2 12 (.agg #[vB (qa.num<0),vna,vda]) (.agg #[vB (qb.num<0),vnb,vdb]) func149 hs ?_;refine go2 ?_;refine zF (xM (cs:=[_,_,_]) I I) I I I ?_;intro v2 r2 ac;obtain⟨b2,rfl,rfl⟩:=ac;refine zF (xM (cs:=[_,_,_]) I I) I I I ?_;intro v3 r3 ab;obtain⟨b3,rfl,rfl⟩:=ab;refine zF (wG (cs:=[vB ((0:Rat).num<0),.slice none 0 0,.slice none 0 0]) yS I (by simp only[zb];rfl)) I I I ?_;intro v4 r4 aa;obtain⟨b4,rfl,rfl⟩:=aa;refine go7 ?_;refine cL (ev2 I I) call184 (λw hs=>zPE hs hnb hdb hna hda oM oM) λv7 h1 M Z=>?_;have an:=kR qb qa;subst Z;refine gc3 (λO=>?_) λO=>?_
 ·
  refine go2 ?_;replace hnb:=hnb.mono M;replace hdb:=hdb.mono M;refine xY (A:=[_,_]) (r':=.var b2 26 [vB (qb.num<0),vnb,vdb]) (zH (k:=0) (cs:=[_,_,_]) (vs:=[_,_,_]) I I I (ocr I (ocu hnb (ocu hdb oc0))) yB (bL I)) I I I (go5 ?_);refine cL (ev1 I) call185 (λw hs=>mD hs hnb hdb (by first|omega|exact zci (wM _) oM) (by first|omega|exact zci (wI _) oM)) λU h2 ad J=>?_;obtain⟨G,H,rfl,C,D⟩:=J;refine xY (A:=[]) (r':=.var b4 26 [vB ((qb).num<0),G,H]) (zH (k:=0) (cs:=[_,_,_]) (vs:=[_,_,_]) I I I (ocr I (ocu C (ocu D oc0))) yB (bL I)) I I I (go3 ?_);refine yG (λE S=>zQ I (xN (cs:=[_,_,_]) mh0 underlying26 I yB I) E S) ?_;rw[yDR O];exact⟨_,_,I,C,D⟩
 refine go5 ?_;replace hna:=hna.mono M;replace hda:=hda.mono M;refine cL (ev1 I) call185 (λw hs=>mD hs hna hda (by first|omega|exact zci (wM _) oM) (by first|omega|exact zci (wI _) oM)) λU h2 ad J=>?_;obtain⟨G,H,rfl,C,D⟩:=J;refine xY (A:=[]) (r':=.var b4 26 [vB ((qa).num<0),G,H]) (zH (k:=0) (cs:=[_,_,_]) (vs:=[_,_,_]) I I I (ocr I (ocu C (ocu D oc0))) yB (bL I)) I I I (go3 ?_);refine yG (λE S=>zQ I (xN (cs:=[_,_,_]) mh0 underlying26 I yB I) E S) ?_;rw[yDS O];exact⟨_,_,I,C,D⟩
theorem zYR{n:Int}(hn1:-9223372036854775808<=n)(hn2:n<9223372036854775808):
 Calls prog 75 #[vI n] w0 (Ret w0 h0 (λh r=>wR h r (n:Rat))):=by
 refine cb1 9 (vI n) func75 hs ?_;refine go2 ?_;refine zF (wG (cs:=[vB ((0:Rat).num<0),.slice none 0 0,.slice none 0 0]) yS I (by simp only[zb];rfl)) I I I ?_;intro v2 r2 U;obtain⟨b2,rfl,rfl⟩:=U;refine go7 ?_;refine cL (ev1 I) call121 (λw hs=>zUA hs oM oM) λv6 h1 ad C=>?_;have ab:=gE (n:=n) oM oM;refine cL (vs:=[]) trivial call122 (λw hs=>zPD hs) λv7 h2 Z J=>?_;rw[pP] at J;have aa:=zAQ;replace C:=C.mono Z;refine cL (ev3 I I I) call119 (λw hs=>jV hs C J oM oM) λv8 h3 ac H=>?_
 try simp only[zE] at H
 obtain⟨M,O,rfl,D,G⟩:=H;refine xY (A:=[]) (r':=.var b2 26 [vB ((mkRat (sg (n<(0:Int)) (((n).natAbs))) ((1))).num<0),M,O]) (zH (k:=0) (cs:=[_,_,_]) (vs:=[_,_,_]) I I I (ocr I (ocu D (ocu G oc0))) yB (bL I)) I I I (go3 ?_);refine yG (λE S=>zQ I (xN (cs:=[_,_,_]) mh0 underlying26 I yB I) E S) ?_;rw[zI5] at D G ⊢;exact⟨_,_,I,D,G⟩
theorem zJ9{sa:Prop}{ba vna vda:Value}{xa ya:List Nat}(hba:ba=vB sa)(hna:Us .u32 h0 vna xa)(hda:Us .u32 h0 vda ya)(hlx:xa.length<=100000000000)(hly:ya.length<=100000000000):
 Calls prog 101 #[.agg #[ba,vna,vda]] w0 (Ret w0 h0 (λh r=>∃u,r=.tuple #[u,vI (if dV ya=0 then 3 else 0)]/\wR h u (mkRat (sg sa (val xa)) (dV ya)))):=by
 subst hba;have ai:=vC hna.lt;have ah:=vC hda.lt;refine cb1 22 (.agg #[vB sa,vna,vda]) func101 hs ?_;refine go2 ?_;refine zF (xM (cs:=[_,_,_]) I I) I I I ?_;intro v1 r1 ad;obtain⟨b1,rfl,rfl⟩:=ad;refine zF (wG (cs:=[vB ((0:Rat).num<0),.slice none 0 0,.slice none 0 0]) yS I (by simp only[zb];rfl)) I I I ?_;intro v2 r2 ac;obtain⟨b2,rfl,rfl⟩:=ac;refine uQ ?_;refine uZ (ι:=Mem) 6 (λm_=>MLe h0 m_) (λ_=>[(13,vB (((0:Int)<(↑(ya).length:Int))/\((↑(wH (val (ya))):Int)=(0:Int)))),(1,vP b1 0),(2,vP b2 0)]) (λ_=>[.var b2 26 [vB ((0:Rat).num<0),.slice none 0 0,.slice none 0 0],.var b1 26 [vB sa,vna,vda]]) (λm_=>m_) ?_ ?_
 ·
  refine yD ((0:Int)<(↑(ya).length:Int)) (λhg=>?_) (λhg=>?_)
  ·
   refine gT hg I (go5 ?_);refine cL (ev1 I) call94 (λw hs=>cS hs hda oM) λam h1 O M=>?_
   try simp only[zE] at M
   subst M;refine go4 ?_;refine zS h1 O ⟨?_,I,I,y1i⟩ I I;exact y0e (xS hg)
  refine gF hg I (go6 ?_);refine zS h0 (MLe.refl _) ⟨?_,I,I,y1i⟩ I I;exact y0e (xT hg)
 intro ab C;refine sD ?_;refine gc2 (λH=>?_) λH=>?_
 ·
  refine go2 ?_;refine gv (yO (ps':=[]) (vs:=[vB ((0:Rat).num<0),.slice none 0 0,.slice none 0 0]) underlying26 yS I (vQ underlying26) trivial (by simp only[zb];exact uF)) I (xY (A:=[]) (r':=.var b2 26 [vB ((0:Rat).num<0),.slice none 0 0,.slice none 0 0]) (zH (k:=0) (cs:=[_,_,_]) (vs:=[_,_,_]) I I I I yB (bL I)) I I I (go5 ?_));refine yG (λE S=>vO I (xN (cs:=[_,_,_]) mh0 underlying26 I yB I) (jE I) E S) ?_;have e:=zZZ H;rw[e,zau I,zAJ];exact⟨_,I,wR.zero _⟩
 refine go3 ?_;refine zK 7 _ [] (zai 0 5 [(5,.c),(6,.c),(7,.t),(8,.t)]) yC nX zot nX (λr hr=>hr) (go5 ?_);refine w_c I ?_;replace hna:=hna.mono C;replace hda:=hda.mono C;refine sC (ev1 I) call120 (λw hs=>fK hs hna hda) λak h1 O aa=>?_;have ae:=yES (ya);refine w_c I ?_;replace hna:=hna.mono O;refine sC (ev3 I I I) call119 (λw hs=>jV hs hna aa oM oM) λaj h2 an J=>?_
 try simp only[zE] at J
 obtain⟨U,Z,rfl,D,G⟩:=J;refine gL (A:=[]) (q':=.var b2 26 [vB ((mkRat (sg (sa) (val (xa))) (val (if(ya)=[] then[1] else(ya)))).num<0),U,Z]) I (zH (k:=0) (cs:=[_,_,_]) (vs:=[_,_,_]) I I I (ocr I (ocu D (ocu G oc0))) yB (bL I)) I (iB I (fZ (v:=vI (0)) I) I (go3 ?_));refine yG (λE S=>vO I (xN (cs:=[_,_,_]) mh0 underlying26 I yB I) (jE I) E S) ?_;rw[zae (yGR H)];rw[yBJ] at D G ⊢;exact⟨_,I,_,_,I,D,G⟩
theorem sH{sa:Prop}{ba vna vda:Value}{xa ya:List Nat}(hba:ba=vB sa)(hna:Us .u32 h0 vna xa)(hda:Us .u32 h0 vda ya):
 Calls prog 48 #[.agg #[ba,vna,vda]] w0 (Ret w0 h0 (λh r=>Us .u32 h r (if ya=[] then[1] else ya))):=by
 subst hba;have J:=vC hna.lt;have H:=vC hda.lt;refine cb1 10 (.agg #[vB sa,vna,vda]) func48 hs ?_;refine go2 ?_;refine zF (xM (cs:=[_,_,_]) I I) I I I ?_;intro v1 r1 G;obtain⟨b1,rfl,rfl⟩:=G;refine zJA (λC=>?_) λC=>?_
 ·
  refine go2 ?_;refine zF (gD (kd:=.u32) (p:=1) underlying22 wS I I I) I I I ?_;intro U Z D;obtain rfl:=D;refine yK (by intro z hz;simp only[zne] at hz;subst hz;decide) ?_;intro h1 M O;refine go5 ?_;refine zD I I ?_;rw[zau (zE1.1 C)];exact O
 refine uQ ?_;refine zD I I ?_;rw[zae (λh=>C (zE1.2 h))];exact hda
end
end Go.Proofs.YtboaboflnckgoaaGreat
