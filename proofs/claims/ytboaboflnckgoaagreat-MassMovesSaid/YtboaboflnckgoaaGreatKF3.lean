/- Texts that the proof needs, part 3. -/
import Derived.Test.YtboaboflnckgoaaGreatKF2
set_option linter.unusedVariables false
set_option linter.unusedSimpArgs false
set_option linter.defProp false
namespace Bk
def y3u:=@Pc.here
def y3e:=@Pc.arr
def y4i:=@Pc.fst
def y4u:=@Pc.snd
def y4e:=@Pc.tx
def y5i:=@Pc.ty
def y5u:=@Pc.tz
end Bk
namespace Go.Proofs.YtboaboflnckgoaaGreat
open Bk Go Tryz
set_option maxRecDepth 10000
set_option maxHeartbeats 1000000
attribute [local irreducible] GL GC GQ W OpV
section
variable{w0:World}{h0:Mem}(hs:MLe h0 (mem w0))
include hs
theorem qO{v:Value}{xs:List Nat}(hv:Us .u32 h0 v xs):
 Calls prog 144 #[v] w0 (Ret w0 h0 (λh r=>r=tD 1 v 0 (zB (val xs)).length/\Us .u32 h r (zB (val xs)))):=by
 have H:=hv.lt63;refine cb1 21 v func144 hs ?_;refine rT ?_;refine gcL (ι:=Nat) (λ(k:(Nat))=>(k<=xs.length/\∀i,k<=i->xs.getD i 0=0,[(0,v),(3,vI ↑k)],[],h0,k)) xs.length ?_ ?_
 · exact⟨zbe _,λi hi=>by rw[zoa,zse hi];rfl⟩
 rintro k ⟨J,hz⟩
 refine yW ?_;refine go5 ?_;refine gU 8 15 (vB (((0:Int)<↑k)/\(xs.getD (k-1) 0=0))) ?_ ?_
 ·
  refine yK ((0:Int)<↑k) (λG=>?_) (λG=>?_)
  ·
   refine gT G I (go7 ?_);refine gv (yD (k-1) underlying22 sizeOf127 I I hv oM oM) I (go3 ?_);refine gv (fU (k:=.u32) (q:=0) I I) I (go2 ?_);refine gqU ?_;exact y2e (wE G)
  refine gF G I (go8 ?_);refine gqU ?_;exact y2e (wG G)
 refine gc2 (λC=>?_) λC=>?_
 ·
  refine go9 ?_;refine gqL (k-1) ?_ ?_ (he:=⟨I,?_,y3i⟩)
  ·
   exact⟨by omega,λi hi=>by
    by_cases e:i=k-1
    · rw[e];exact C.2
    · exact hz i oM⟩
  · have:=C.1;omega
  · exact y2e (zbi vI (by have:=C.1;omega))
 refine go9 ?_;refine gv (zAC _ underlying22 sizeOf127 I I hv.shape I oM) I ?_;have D:=hv.sub (lo:=0) (hi:=_) oM oM;refine go4 ?_;refine zF I I ?_;have e:(xs.drop 0).take (k-0)=zB (val xs):=zHU hv.lt J hz (by
  by_cases h0:k=0
  · exact .inl h0
  · exact .inr λh1=>C ⟨by omega,h1⟩)
 rw[e] at D;have M:(zB (val xs)).length=k:=by
  rw[<-e,zei,zhe];omega
 refine⟨?_,D⟩;rw[M]
theorem nat_of{n:Nat}(hn:n<18446744073709551616):
 Calls prog 167 #[vU .u64 n] w0 (Ret w0 h0 (λh r=>Us .u32 h r (zB n))):=by
 refine cb1 10 (vU .u64 n) func167 hs ?_;refine jF ?_;refine zH (zF7 (kd:=.u32) underlying22 vN I I I I) I I I ?_;intro M O D;obtain rfl:=D;refine yN (by intro x hx;simp only[zfi,zgi,or_false] at hx;simp only[ub];omega) ?_;intro h1 H hb;refine cL (ev1 I) call144 (λw hs=>qO hs hb) λJ h2 G C=>?_;replace C:=C.2;refine go4 ?_;refine zF I I ?_;have e:val [n%4294967296,n/2^32%4294967296]=n:=by simp only[val];omega
 rw[e] at C;exact C
theorem w5{v v':Value}{xs ys:List Nat}(hv:Us .u32 h0 v xs)(hv':Us .u32 h0 v' ys):
 Calls prog 98 #[v,v'] w0 (Ret w0 h0 (λ_ r=>r=vI (sZ (val xs) (val ys)))):=by
 refine cb2 45 v v' func98 hs ?_;refine go8 ?_;refine cL (ev1 I) call144 (λw hs=>qO hs hv) λv7 h1 ab C=>?_;replace C:=C.2;refine go1 ?_;replace hv':=hv'.mono ab;refine cL (ev1 I) call144 (λw hs=>qO hs hv') λv9 h2 aa D=>?_;replace D:=D.2;replace C:=C.mono aa;generalize hA:zB (val xs)=AA at *;generalize hB:zB (val ys)=BB at *;have vA:val AA=val xs:=by rw[<-hA,zE]
 have J:val BB=val ys:=by rw[<-hB,zE]
 have fA:Fit AA:=C.lt;have fB:Fit BB:=D.lt;have lA:=C.lt63;have lB:=D.lt63;refine rT ?_;refine cnd (λZ=>?_) λZ=>?_
 ·
  refine u6 (λU=>?_) λU=>?_
  ·
   refine go8 ?_;refine zF I I ?_;rw[zCD (rY (by rw[hA,hB];omega))]
  refine go9 ?_;refine zF I I ?_;rw[zCE (rY (by rw[hA,hB];omega))]
 have hl:AA.length=BB.length:=by omega
 refine jF ?_;refine gcL (ι:=Nat) (λ(j:(Nat))=>(j<=AA.length/\AA.drop j=BB.drop j,[(0,v7),(1,v9),(5,vI (↑j-1))],[],h2,j)) AA.length ?_ ?_
 · exact⟨zbe _,by rw[zle (zbe _),zle oM]⟩
 rintro j ⟨hj,M⟩
 refine yW ?_;refine gc7 (λO=>?_) λO=>?_
 ·
  refine go5 ?_;refine zK 9 _ [] (zai 0 9 []) yA nX zot nX (λr hr=>hr) (go2 ?_);refine w_q I (λh' L' hh hR=>yD (j-1) underlying22 sizeOf127 I I (C.mono hh) oM oM) I (w_q I (λh' L' hh hR=>wC isAgg127 I (C.mono hh) oM) I (go2 ?_));refine w_q I (λh' L' hh hR=>yD (j-1) underlying22 sizeOf127 I I (D.mono hh) oM oM) I (w_q I (λh' L' hh hR=>wC isAgg127 I (D.mono hh) oM) I (gc3 (λH=>?_) λH=>?_))
  ·
   refine go2 ?_;refine zK 9 _ [] (zai 0 9 []) yA nX zot nX (λr hr=>hr) (go2 ?_);refine w_q I (λh' L' hh hR=>yD (j-1) underlying22 sizeOf127 I I (C.mono hh) oM oM) I (w_q I (λh' L' hh hR=>wC isAgg127 I (C.mono hh) oM) I (go2 ?_));refine w_q I (λh' L' hh hR=>yD (j-1) underlying22 sizeOf127 I I (D.mono hh) oM oM) I (w_q I (λh' L' hh hR=>wC isAgg127 I (D.mono hh) oM) I (gc3 (λG=>?_) λG=>?_))
   ·
    refine jF ?_;refine zF I I ?_;rw[<-vA,<-J,zCD (zEG fA hl oM hj M G)]
   refine pV ?_;refine zF I I ?_;rw[<-vA,<-J,zCE (zEG fB hl.symm oM oM M.symm oM)]
  refine go8 ?_;refine gqL (j-1) ?_ ?_ (he:=⟨I,I,?_,y3i⟩)
  ·
   refine⟨by omega,?_⟩;rw[tQ AA (j-1) oM,tQ BB (j-1) oM];have e:j-1+1=j:=by omega
   rw[e,M,zdi H]
  · omega
  · exact y2e (zbi vI oM)
 refine jI ?_;refine zF I I ?_;have h0:j=0:=by omega
 subst h0;simp only[ybu] at M;rw[<-vA,<-J,M,zR6]
theorem bJ{v:Value}{xs:List Nat}(hv:Us .u32 h0 v xs)(hl:xs.length<=1099511627776):
 Calls prog 103 #[v] w0 (rA w0 h0 (λ_ r L=>L=[.us 127 .u32 r xs])):=by
 refine cb1 8 v func103 hs ?_;refine go9 ?_;refine gv (zO2 underlying22 I (let ⟨a,c,hv⟩:=hv.one;⟨a,_,c,hv⟩)) I (gc2 (λC=>?_) λC=>?_)
 ·
  refine go3 ?_;refine zDF (E:=127) (k:=.u32) (go4 ?_);refine qL I I ?_;obtain⟨m,H,rfl⟩:=C;have hx:xs=[]:=hv.nil_of;subst hx
  rfl
 refine go4 ?_;refine zH (zF8 (kd:=.u32) underlying22 vN I I) I I I ?_;intro M U G;obtain rfl:=G;refine go1 ?_;refine xU (A:=[]) (kD (kd:=.u32) (bytes:=4) underlying22 vN I I I I I hv (by simp only[lN];omega) (by simp only[lN];omega)) I I I ?_;intro J O D;obtain rfl:=D;refine go4 ?_;refine qL I I ?_
 rfl
theorem nD{v v':Value}{xs ys:List Nat}(hv:Us .u32 h0 v xs)(hv':Us .u32 h0 v' ys)(hl:xs.length<=1099511627776)(hl':ys.length<=1099511627776):
 Calls prog 100 #[v,v'] w0 (Ret w0 h0 (λh r=>Us .u32 h r (zB (val xs+val ys)))):=by
 refine cb2 58 v v' func100 hs ?_;refine go5 ?_;refine jC (ι:=Value×List Nat×Value×List Nat) (λ(J,D,O,G)=>Us .u32 h0 J D/\Us .u32 h0 O G/\G.length<=D.length/\val D+val G=val xs+val ys/\D.length<=1099511627776) (λ(J,D,O,G)=>[(0,J),(1,O)]) (λ(J,D,O,G)=>[]) (λ(J,D,O,G)=>h0) ?_ ?_
 ·
  refine go5 ?_;refine gv (vT underlying22 I hv') I (gc3 (λad=>?_) λad=>?_)
  ·
   refine go6 ?_;refine zY (v',ys,v,xs) ?_ e2z I I;exact⟨hv',hv,by omega,by omega,hl'⟩
  refine go1 ?_;refine zY (v,xs,v',ys) ?_ e2z I I;exact⟨hv,hv',by omega,I,hl⟩
 rintro⟨J,D,O,G⟩ ⟨ha,hb,an,zTY,ao⟩
 refine yW ?_;refine go5 ?_;refine jJ (kd:=.u32) (by':=4) (D.length+1) underlying22 vN I I I I I oM oM oM oM I ?_;intro M;refine go5 ?_;refine asg (v:=vU .u64 0) I I (jI ?_);refine kQ (ι:=List Nat×Nat) (λ(C,c)=>C.length<=D.length/\Fit C/\c<=1/\val C+4294967296^C.length*c=val (D.take C.length)+val (G.take C.length)) (λ(C,c)=>[(0,J),(1,O),(5,M),(6,vU .u64 c),(20,J),(21,vI ↑D.length),(22,vI ↑C.length)]) (λ(C,c)=>[.us 127 .u32 M (sE C (D.length+1))]) (λ(C,c)=>h0) (λ(C,c)=>D.length-C.length) ([],0) ?_ e7 I I ?_
 · exact⟨by simp,λx hx=>by simp at hx,by omega,by simp[val]⟩
 rintro⟨C,c⟩ ⟨am,aa,ar,Z⟩
 refine yW ?_;refine gc6 (λac=>?_) λac=>?_
 ·
  refine go7 ?_;refine gv (yD _ underlying22 sizeOf127 I I ha I oM) I (go1 ?_);have ak:=ha.get32 C.length;have aj:=hb.get32 C.length;refine pV ?_;refine jC (ι:=Unit) (λ(_u:(Unit))=>True) (λ(_u:(Unit))=>[(0,J),(1,O),(5,M),(6,vU .u64 (c+D.getD C.length 0+G.getD C.length 0)),(7,vI ↑C.length),(20,J),(21,vI ↑D.length),(22,vI ↑C.length)]) (λ(_u:(Unit))=>[.us 127 .u32 M (sE C (D.length+1))]) (λ(_u:(Unit))=>h0) ?_ ?_
  ·
   refine gc8 (λab=>?_) λab=>?_
   ·
    refine go4 ?_;refine gv (yD _ underlying22 sizeOf127 I I hb I oM) I (go5 ?_);refine zY (()) ?_ e8 I I
    trivial
   refine go1 ?_;refine zY (()) ?_ ⟨I,I,I,?_,I,I,I,I,y3i⟩ I I
   · trivial
   · exact y2e (zbi (vU .u64) (by rw[sW (xs:=G) oM];omega))
  rintro _u ah
  refine yW ?_;refine go6 ?_;refine gv (yX (A:=[]) _ underlying22 sizeOf127 I I I (by rw[uO oM];omega)) I (wS sizeOf127 I I (by rw[uO oM];omega) (pV ?_));refine jM (C++[(c+D.getD C.length 0+G.getD C.length 0)%4294967296],(c+D.getD C.length 0+G.getD C.length 0)/2^32) ?_ ?_ ⟨I,I,I,I,I,I,?_,y3i⟩ ?_ I
  ·
   have ae:C.length<D.length:=by omega
   refine⟨by simp;omega,uC aa (aM oM),by omega,?_⟩;rw[lAz,zju,uV D _ ae,uK G,rO,zke];have e:=z4i (c+D.getD C.length 0+G.getD C.length 0) 4294967296;have e2:(2:Nat)^32=4294967296:=I;rw[e2];generalize (c+D.getD C.length 0+G.getD C.length 0)/4294967296=q at *;generalize (c+D.getD C.length 0+G.getD C.length 0)%4294967296=r at *;grind
  ·
   dsimp only;simp;omega
  · exact y2e (zbi vI zo1)
  try dsimp only[List.nil_append,List.cons_append]
  rw[pL oM]
 refine jF ?_;refine gv (yX (A:=[]) (D.length) underlying22 sizeOf127 I I zoz (by rw[uO oM];omega)) I (wS sizeOf127 I I (by rw[uO oM];omega) (go5 ?_));have hk:C.length=D.length:=by omega
 have U:(sE C (D.length+1)).set D.length (c%4294967296)=C++[c%4294967296]:=by
  rw[<-hk,pL oM,bX zo1]
 refine yN (by rw[U];exact uC aa (aM oM)) ?_;intro h1 aq ho;refine cL (ev1 I) call144 (λw hs=>qO hs ho) λai h2 ap H=>?_;replace H:=H.2;refine go4 ?_;refine zF I I ?_;have e:val (C++[c%4294967296])=val xs+val ys:=by
  rw[rO,zoh oM,Z,wH oM,wH oM];exact zTY
 rw[U,e] at H;exact H
theorem zEP{v v':Value}{xs ys:List Nat}(hv:Us .u32 h0 v xs)(hv':Us .u32 h0 v' ys)(hl:xs.length<=1099511627776):
 Calls prog 162 #[v,v'] w0 (Ret w0 h0 (λh r=>∃u,r=.tuple #[u,vI (if val xs<val ys then 7 else 0)]/\Us .u32 h u (zB (val xs-val ys)))):=by
 refine cb2 54 v v' func162 hs ?_;refine jI ?_;refine cL (ev2 I I) call98 (λw hs=>w5 hs hv hv') λan h1 ab aa=>?_;subst aa;refine gc3 (λH=>?_) λH=>?_
 ·
  have M:=fZ.1 H;refine go8 ?_;refine uQ I I I ?_;rw[zau M,Nat.sub_eq_zero_of_le (ydu M),yY];exact⟨_,I,Us.nil _ _⟩
 have aj:val ys<=val xs:=ybe λhc=>H (fZ.2 hc);refine go5 ?_;replace hv':=hv'.mono ab;refine cL (ev1 I) call144 (λw hs=>qO hs hv') λU h2 ai G=>?_;replace G:=G.2;replace hv:=hv.mono (ab.trans ai);refine go7 ?_;refine jJ (kd:=.u32) (by':=4) _ underlying22 vN I I I I I I I oM oM I ?_;intro J;refine go5 ?_;refine asg (v:=vU .u64 0) I I (jI ?_);refine kQ (ι:=List Nat×Nat) (λ(C,c)=>C.length<=xs.length/\Fit C/\c<=1/\val C+val ((zB (val ys)).take C.length)=val (xs.take C.length)+4294967296^C.length*c) (λ(C,c)=>[(1,U),(6,J),(7,vU .u64 c),(21,v),(22,vI ↑xs.length),(23,vI ↑C.length)]) (λ(C,c)=>[.us 127 .u32 J (sE C xs.length)]) (λ(C,c)=>h2) (λ(C,c)=>xs.length-C.length) ([],0) ?_ e6z I I ?_
 · exact⟨by simp,λx hx=>by simp at hx,by omega,by simp[val]⟩
 rintro⟨C,c⟩ ⟨aq,O,av,Z⟩
 refine yW ?_;refine gc6 (λad=>?_) λad=>?_
 ·
  refine go7 ?_;refine gv (yD _ underlying22 sizeOf127 I I hv I oM) I (go1 ?_);have ap:=hv.get32 C.length;have ao:=G.get32 C.length;refine qE ?_;refine jC (ι:=Unit) (λ(_u:(Unit))=>True) (λ(_u:(Unit))=>[(1,U),(6,J),(8,vI ↑C.length),(9,vU .u32 (xs.getD C.length 0)),(10,vU .u64 (c+(zB (val ys)).getD C.length 0)),(21,v),(22,vI ↑xs.length),(23,vI ↑C.length)]) (λ(_u:(Unit))=>[.us 127 .u32 J (sE C xs.length)]) (λ(_u:(Unit))=>h2) ?_ ?_
  ·
   refine gc8 (λac=>?_) λac=>?_
   ·
    refine go4 ?_;refine gv (yD _ underlying22 sizeOf127 I I G I oM) I (go5 ?_);refine zY (()) ?_ e8 I I
    trivial
   refine go1 ?_;refine zY (()) ?_ ⟨I,I,I,I,?_,I,I,I,y3i⟩ I I
   · trivial
   · exact y2e (zbi (vU .u64) (by rw[sW (xs:=zB (val ys)) oM];omega))
  rintro _u ak
  refine yW ?_;refine go5 ?_;refine gv (mG (k:=.u64) (W:=18446744073709551616) I I I I oM) I (go9 ?_);refine gv (yX (A:=[]) _ underlying22 sizeOf127 I I I (by rw[uO oM];omega)) I (wS sizeOf127 I I (by rw[uO oM];omega) (go4 ?_));refine gv (gW (k:=.u64) (s:=63) (yk:=.u64) I I I (by simp only[ub];omega)) I (go8 ?_);generalize hX:xs.getD C.length 0=X at *;generalize hY:(zB (val ys)).getD C.length 0=Y at *;refine jM (C++[(X+18446744073709551616-(c+Y))%18446744073709551616%4294967296],(X+18446744073709551616-(c+Y))%18446744073709551616/2^63) ?_ ?_ ⟨I,I,I,I,I,?_,y3i⟩ ?_ I
  ·
   have M:C.length<xs.length:=by omega
   refine⟨by simp;omega,uC O (aM oM),by omega,?_⟩;rw[lAz,zju,uV xs _ M,uK (zB (val ys)),rO,zke,hX,hY];have e:(X+18446744073709551616-(c+Y))%18446744073709551616%4294967296+c+Y=X+4294967296*((X+18446744073709551616-(c+Y))%18446744073709551616/2^63):=by omega
   generalize (X+18446744073709551616-(c+Y))%18446744073709551616/2^63=q at *;generalize (X+18446744073709551616-(c+Y))%18446744073709551616%4294967296=r at *;grind
  ·
   dsimp only;simp;omega
  · exact y2e (zbi vI zo1)
  try dsimp only[List.nil_append,List.cons_append]
  rw[pL oM]
 refine go8 ?_;have hk:C.length=xs.length:=by omega
 rw[bX hk];refine yN (by exact O) ?_;intro h3 ah ho;refine cL (ev1 I) call144 (λw hs=>qO hs ho) λam h4 ae D=>?_;replace D:=D.2;refine go5 ?_;refine uQ I I I ?_;replace hv:=hv.mono (ah.trans ae);rw[zae oM];refine⟨_,I,?_⟩;have e:val C=val xs-val ys:=by
  have au:(zB (val ys)).length<=xs.length:=zci (zW aj) (vZ hv.lt);rw[wH oM,zE,wH oM] at Z;have h1:=gE O;have h2:c=0:=zdu λar=>by
   have:c=1:=by omega
   subst this;omega
  subst h2;omega
 rw[e] at D;exact D
theorem sH{v v':Value}{xs ys:List Nat}(hv:Us .u32 h0 v xs)(hv':Us .u32 h0 v' ys)(hl:xs.length<=1099511627776)(hl':ys.length<=1099511627776):
 Calls prog 99 #[v,v'] w0 (Ret w0 h0 (λh r=>Us .u32 h r (zB (val xs*val ys)))):=by
 have av:Fit xs:=hv.lt;have au:Fit ys:=hv'.lt;refine cb2 69 v v' func99 hs ?_;refine qE ?_;refine gv (vT underlying22 I hv') I (go1 ?_);refine jJ (kd:=.u32) (by':=4) (xs.length+ys.length) underlying22 vN I I I I I oM oM oM oM I ?_;intro H;refine jF ?_;refine gcL (ι:=Nat×List Nat) (λ(k,J)=>(k<=xs.length/\J.length=xs.length+ys.length/\Fit J/\val J=val (xs.take k)*val ys/\∀i,k+ys.length<=i->J.getD i 0=0,[(1,v'),(5,H),(17,v),(18,vI ↑xs.length),(19,vI ↑k)],[.us 127 .u32 H J],h0,xs.length-k)) (0,List.replicate (xs.length+ys.length) 0) ?_ ?_
 · exact⟨zri _,by simp,jD _,by rw[tW];simp[val],λi _=>dM _ _⟩
 rintro⟨k,J⟩ ⟨hk,ad,Z,M,hz⟩
 refine yW ?_;refine gc6 (λah=>?_) λah=>?_
 ·
  refine go7 ?_;refine gv (yD _ underlying22 sizeOf127 I I hv I oM) I (go1 ?_);have ap:=hv.get32 k;refine go8 ?_;refine gv (fU (k:=.u32) (q:=0) I I) I (gc2 (λG=>?_) λG=>?_)
  ·
   have aa:xs.getD k 0=0:=G;refine go8 ?_;refine gqL (k+1,J) ?_ ?_
   · exact⟨by omega,ad,Z,by rw[M,uV xs k oM,aa];simp,λi hi=>hz i oM⟩
   omega
  have aa:xs.getD k 0≠0:=G;refine go4 ?_;refine asg (v:=vU .u64 0) I I (go6 ?_);refine gv (vT underlying22 I hv') I (go4 ?_);refine gcL (ι:=Nat×List Nat×Nat) (λ(j,C,c)=>(j<=ys.length/\C.length=xs.length+ys.length/\Fit C/\c<4294967296/\val C+4294967296^(k+j)*c=val J+4294967296^k*(xs.getD k 0*val (ys.take j))/\∀i,k+ys.length<=i->C.getD i 0=0,[(1,v'),(5,H),(6,vI ↑k),(7,vU .u32 (xs.getD k 0)),(8,vU .u64 c),(17,v),(18,vI ↑xs.length),(19,vI ↑k),(26,v'),(27,vI ↑ys.length),(28,vI ↑j)],[.us 127 .u32 H C],h0,ys.length-j)) (0,J,0) ?_ ?_
  · exact⟨zri _,ad,Z,by omega,by simp[val],hz⟩
  rintro⟨j,C,c⟩ ⟨hj,ac,U,aj,ab,O⟩
  refine yW ?_;refine gc6 (λae=>?_) λae=>?_
  ·
   refine go7 ?_;refine gv (yD _ underlying22 sizeOf127 I I hv' I oM) I (gv (wC isAgg127 I hv' oM) I ?_);have ao:=hv'.get32 j;have an:=qY U (k+j);have am:xs.getD k 0*ys.getD j 0<=4294967295*4294967295:=z6e oM oM;refine zDD ?_;refine gv (yX (A:=[]) (k+j) underlying22 sizeOf127 I I oM oM) I (gv (fC (A:=[]) isAgg127 I oM) I (rT ?_));refine gv (yX (A:=[]) (k+j) underlying22 sizeOf127 I I oM oM) I (wS sizeOf127 I I oM (pV ?_));refine gqL (j+1,C.set (k+j) ((c+(xs.getD k 0*ys.getD j 0+C.getD (k+j) 0))%4294967296),(c+(xs.getD k 0*ys.getD j 0+C.getD (k+j) 0))/2^32) ?_ ?_
   ·
    refine⟨by omega,by simp[ac],nI U _ oM,by omega,?_,λi hi=>?_⟩
    · have h1:=lW (xs:=C) (i:=k+j) oM ((c+(xs.getD k 0*ys.getD j 0+C.getD (k+j) 0))%4294967296)
      have e:=z4i (c+(xs.getD k 0*ys.getD j 0+C.getD (k+j) 0)) 4294967296;have e2:(2:Nat)^32=4294967296:=I;rw[uV ys j oM,e2];have ep:(4294967296:Nat)^(k+(j+1))=4294967296^k*4294967296^j*4294967296:=by rw[<-z3u,zke,zlu]
      rw[ep];rw[zlu] at h1 ab;generalize (c+(xs.getD k 0*ys.getD j 0+C.getD (k+j) 0))/4294967296=q at *;generalize (c+(xs.getD k 0*ys.getD j 0+C.getD (k+j) 0))%4294967296=r at *;grind
    · rw[jB oM];exact O i hi
   omega
  refine go9 ?_;refine gv (vT underlying22 I hv') I (go3 ?_);refine gv (yX (A:=[]) (k+ys.length) underlying22 sizeOf127 I I oM oM) I (wS sizeOf127 I I oM (go7 ?_));refine gqL (k+1,C.set (k+ys.length) (c%4294967296)) ?_ ?_
  ·
   have hj:j=ys.length:=by omega
   subst hj;refine⟨by omega,by simp[ac],nI U _ oM,?_,λi hi=>?_⟩
   · have h1:=lW (xs:=C) (i:=k+ys.length) oM (c%4294967296)
     rw[O _ (zbe _)] at h1;rw[wH (zbe _)] at ab;rw[zoh aj] at h1 ⊢;rw[uV xs k oM];grind
   · rw[jB oM];exact O i oM
  omega
 refine go8 ?_;refine yN (by exact Z) ?_;intro h1 ar ho;refine cL (ev1 I) call144 (λw hs=>qO hs ho) λak h2 aq D=>?_;replace D:=D.2;refine go4 ?_;refine zF I I ?_;have ai:k=xs.length:=by omega
 rw[M,ai,wH (zbe _)] at D;exact D
end
set_option maxRecDepth 100000 in
section
variable{w0:World}{h0:Mem}(hs:MLe h0 (mem w0))
include hs
theorem zG3{x:Nat}(hx:x<4294967296):
 Calls prog 145 #[vU .u32 x] w0 (Ret w0 h0 (λ_ r=>r=vI ↑(wU x))):=by
 refine cb1 19 (vU .u32 x) func145 hs ?_;refine go5 ?_;refine jC (ι:=Nat×Nat) (λ(D,G)=>D<65536/\G<=16/\wU x=wU D+G) (λ(D,G)=>[(0,vU .u32 D),(2,vI ↑G)]) (λ(D,G)=>[]) (λ(D,G)=>h0) ?_ ?_
 ·
  refine go3 ?_;refine gv (cE (k:=.u32) (q:=65536) I I) I (gc2 (λM=>?_) λM=>?_)
  ·
   refine go3 ?_;refine gv (gW (k:=.u32) (s:=16) (yk:=.u64) I I I (by simp only[ub];omega)) I (go6 ?_);refine zY (x/2^16,16) ?_ e2z I I;exact⟨by omega,by omega,zDN M⟩
  refine go1 ?_;refine zY (x,0) ?_ e2z I I;exact⟨by omega,by omega,I⟩
 rintro⟨D,G⟩ ⟨Z,ab,O⟩
 refine yW ?_;refine jC (ι:=Nat×Nat) (λ(C,H)=>C<256/\H<=24/\wU x=wU C+H) (λ(C,H)=>[(0,vU .u32 C),(2,vI ↑H)]) (λ(C,H)=>[]) (λ(C,H)=>h0) ?_ ?_
 ·
  refine go3 ?_;refine gv (cE (k:=.u32) (q:=256) I I) I (gc2 (λJ=>?_) λJ=>?_)
  ·
   refine go3 ?_;refine gv (gW (k:=.u32) (s:=8) (yk:=.u64) I I I (by simp only[ub];omega)) I (go8 ?_);refine zY (D/2^8,G+8) ?_ ⟨I,?_,y3i⟩ I I
   · exact⟨by omega,by omega,by rw[O,zDN (k:=8) J];omega⟩
   · exact y2e (zbi vI oM)
  refine go1 ?_;refine zY (D,G) ?_ e2z I I;exact⟨by omega,by omega,O⟩
 rintro⟨C,H⟩ ⟨U,aa,ad⟩
 refine yW ?_;refine go4 ?_;refine gv (tL (k:=.u32) (k':=.u8) (W:=256) underlying127 underlying5 I I I) I ?_;have ac:wU C<=8:=lO (k:=8) oM;refine eE (zJS (λi=>wU i) (C%256) underlying9 I I I (by decide +kernel) (by show C%256<256;omega)) I I I ?_;rw[zoh U];refine gv (zO3 (k:=.u8) underlying5 underlying3 I oM) I (go5 ?_);refine zF I I ?_;exact zbi vI oM
theorem zUD{x:Nat}(hx:x<4294967296):
 Calls prog 183 #[vU .u32 x] w0 (Ret w0 h0 (λ_ r=>r=vI ↑(32-wU x))):=by
 refine cb1 6 (vU .u32 x) func183 hs ?_;refine go8 ?_;refine cL (ev1 I) call145 (λw hs=>zG3 hs oM) λv4 h1 D C=>?_;subst C;have hb:wU x<=32:=lO (k:=32) oM;refine gv (jY (p:=32) I I oM oM) I (go4 ?_);refine zF I I ?_;exact zbi vI oM
theorem bU{v:Value}{xs:List Nat}(hv:Us .u32 h0 v xs)(hl:xs.length<=1099511627776):
 Calls prog 94 #[v] w0 (Ret w0 h0 (λ_ r=>r=vI ↑(wU (val xs)))):=by
 refine cb1 20 v func94 hs ?_;refine go8 ?_;refine cL (ev1 I) call144 (λw hs=>qO hs hv) λv4 h1 H C=>?_;replace C:=C.2;replace hv:=hv.mono H;have ab:=vZ hv.lt;generalize M:zB (val xs)=AA at *;have O:val AA=val xs:=by rw[<-M,zE]
 have U:Fit AA:=C.lt;refine zGT (λJ=>?_) λJ=>?_
 ·
  refine go7 ?_;refine zF I I ?_;have h0:AA=[]:=zof oM;rw[<-O,h0];rfl
 refine go6 ?_;have G:0<AA.length:=by omega
 refine go1 ?_;refine gv (aX (p:=32) I I oM oM) I (go4 ?_);refine gv (yD (AA.length-1) underlying22 sizeOf127 I I C oM oM) I (go1 ?_);have aa:=qY U (AA.length-1);have hb:=lO (n:=AA.getD (AA.length-1) 0) (k:=32) oM;refine cL (ev1 I) call145 (λw hs=>zG3 hs oM) λZ h2 ac D=>?_;subst D;refine go5 ?_;refine zF I I ?_;rw[<-O,zDM U (k:=AA.length-1) oM (by rw[<-M];exact rI (by rw[M];exact G))];exact zbi vI oM
theorem zMN{v:Value}{xs:List Nat}(hv:Us .u32 h0 v xs)(hl:xs.length<=2):
 Calls prog 192 #[v] w0 (Ret w0 h0 (λ_ r=>r=vU .u64 (val xs))):=by
 have H:Fit xs:=hv.lt;refine cb1 21 v func192 hs ?_;refine go2 ?_;refine asg (v:=vU .u64 0) I I (go4 ?_);refine asg (v:=vU .u64 0) I I (jF ?_);have D:val (xs.drop xs.length)=0:=by rw[zle (zbe _)];rfl
 refine kQ (ι:=Nat) (λ(j:(Nat))=>j<=xs.length) (λ(j:(Nat))=>[(0,v),(3,vU .u64 (val (xs.drop j))),(4,vI (↑j-1))]) (λ(j:(Nat))=>[]) (λ(j:(Nat))=>h0) (λ(j:(Nat))=>j) xs.length ?_ ⟨?_,?_,?_,y3i⟩ I I ?_
 · exact zbe _
 · exact I
 · exact y2e (zbi (vU .u64) D.symm)
 · exact I
 rintro j J
 refine yW ?_;refine gc7 (λG=>?_) λG=>?_
 ·
  refine go6 ?_;refine gv (gX (k:=.u64) (s:=32) (yk:=.u64) (W:=18446744073709551616) I I I I) I (go2 ?_);refine gv (yD (j-1) underlying22 sizeOf127 I I hv oM oM) I (go1 ?_);have C:=hv.get32 (j-1);refine go1 ?_;refine gv (rD (k:=.u64) I I I (by simp only[ub];omega) (by simp only[ub];omega)) I ?_;rw[cF (by
   have h2:=gE (mW H j);rw[zhe] at h2;have h3:(4294967296:Nat)^(xs.length-j)<=4294967296^1:=zii oM oM;omega) C]
  refine go9 ?_;refine jM (j-1) ?_ ?_ ⟨I,?_,?_,y3i⟩ I I
  · omega
  · omega
  ·
   rw[kF xs (j-1) oM];exact y2e (zbi (vU .u64) (by rw[show j-1+1=j by omega];omega))
  · exact y2e (zbi vI oM)
 refine jF ?_;refine zF I I ?_;rw[show j=0 by omega];rfl
theorem zTM{v:Value}{xs:List Nat}{b:Nat}(hv:Us .u32 h0 v xs)(hb:0<b)(hb':b<4294967296)(hl:xs.length<=1099511627776):
 Calls prog 182 #[v,vU .u32 b] w0 (Ret w0 h0 (λh r=>∃u,r=.tuple #[u,vU .u32 (val xs%b)]/\Us .u32 h u (zB (val xs/b)))):=by
 have hf:Fit xs:=hv.lt;refine cb2 43 v (vU .u32 b) func182 hs ?_;refine go3 ?_;refine asg (v:=vU .u32 0) I I (go6 ?_);refine jJ (kd:=.u32) (by':=4) _ underlying22 vN I I I I I I I oM oM I ?_;intro H;refine go5 ?_;refine asg (v:=vU .u64 0) I I (jF ?_);refine kQ (ι:=Nat×List Nat×Nat) (λ(j,D,r)=>j<=xs.length/\D.length=xs.length-j/\Fit D/\r<b/\val (xs.drop j)=b*val D+r) (λ(j,D,r)=>[(0,v),(1,vU .u32 b),(6,H),(7,vU .u64 r),(8,vI (↑j-1))]) (λ(j,D,r)=>[.us 127 .u32 H (fL j D)]) (λ(j,D,r)=>h0) (λ(j,D,r)=>j) (xs.length,[],0) ?_ e5 ?_ I ?_
 · exact⟨zbe _,by simp,λx hx=>by simp at hx,hb,by rw[zle (zbe _)];rfl⟩
 ·
  try dsimp only[List.nil_append,List.cons_append]
  exact zbi (λz=>[Res.us 127 .u32 H z]) (lK _)
 rintro⟨j,D,r⟩ ⟨hj,ab,J,U,C⟩
 refine yW ?_;refine gc7 (λM=>?_) λM=>?_
 ·
  refine go7 ?_;refine gv (gX (k:=.u64) (s:=32) (yk:=.u64) (W:=18446744073709551616) I I I I) I (go2 ?_);refine gv (yD (j-1) underlying22 sizeOf127 I I hv oM oM) I (go1 ?_);have O:=hv.get32 (j-1);refine go1 ?_;refine gv (rD (k:=.u64) I I I (by simp only[ub];omega) (by simp only[ub];omega)) I ?_;rw[cF oM O];generalize ht:r*4294967296+xs.getD (j-1) 0=t at *;have hq:t/b<4294967296:=z3i (by rw[<-ht];have h1:(r+1)*4294967296<=b*4294967296:=zfu _ U;omega);refine qE ?_;refine gv (bR (k:=.u64) (W:=18446744073709551616) I I I I oM oM) I (gv (vV (k:=.u64) (k':=.u32) (W:=4294967296) underlying130 underlying127 I I I oM) I (gv (yX (A:=[]) (j-1) underlying22 sizeOf127 I I oM (by rw[jP];omega)) I (wS sizeOf127 I I (by rw[jP];omega) (go6 ?_))));refine gv (bQ (k:=.u64) I I oM) I (go9 ?_);refine jM (j-1,t/b::D,t%b) ?_ ?_ ⟨I,I,I,I,?_,y3i⟩ ?_ I
  ·
   refine⟨by omega,by simp only[lC];omega,rV.2 ⟨hq,J⟩,zcu _ hb,?_⟩;rw[kF xs (j-1) oM,show j-1+1=j by omega,val];exact zFA C ht.symm I I
  ·
   dsimp only;omega
  · exact y2e (zbi vI oM)
  try dsimp only[List.nil_append,List.cons_append]
  rw[lJ oM]
 refine go8 ?_;have Z:j=0:=by omega
 subst Z;rw[bY];refine yN (by exact J) ?_;intro h1 ad ho;refine cL (ev1 I) call144 (λw hs=>qO hs ho) λaa h2 ac G=>?_;replace G:=G.2;refine go1 ?_;refine gv (vV (k:=.u64) (k':=.u32) (W:=4294967296) underlying130 underlying127 I I I oM) I (go5 ?_);refine uQ I I I ?_;simp only[ybu] at C;have e1:val xs/b=val D:=by rw[C,Nat.mul_add_div hb,z0e U];omega
 have e2:val xs%b=r:=by rw[C,Nat.mul_add_mod,zoh U]
 rw[e1,e2];exact⟨_,I,G⟩
theorem w3{v:Value}{xs:List Nat}{s:Nat}(hv:Us .u32 h0 v xs)(hs32:s<32)(hl:xs.length<=1099511627776):
 Calls prog 146 #[v,vI ↑s] w0 (rA w0 h0 (λ_ r L=>∃us,L=[.us 127 .u32 r us]/\us.length=xs.length+1/\Fit us/\val us=val xs*2^s)):=by
 have hf:Fit xs:=hv.lt;have hp:2^s<=2147483648:=zii (n:=2) oM (show s<=31 by omega);have M:0<2^s:=zqu oM;refine cb2 41 v (vI ↑s) func146 hs ?_;refine qE ?_;refine jJ (kd:=.u32) (by':=4) (xs.length+1) underlying22 vN I I I I I oM oM oM oM I ?_;intro D;refine go5 ?_;refine asg (v:=vU .u64 0) I I (jI ?_);refine kQ (ι:=List Nat×Nat) (λ(C,c)=>C.length<=xs.length/\Fit C/\c<2^s/\val C+4294967296^C.length*c=val (xs.take C.length)*2^s) (λ(C,c)=>[(0,v),(1,vI ↑s),(5,D),(6,vU .u64 c),(13,v),(14,vI ↑xs.length),(15,vI ↑C.length)]) (λ(C,c)=>[.us 127 .u32 D (sE C (xs.length+1))]) (λ(C,c)=>h0) (λ(C,c)=>xs.length-C.length) ([],0) ?_ e7 I I ?_
 · exact⟨by simp,λx hx=>by simp at hx,M,by simp[val]⟩
 rintro⟨C,c⟩ ⟨aa,H,hc,G⟩
 refine yW ?_;refine gc6 (λJ=>?_) λJ=>?_
 ·
  refine go7 ?_;refine gv (yD _ underlying22 sizeOf127 I I hv I oM) I (go1 ?_);have Z:=hv.get32 C.length;have U:xs.getD C.length 0*2^s<18446744073709551616-4294967296:=by
   have:=z6e (show xs.getD C.length 0<=4294967295 by omega) hp;omega
  refine qE ?_;refine gv (gX (k:=.u64) (s:=s) (yk:=.i64) (W:=18446744073709551616) I I I I) I ?_;rw[zoh oM];refine gv (rD (k:=.u64) I I I (by simp only[ub];omega) (by simp only[ub];omega)) I ?_;rw[zO5 hc];refine go9 ?_;refine gv (yX (A:=[]) _ underlying22 sizeOf127 I I I (by rw[uO oM];omega)) I (wS sizeOf127 I I (by rw[uO oM];omega) (pV ?_));refine jM (C++[(xs.getD C.length 0*2^s+c)%4294967296],(xs.getD C.length 0*2^s+c)/2^32) ?_ ?_ ⟨I,I,I,I,I,I,?_,y3i⟩ ?_ I
  ·
   refine⟨by simp;omega,uC H (aM oM),?_,?_⟩
   · refine z3i ?_
     have:=zfu (2^s) (show xs.getD C.length 0+1<=2^32 by omega);rw[z2u] at this;omega
   · have e:=z4i (xs.getD C.length 0*2^s+c) 4294967296
     have e2:(2:Nat)^32=4294967296:=I;rw[lAz,zju,uV xs _ oM,rO,zke,e2];generalize (xs.getD C.length 0*2^s+c)/4294967296=q at *;generalize (xs.getD C.length 0*2^s+c)%4294967296=r at *;grind
  ·
   dsimp only;simp;omega
  · exact y2e (zbi vI zo1)
  try dsimp only[List.nil_append,List.cons_append]
  rw[pL oM]
 refine jF ?_;refine gv (yX (A:=[]) (xs.length) underlying22 sizeOf127 I I zoz (by rw[uO oM];omega)) I (wS sizeOf127 I I (by rw[uO oM];omega) (go9 ?_));refine qL I I ?_;have O:C.length=xs.length:=by omega
 refine⟨C++[c],?_,by simp[O],uC H (aM oM),?_⟩
 · rw[<-O,pL oM,bX zo1,zoh oM]
 · rw[rO,G,wH oM]
end
set_option maxHeartbeats 2000000 in
section
variable{w0:World}{h0:Mem}(hs:MLe h0 (mem w0))
include hs
theorem w4{v v':Value}{xs ys:List Nat}(hv:Us .u32 h0 v xs)(hv':Us .u32 h0 v' ys)(hl:xs.length<=1099511627776)(hl':ys.length<=1099511627776):
 Calls prog 147 #[v,v'] w0 (Ret w0 h0 (λh z=>∃q r,z=.tuple #[q,r,vI (if val ys=0 then 3 else 0)]/\Us .u32 h q (zB (val xs/val ys))/\Us .u32 h r (zB (if val ys=0 then 0 else val xs%val ys)))):=by
 have er:Fit xs:=hv.lt;have eq:Fit ys:=hv'.lt;have gf:=vZ er;have ge:=vZ eq;refine cb2 300 v v' func147 hs ?_;refine zL (zD (asg I I (asg I I (asg (v:=vI (0)) I I (zO (zG (zL (zD (mv I I (cL (ev1 I) call144 (λw hs=>qO hs hv) λfu h1 en G=>?_))))))))));replace G:=G.2;refine mv I I ?_;replace hv':=hv'.mono en;refine cL (ev1 I) call144 (λw hs=>qO hs hv') λft h2 em D=>?_;replace D:=D.2;refine asg I I (asg I I (zO (zG (zL (xJ (zL (zD (mv I I (gv (vT underlying22 I D) I (gv (mN (q:=0) I I) I (asg I I (zO (wO (e':=[(0,_),(1,_),(30,_)]) e3z ?_)))))))))))));refine zG ?_;refine cnd (λdu=>?_) λdu=>?_
 ·
  have ea:val ys=0:=zdu λej=>by have:=yQ.2 ej;omega
  refine zL (zD (asg I I (asg I I (asg (v:=vI (3)) I I (zO (zG (aF (zRT (nH (jZ I I I I ?_))))))))));rw[ea,Nat.div_zero,zau I,zau I,yY];exact⟨_,_,I,Us.nil _ _,Us.nil _ _⟩
 have ay:val ys≠0:=yQ.1 oM;refine zL (zD (mv I I (mv I I ?_)));replace G:=G.mono em;refine cL (ev2 I I) call98 (λw hs=>w5 hs G D) λfs h3 bk de=>?_;subst de;rw[zE,zE];refine gv (yH (q:=0) I I) I (asg I I (zO (zG ?_)));refine cnd (λbf=>?_) λbf=>?_
 ·
  have di:=fZ.1 bf;refine zL (zD (mv I I ?_));replace G:=G.mono bk;refine uH (vs:=[_]) I I I I call103 ⟨I,y3i⟩ (λw hs=>bJ hs G oM) ?_;intro fr h4 gx bj dd;obtain rfl:=dd;refine asg I I (asg I I (yN (by exact wK _) ?_));intro h5 bi ho;refine asg (v:=vI (0)) I I (zO (wO (e':=[(4,_),(5,_),(6,_)]) e3z (zG (aF (zRT (nH (jZ I I I I ?_)))))));rw[z0e di,zoh di,zae oM,zae oM,yY];exact⟨_,_,I,Us.nil _ _,ho⟩
 have ep:val ys<=val xs:=ybe λhc=>bf (fZ.2 hc);refine zL (zD (mv I I ?_));replace D:=D.mono bk;refine gv (vT underlying22 I D) I (gv (mN (q:=1) I I) I (asg I I (zO (zG ?_))));refine cnd (λdt=>?_) λdt=>?_
 ·
  have bq:(zB (val ys)).length=1:=by omega
  have dv:(zB (val ys)).getD 0 0≠0:=by have:=rI (n:=val ys) oM;rwa [bq] at this
  have bs:=zEH bq;rw[zE] at bs;refine zKS (e':=[(0,_),(1,_)]) e2z (zL (zD (mv I I (mv I I (gv (yD (q:=0) (0) underlying22 sizeOf127 I I D I oM) I (gv (wC isAgg127 I D oM) I ?_))))));have cg:=D.get32 0;replace G:=G.mono bk;refine cL (ev2 I I) call182 (λw hs=>zTM hs G oM oM oM) λfq h4 bj dc=>?_;obtain⟨fv,rfl,aq⟩:=dc;refine mv I I (gv (fH (vs:=[_,_]) I I) I (gv (fH (vs:=[_,_]) I I) I (asg I I (asg I I (zO (wO (e':=[(7,_),(8,_)]) e2z (zG (zL (zD (mv I I (mv I I (zH (fI (kd:=.u32) underlying22 vN I I I) I I I ?_))))))))))));intro fp fw db;obtain rfl:=db;refine yN (by intro z hz;simp only[zpe] at hz;subst hz;exact Nat.lt_trans (zcu _ oM) cg) ?_;intro h5 bi dp;refine cL (ev1 I) call144 (λw hs=>qO hs dp) λfo h6 dl ar=>?_;replace ar:=ar.2;refine asg I I (asg I I (asg (v:=vI (0)) I I (zO (zG (aF (zRT (nH (jZ I I I I ?_))))))));replace aq:=aq.mono (bi.trans dl);rw[zE,<-bs] at aq;rw[zEH I,zzi,zE,<-bs] at ar;rw[zae oM,zae oM];exact⟨_,_,I,aq,ar⟩
 have df:2<=(zB (val ys)).length:=by omega
 refine zKS (e':=[(0,_),(1,_)]) e2z (wW (kY (zG (zL (zD (mv I I (mv I I (gv (vT underlying22 I D) I (gv (jY (q:=1) I I oM oM) I (gv (yD ((zB (val ys)).length-1) underlying22 sizeOf127 I I D oM oM) I (gv (wC isAgg127 I D oM) I ?_)))))))))));have hgt:=D.get32 ((zB (val ys)).length-1);refine cL (ev1 I) call183 (λw hs=>zUD hs oM) λfm h4 bj da=>?_;subst da;obtain⟨s,cu⟩:∃s,s=32-wU ((zB (val ys)).getD ((zB (val ys)).length-1) 0):=⟨_,I⟩;rw[<-cu];obtain⟨ff,av,ee⟩:=zF5 (k:=(zB (val ys)).length-1) ay oM cu;refine asg I I (zO (zG (zL (zD (mv I I (mv I I ?_))))));replace G:=G.mono (bk.trans bj);refine uH (vs:=[_,_]) I I I I call146 e2z (λw hs=>w3 hs G oM oM) ?_;intro M h5 gw bi cz;obtain⟨bn,rfl,bb,bc,ah⟩:=cz;refine mv I I (mv I I ?_);replace D:=D.mono (bj.trans bi);refine uH (vs:=[_,_]) I I I I call146 e2z (λw hs=>w3 hs D oM oM) ?_;intro fl h6 gu dl cy;obtain⟨fd,rfl,ef,bv,bu⟩:=cy;refine yN (by exact bv) ?_;intro h7 gi ed;refine cL (ev1 I) call144 (λw hs=>qO hs ed) λai h8 gh C=>?_;replace C:=C.2;rw[bu,zE] at C;refine asg I I (asg I I ?_);rw[zE] at ah;have fg:=zW ep;have br:=gE (wK (val xs));rw[zE] at br;have ev:=rK (n:=val ys) (k:=(zB (val ys)).length-1) oM;have bx:=zT6 bc br ah (k:=(zB (val ys)).length-1) oM ev;rw[show(zB (val xs)).length-((zB (val ys)).length-1)=(zB (val xs)).length+1-(zB (val ys)).length by omega] at bx;have az:=zE (val ys*2^s);have bl:Fit (zB (val ys*2^s)):=wK _;replace av:(zB (val ys*2^s)).length=(zB (val ys)).length:=by omega
 generalize zB (val ys*2^s)=vs at *;generalize gc:(zB (val ys)).length=n at *;generalize fh:(zB (val xs)).length=la at *;obtain⟨V,hV⟩:∃V,V=val ys*2^s:=⟨_,I⟩;obtain⟨U,hU⟩:∃U,U=val xs*2^s:=⟨_,I⟩;rw[<-hV] at az bx;rw[<-hU] at ah;have ew:V<4294967296^n:=by rw[<-az,<-av];exact gE bl
 have ao:=zQN df av;rw[az] at ao;have ba:=gE (fY bl (n-2));rw[zei,zre oM] at ba;have bt:=qY bl (n-2);have cp:=qY bl (n-1);refine zO (wO (e':=[(9,_),(10,_),(11,_)]) e3z (zG (zL (zD (mv I I (gv (vT underlying22 I C) I ?_))))));rw[av];refine asg I I (zO (zG (zL (zD (mv I I (gv (tK (A:=[]) underlying22 I) I ?_))))));rw[bb];refine mv I I (gv (jY I I oM oM) I (jJ (kd:=.u32) (by':=4) (la+1-n) underlying22 vN I I I I I oM oM oM oM I ?_));intro H;refine asg I I (zO (zG (zL (zL (zD (mv I I (gv (tK (A:=[]) underlying22 I) I ?_)))))));rw[lR];refine gv (jY (q:=1) I I oM oM) I (asg I I (zO (wO (e':=[(9,_),(10,_),(11,_),(12,_),(4,_),(13,_)]) e6z (zG (xJ ?_)))));refine kQ (ι:=Nat×List Nat×List Nat) (λ(J,us,qs)=>J<=la+1-n/\qs.length=la+1-n-J/\Fit qs/\us.length=la+1/\Fit us/\val us+4294967296^J*(val qs*V)=U/\val (us.drop J)<V) (λ(J,us,qs)=>[(4,H),(9,vI ↑s),(10,M),(11,ai),(12,vI ↑n),(13,vI (↑J-1))]) (λ(J,us,qs)=>[.us 127 .u32 H (fL J qs),.us 127 .u32 M us]) (λ(J,us,qs)=>h8) (λ(J,us,qs)=>J) (la+1-n,bn,[]) ?_ e6z ?_ I ?_
 · exact⟨zbe _,by simp,λx hx=>by simp at hx,bb,bc,by rw[ah];simp[val],bx⟩
 ·
  try dsimp only[List.nil_append,List.cons_append]
  exact zbi (λz=>[Res.us 127 .u32 H z,Res.us 127 .u32 M bn]) (lK _)
 rintro⟨J,us,qs⟩ ⟨fk,ga,dq,eg,aa,ap,ca⟩
 refine yW ?_;refine zL (zL (zD (mv I I (gv (aZ (q:=0) I I) I (zO (zG ?_))))));refine cnd (λdr=>?_) λdr=>?_
 ·
  refine wW (zG (zL (xJ (zL ?_))));have hJ:1<=J:=by omega
  have ci:∀i,J+n<=i->us.getD i 0=0:=λi hi=>eY (zE1 aa (Nat.lt_trans ca ew)) hi;obtain⟨wr,hW,cn⟩:=zHS (j:=J-1) df (λi hi=>ci i oM) aa;have go:=qY aa (J-1+n);have gn:=qY aa (J-1+n-1);have eu:=qY aa (J-1+n-2);have gq:=qY aa (J-1);have dw:val (us.drop (J-1))<4294967296*V:=by
   rw[kF us (J-1) oM,zzu hJ];omega
  refine zK 18 _ [] (zai 0 18 []) yA nX zot nX (λr hr=>hr) (wZ I I I (wZ I I I (wZ I I I (xD I (λ_ _=>zV I I oM oM) I (w_q I (λh' L' hh hR=>jO (hR _ mh1) (J-1+n) underlying22 sizeOf127 I I oM oM) I (w_q I (λh' L' hh hR=>gY (hR _ mh1) isAgg127 I oM) I (xD I (λ_ _=>vV (k:=.u32) (k':=.u64) (W:=18446744073709551616) underlying127 underlying130 I I I oM) I (xD I (λ_ _=>gX (k:=.u64) (s:=32) (yk:=.u64) (W:=18446744073709551616) I I I I) I (wZ I I I (wZ I I I (wZ I I I (xD I (λ_ _=>zV I I oM oM) I (xD I (λ_ _=>jY (q:=1) I I oM oM) I ?_)))))))))))));refine w_q I (λh' L' hh hR=>jO (hR _ mh1) (J-1+n-1) underlying22 sizeOf127 I I oM oM) I (w_q I (λh' L' hh hR=>gY (hR _ mh1) isAgg127 I oM) I (xD I (λ_ _=>vV (k:=.u32) (k':=.u64) (W:=18446744073709551616) underlying127 underlying130 I I I oM) I (xD I (λ_ _=>rD (k:=.u64) I I I (by simp only[ub];omega) (by simp only[ub];omega)) I ?_)));rw[cF oM oM];obtain⟨top,bo⟩:∃t,t=us.getD (J-1+n) 0*4294967296+us.getD (J-1+n-1) 0:=⟨_,I⟩;rw[<-bo];rw[<-bo] at hW;have am:=yB3 ao hW ba bt dw;refine zHA I I I (fP (wO (e':=[(4,_),(9,_),(10,_),(11,_),(12,_),(13,_),(14,_)]) e7 (zG (zL ?_))));refine zK 18 _ [] (zai 0 18 []) yA nX zot nX (λr hr=>hr) (wZ I I I (wZ I I I (wZ I I I (xD I (λ_ _=>jY (q:=1) I I oM oM) I (w_q I (λh' L' hh hR=>yD (n-1) underlying22 sizeOf127 I I (C.mono hh) oM oM) I (w_q I (λh' L' hh hR=>wC isAgg127 I (C.mono hh) oM) I (xD I (λ_ _=>vV (k:=.u32) (k':=.u64) (W:=18446744073709551616) underlying127 underlying130 I I I oM) I (xD I (λ_ _=>bR (k:=.u64) (W:=18446744073709551616) I I I I oM oM) I (wZ I I I (wZ I I I (wZ I I I (xD I (λ_ _=>jY (q:=1) I I oM oM) I (w_q I (λh' L' hh hR=>yD (n-1) underlying22 sizeOf127 I I (C.mono hh) oM oM) I ?_)))))))))))));refine w_q I (λh' L' hh hR=>wC isAgg127 I (C.mono hh) oM) I (xD I (λ_ _=>vV (k:=.u32) (k':=.u64) (W:=18446744073709551616) underlying127 underlying130 I I I oM) I (xD I (λ_ _=>bQ (k:=.u64) I I oM) I (zHA I I I (zHA I I I (fP (wO (e':=[(4,_),(9,_),(10,_),(11,_),(12,_),(13,_),(15,_),(16,_)]) e8 (zG ?_)))))));refine jC (ι:=Nat) (λ(x1:(Nat))=>x1<4294967296/\val (us.drop (J-1))<(x1+1)*V/\x1*V<val (us.drop (J-1))+V) (λ(x1:(Nat))=>[(4,H),(9,vI ↑s),(10,M),(11,ai),(12,vI ↑n),(13,vI (↑J-1)),(15,vU .u64 x1)]) (λ(x1:(Nat))=>[.us 127 .u32 H (fL J qs),.us 127 .u32 M us]) (λ(x1:(Nat))=>h8) ?_ ?_
  ·
   refine xJ ?_;refine gcL (ι:=Nat×Nat) (λ(x,r)=>(x*vs.getD (n-1) 0+r=top/\val (us.drop (J-1))<(x+1)*V/\r<4294967296,[(4,H),(9,vI ↑s),(10,M),(11,ai),(12,vI ↑n),(13,vI (↑J-1)),(15,vU .u64 x),(16,vU .u64 r)],[.us 127 .u32 H (fL J qs),.us 127 .u32 M us],h8,x)) (top/vs.getD (n-1) 0,top%vs.getD (n-1) 0) ?_ ?_
   · exact⟨by rw[ztu];exact z4i _ _,zNA ao hW eu cn oM,Nat.lt_trans (zcu _ oM) cp⟩
   rintro⟨x,r⟩ ⟨ak,eb,fz⟩
   refine yW ?_;have ec:=yG1 ak am ee;have fy:x*vs.getD (n-2) 0<=4294967297*4294967295:=z6e ec oM;refine zL (zL ?_);refine zX5 (4294967296<=x) (λhg=>?_) (λhg=>?_)
   ·
    have ae:1<=x:=by omega
    have aj:val (us.drop (J-1))<x*V:=zku dw (zfu _ hg);refine zK 24 _ [] (zai 0 24 []) yA nX zot nX (λr hr=>hr) (wZ I I I (xD I (λ_ _=>cE (k:=.u64) (q:=4294967296) I I) I (xD I (λ_ _=>xL (v:=.bool true) (y2e (wB hg))) I (uD I I I I I (uD I I I I I (uD I I I I I (uD I I I I I (uD I I I I I (uD I I I I I (uD I I I I I (uD I I I I I (uD I I I I I (uD I I I I I ?_)))))))))))));refine uD I I I I I (uD I I I I I (uD I I I I I (uD I I I I I (uD I I I I I (uD I I I I I (uD I I I I I (uD I I I I I (uD I I I I I (uD I I I I I (xD I (λ_ _=>cV I I) I (fP (wO (e':=[(4,_),(9,_),(10,_),(11,_),(12,_),(13,_),(15,_),(16,_),(141,_)]) ⟨I,I,I,I,I,I,I,I,I,y3i⟩ (zG ?_)))))))))))));refine kS I (wW (zG (xJ (zL (zD (mv I I (gv (aW (k:=.u64) (q:=1) (W:=18446744073709551616) I I I I oM oM) I (asg I I (zO (zG (zL (zD (mv I I ?_)))))))))))));refine mv I I (mv I I (gv (jY (q:=1) I I oM oM) I (gv (yD (n-1) underlying22 sizeOf127 I I C oM oM) I (gv (wC isAgg127 I C oM) I (gv (vV (k:=.u32) (k':=.u64) (W:=18446744073709551616) underlying127 underlying130 I I I oM) I (gv (sR (k:=.u64) (W:=18446744073709551616) I I I I oM) I (asg I I (zO (wO (e':=[(4,_),(9,_),(10,_),(11,_),(12,_),(13,_),(15,_),(16,_)]) e8 (zG (zL (zD (mv I I ?_)))))))))))));refine gv (cE (k:=.u64) (q:=4294967296) I I) I (zO (zG ?_));refine cnd (λad=>?_) λad=>?_
    ·
     refine kR (zKP I (vQ (kP ?_)));refine zY (x-1) ?_ e7 I I;obtain⟨b1,b2⟩:=zI0 (x:=x-1) ao hW ba bt (zB9 ak ae) ad am oM;exact⟨b1,by rw[zzu ae];exact aj,by omega⟩
    refine wW (kY ?_);refine gqL (x-1,r+vs.getD (n-1) 0) ?_ ?_
    · exact⟨zB9 ak ae,by rw[zzu ae];exact aj,by omega⟩
    omega
   refine zK 24 _ [] (zai 0 24 []) yA nX zot nX (λr hr=>hr) (wZ I I I (xD I (λ_ _=>cE (k:=.u64) (q:=4294967296) I I) I (xD I (λ_ _=>xL (v:=.bool false) (y2e (yZ hg))) I (xG I I I (λh' L' hh hR=>xL I) I (xG I I I (λh' L' hh hR=>xL I) I (xG I I I (λh' L' hh hR=>xL I) I (xG I I I (λh' L' hh hR=>jY (q:=2) I I oM oM) I (xG I I I (λh' L' hh hR=>yD (n-2) underlying22 sizeOf127 I I (C.mono hh) oM oM) I (xG I I I (λh' L' hh hR=>wC isAgg127 I (C.mono hh) oM) I (xG I I I (λh' L' hh hR=>vV (k:=.u32) (k':=.u64) (W:=18446744073709551616) underlying127 underlying130 I I I oM) I (xG I I I (λh' L' hh hR=>iS (k:=.u64) (W:=18446744073709551616) I I I I oM) I (xG I I I (λh' L' hh hR=>xL I) I (xG I I I (λh' L' hh hR=>gX (k:=.u64) (s:=32) (yk:=.u64) (W:=18446744073709551616) I I I I) I ?_)))))))))))));refine xG I I I (λh' L' hh hR=>xL I) I (xG I I I (λh' L' hh hR=>xL I) I (xG I I I (λh' L' hh hR=>xL I) I (xG I I I (λh' L' hh hR=>zV I I oM oM) I (xG I I I (λh' L' hh hR=>jY (q:=2) I I oM oM) I (xG I I I (λh' L' hh hR=>jO (hR _ mh1) (J-1+n-2) underlying22 sizeOf127 I I oM oM) I (xG I I I (λh' L' hh hR=>gY (hR _ mh1) isAgg127 I oM) I (xG I I I (λh' L' hh hR=>vV (k:=.u32) (k':=.u64) (W:=18446744073709551616) underlying127 underlying130 I I I oM) I (xG I I I (λh' L' hh hR=>rD (k:=.u64) I I I (by simp only[ub];omega) (by simp only[ub];omega)) I ?_))))))));rw[cF oM oM];refine xG I I I (λh' L' hh hR=>mL (k:=.u64) I I) I (xD I (λ_ _=>cW I I) I (fP (wO (e':=[(4,_),(9,_),(10,_),(11,_),(12,_),(13,_),(15,_),(16,_),(141,_)]) ⟨I,I,I,I,I,I,I,I,I,y3i⟩ (zG ?_))));refine cnd (λan=>?_) λan=>?_
   ·
    have ae:1<=x:=zfe λh0=>by rw[h0,zvu] at an;omega
    have aj:val (us.drop (J-1))<x*V:=yB4 ao hW cn ak an;refine wW (zG (xJ (zL (zD (mv I I (gv (aW (k:=.u64) (q:=1) (W:=18446744073709551616) I I I I oM oM) I (asg I I (zO (zG (zL (zD (mv I I (mv I I ?_)))))))))))));refine mv I I (gv (jY (q:=1) I I oM oM) I (gv (yD (n-1) underlying22 sizeOf127 I I C oM oM) I (gv (wC isAgg127 I C oM) I (gv (vV (k:=.u32) (k':=.u64) (W:=18446744073709551616) underlying127 underlying130 I I I oM) I (gv (sR (k:=.u64) (W:=18446744073709551616) I I I I oM) I (asg I I (zO (wO (e':=[(4,_),(9,_),(10,_),(11,_),(12,_),(13,_),(15,_),(16,_)]) e8 (zG (zL (zD (mv I I (gv (cE (k:=.u64) (q:=4294967296) I I) I ?_)))))))))))));refine zO (zG ?_);refine cnd (λad=>?_) λad=>?_
    ·
     refine kR (zKP I (vQ (kP ?_)));refine zY (x-1) ?_ e7 I I;obtain⟨b1,b2⟩:=zI0 (x:=x-1) ao hW ba bt (zB9 ak ae) ad am oM;exact⟨b1,by rw[zzu ae];exact aj,by omega⟩
    refine wW (kY ?_);refine gqL (x-1,r+vs.getD (n-1) 0) ?_ ?_
    · exact⟨zB9 ak ae,by rw[zzu ae];exact aj,by omega⟩
    omega
   refine kR (vQ (vQ (kP ?_)));refine zY (x) ?_ e7 I I;exact⟨by omega,eb,zYH ao hW ba oM ak oM oM⟩
  rintro x1 ⟨cm,cj,ck⟩
  refine yW ?_;refine zL (zD (asg (v:=vU .u64 0) I I (asg (v:=vU .u64 0) I I (zO (zG (zL (zL (zD (mv I I (gv (vT underlying22 I C) I ?_))))))))));rw[av];refine mv (v:=vI (0)) I I (zO (zG (xJ ?_)));refine kQ (ι:=Nat×List Nat×Nat×Nat) (λ(i,ts,b,c)=>i<=n/\ts.length=la+1/\Fit ts/\c<4294967296/\b<=1/\val ts+4294967296^(J-1)*(x1*val (vs.take i))=val us+4294967296^(J-1+i)*(c+b)/\∀k,J-1+i<=k->ts.getD k 0=us.getD k 0) (λ(i,ts,b,c)=>[(4,H),(9,vI ↑s),(10,M),(11,ai),(12,vI ↑n),(13,vI (↑J-1)),(15,vU .u64 x1),(17,vU .u64 b),(18,vU .u64 c),(154,ai),(155,vI ↑n),(156,vI ↑i)]) (λ(i,ts,b,c)=>[.us 127 .u32 H (fL J qs),.us 127 .u32 M ts]) (λ(i,ts,b,c)=>h8) (λ(i,ts,b,c)=>n-i) (0,us,0,0) ?_ e12 I I ?_
  · exact⟨by omega,eg,aa,by omega,by omega,by simp[val],λ_ _=>I⟩
  rintro⟨i,ts,b,c⟩ ⟨dk,cq,bm,gj,gm,bd,ct⟩
  refine yW ?_;refine zL (zD (gv (yH I I) I (zO (zG (zL ?_)))));refine cnd (λcf=>?_) λcf=>?_
  ·
   refine wW (zG (zL (xJ (zL (zD (mv I I (gv (yD _ underlying22 sizeOf127 I I C I oM) I (gv (wC isAgg127 I C oM) I ?_))))))));have dz:=C.get32 i;have fx:x1*vs.getD i 0<=4294967295*4294967295:=z6e oM oM;refine asg I I (asg I I (zO (zG (zL (zD (mv I I (mv I I (mv I I (gv (vV (k:=.u32) (k':=.u64) (W:=18446744073709551616) underlying127 underlying130 I I I oM) I (gv (iS (k:=.u64) (W:=18446744073709551616) I I I I oM) I (gv (sR (k:=.u64) (W:=18446744073709551616) I I I I oM) I (asg I I (zO ?_)))))))))))));refine wO (e':=[(4,_),(9,_),(10,_),(11,_),(12,_),(13,_),(15,_),(17,_),(154,_),(155,_),(156,_),(19,_),(18,_)]) ⟨I,I,I,I,I,I,I,I,I,I,I,I,I,y3i⟩ (zG (zL (zD (mv I I (mv I I (mv I I (gv (zV I I oM oM) I (gv (yX (A:=[_]) (J-1+i) underlying22 sizeOf127 I I oM oM) I (gv (fC (A:=[_]) isAgg127 I oM) I ?_)))))))));have bw:=qY bm (J-1+i);refine gv (vV (k:=.u32) (k':=.u64) (W:=18446744073709551616) underlying127 underlying130 I I I oM) I (mv I I (gv (zWI (k:=.u64) (q:=4294967295) I I I (by simp only[ub];omega) (by simp only[ub];omega)) I ?_));rw[zZI];refine gv (mG (k:=.u64) (W:=18446744073709551616) I I I I oM) I (mv I I (gv (mG (k:=.u64) (W:=18446744073709551616) I I I I oM) I (asg I I (zO (wO (e':=[(4,_),(9,_),(10,_),(11,_),(12,_),(13,_),(15,_),(154,_),(155,_),(156,_),(19,_),(18,_),(21,_)]) ⟨I,I,I,I,I,I,I,I,I,I,I,I,I,y3i⟩ (zG (zL (zD (mv I I (mv I I (mv I I (gv (zV I I oM oM) I (mv I I ?_)))))))))))));refine gv (tL (k:=.u64) (k':=.u32) (W:=4294967296) underlying130 underlying127 I I I) I (gv (yX (A:=[_]) (J-1+i) underlying22 sizeOf127 I I oM oM) I (rU sizeOf127 I I oM (zO (zG (zL (zD (mv I I (gv (gW (k:=.u64) (s:=63) (yk:=.u64) I I I (by simp only[ub];omega)) I (asg I I (zO (wO (e':=[(4,_),(9,_),(10,_),(11,_),(12,_),(13,_),(15,_),(154,_),(155,_),(156,_),(18,_),(17,_)]) e12 (zG (zD ?_)))))))))))));refine mv I I (gv (gW (k:=.u64) (s:=32) (yk:=.u64) I I I (by simp only[ub];omega)) I (asg I I (zO (kY (zG (zD (gv (zV (q:=1) I I oM oM) I (mv I I (zO ?_)))))))));generalize hX:ts.getD (J-1+i) 0=X at *;generalize hY:vs.getD i 0=Y at *;refine jM (i+1,ts.set (J-1+i) (((X+18446744073709551616-(c+x1*Y)%4294967296)%18446744073709551616+18446744073709551616-b)%18446744073709551616%4294967296),((X+18446744073709551616-(c+x1*Y)%4294967296)%18446744073709551616+18446744073709551616-b)%18446744073709551616/2^63,(c+x1*Y)/2^32) ?_ ?_ e12 I I
   ·
    refine⟨by omega,by simp[cq],nI bm _ oM,by omega,by omega,?_,λk hk=>?_⟩
    · have h1:=lW (xs:=ts) (i:=J-1+i) oM (((X+18446744073709551616-(c+x1*Y)%4294967296)%18446744073709551616+18446744073709551616-b)%18446744073709551616%4294967296)
      rw[hX] at h1;rw[uV vs i oM,hY,<-z3u (J-1),zke,zlu];rw[zlu] at h1 bd;exact yBC (l:=(c+x1*Y)%4294967296) bd h1 oM oM
    · rw[jB oM];exact ct k oM
   dsimp only;omega
  refine kR (vQ (vQ (kP (zG (zL (zD (mv I I (mv I I (mv I I (gv (zV I I oM oM) I (gv (yX (A:=[_]) (J-1+n) underlying22 sizeOf127 I I oM oM) I (gv (fC (A:=[_]) isAgg127 I oM) I ?_))))))))))));have bw:=qY bm (J-1+n);refine gv (vV (k:=.u32) (k':=.u64) (W:=18446744073709551616) underlying127 underlying130 I I I oM) I (mv I I (gv (mG (k:=.u64) (W:=18446744073709551616) I I I I oM) I (mv I I (gv (mG (k:=.u64) (W:=18446744073709551616) I I I I oM) I ?_))));obtain⟨d2,es⟩:∃d,d=((ts.getD (J-1+n) 0+18446744073709551616-c)%18446744073709551616+18446744073709551616-b)%18446744073709551616:=⟨_,I⟩;rw[<-es];refine asg I I (zO (wO (e':=[(4,_),(9,_),(10,_),(11,_),(12,_),(13,_),(15,_),(22,_)]) e8 (zG (zL (zD (mv I I (mv I I (mv I I (gv (zV I I oM oM) I (mv I I (gv (tL (k:=.u64) (k':=.u32) (W:=4294967296) underlying130 underlying127 I I I) I (gv (yX (A:=[_]) (J-1+n) underlying22 sizeOf127 I I oM oM) I (rU sizeOf127 I I oM ?_)))))))))))));have dk:i=n:=by omega
  rw[dk,wH oM,az] at bd;have co:=lW (xs:=ts) (i:=J-1+n) oM (d2%4294967296);have bp:(ts.set (J-1+n) (d2%4294967296)).length=la+1:=by simp[cq]
  have au:Fit (ts.set (J-1+n) (d2%4294967296)):=nI bm _ oM;have ch:∀k,J-1+n+1<=k->(ts.set (J-1+n) (d2%4294967296)).getD k 0=0:=λk hk=>by rw[jB oM,ct k oM];exact ci k oM
  generalize ts.set (J-1+n) (d2%4294967296)=ts2 at *;have ab:val ts2+4294967296^(J-1)*(x1*V)=val us+4294967296^(J-1+n+1)*(d2/2^63):=by
   rw[zke,zlu];rw[zlu] at co bd;exact yFR bd co oM
  have dh:=iG au ch;refine zO (zG ?_);refine jC (ι:=Nat×List Nat) (λ(x2,Z)=>x2<4294967296/\Z.length=la+1/\Fit Z/\val Z+4294967296^(J-1)*(x2*V)=val us/\val (Z.drop (J-1))<V) (λ(x2,Z)=>[(4,H),(9,vI ↑s),(10,M),(11,ai),(12,vI ↑n),(13,vI (↑J-1)),(15,vU .u64 x2)]) (λ(x2,Z)=>[.us 127 .u32 H (fL J qs),.us 127 .u32 M Z]) (λ(x2,Z)=>h8) ?_ ?_
  ·
   refine zL (zD (mv I I (gv (gW (k:=.u64) (s:=63) (yk:=.u64) I I I (by simp only[ub];omega)) I (gv (tT (k:=.u64) (q:=0) I I) I (zO (wO (e':=[(4,_),(9,_),(10,_),(11,_),(12,_),(13,_),(15,_),(211,_)]) e8 (zG ?_)))))));refine cnd (λce=>?_) λce=>?_
   ·
    have fe:1<=x1:=zfe λh0=>by
     have cg:d2/2^63=1:=by omega
     rw[h0,cg,zvu,z7e,z9u] at ab;omega
    refine zL (zD (mv I I (gv (aW (k:=.u64) (q:=1) (W:=18446744073709551616) I I I I oM oM) I (asg I I (zO (zG (zL (zD (asg (v:=vU .u64 0) I I (zO (zG (zL (zL ?_)))))))))))));refine zD (mv I I (gv (vT underlying22 I C) I ?_));rw[av];refine mv (v:=vI (0)) I I (zO (zG (xJ ?_)));refine gcL (ι:=Nat×List Nat×Nat) (λ(i2,Z,c2)=>(i2<=n/\Z.length=la+1/\Fit Z/\c2<=1/\val Z+4294967296^(J-1+i2)*c2=val ts2+4294967296^(J-1)*val (vs.take i2)/\∀k,J-1+i2<=k->Z.getD k 0=ts2.getD k 0,[(4,H),(9,vI ↑s),(10,M),(11,ai),(12,vI ↑n),(13,vI (↑J-1)),(15,vU .u64 (x1-1)),(18,vU .u64 c2),(214,ai),(215,vI ↑n),(216,vI ↑i2)],[.us 127 .u32 H (fL J qs),.us 127 .u32 M Z],h8,n-i2)) (0,ts2,0) ?_ ?_
    · exact⟨by omega,bp,au,by omega,by simp[val],λ_ _=>I⟩
    rintro⟨i2,Z,c2⟩ ⟨hi2,bh,aw,gk,bg,cv⟩
    refine yW ?_;refine zL (zD (gv (yH I I) I (zO (zG (zL ?_)))));refine cnd (λcd=>?_) λcd=>?_
    ·
     refine wW (zG (zL (xJ (zL (zD (mv I I (gv (yD _ underlying22 sizeOf127 I I C I oM) I (gv (wC isAgg127 I C oM) I ?_))))))));have dz:=C.get32 i2;refine asg I I (asg I I (zO (zG (zL (zD (mv I I (mv I I (mv I I (mv I I (gv (zV I I oM oM) I (gv (yX (A:=[_]) (J-1+i2) underlying22 sizeOf127 I I oM oM) I (gv (fC (A:=[_]) isAgg127 I oM) I ?_))))))))))));have bw:=qY aw (J-1+i2);refine gv (vV (k:=.u32) (k':=.u64) (W:=18446744073709551616) underlying127 underlying130 I I I oM) I (mv I I (gv (vV (k:=.u32) (k':=.u64) (W:=18446744073709551616) underlying127 underlying130 I I I oM) I (gv (sR (k:=.u64) (W:=18446744073709551616) I I I I oM) I (gv (sR (k:=.u64) (W:=18446744073709551616) I I I I oM) I (asg I I (zO (wO (e':=[(4,_),(9,_),(10,_),(11,_),(12,_),(13,_),(15,_),(214,_),(215,_),(216,_),(23,_),(18,_)]) e12 (zG (zL (zD (mv I I (mv I I (mv I I ?_)))))))))))));refine gv (zV I I oM oM) I (mv I I (gv (tL (k:=.u64) (k':=.u32) (W:=4294967296) underlying130 underlying127 I I I) I (gv (yX (A:=[_]) (J-1+i2) underlying22 sizeOf127 I I oM oM) I (rU sizeOf127 I I oM (zO (zG (zD (mv I I (gv (gW (k:=.u64) (s:=32) (yk:=.u64) I I I (by simp only[ub];omega)) I (asg I I (zO (kY (wO (e':=[(4,_),(9,_),(10,_),(11,_),(12,_),(13,_),(15,_),(214,_),(215,_),(216,_),(18,_)]) ⟨I,I,I,I,I,I,I,I,I,I,I,y3i⟩ ?_)))))))))))));refine zG (zD (gv (zV (q:=1) I I oM oM) I (mv I I (zO ?_))));generalize hX:Z.getD (J-1+i2) 0=X at *;generalize hY:vs.getD i2 0=Y at *;refine gqL (i2+1,Z.set (J-1+i2) ((c2+(X+Y))%4294967296),(c2+(X+Y))/2^32) ?_ ?_
     ·
      refine⟨by omega,by simp[bh],nI aw _ oM,by omega,?_,λk hk=>?_⟩
      · have h1:=lW (xs:=Z) (i:=J-1+i2) oM ((c2+(X+Y))%4294967296)
        rw[hX] at h1;rw[uV vs i2 oM,hY,<-z3u (J-1),zke,zlu];rw[zlu] at h1 bg;exact yCI bg h1 oM
      · rw[jB oM];exact cv k oM
     omega
    refine kR (vQ (vQ (kP (zG (zD (mv I I (mv I I (mv I I (gv (zV I I oM oM) I (gv (yX (A:=[_]) (J-1+n) underlying22 sizeOf127 I I oM oM) I (gv (fC (A:=[_]) isAgg127 I oM) I (mv I I (gv (tL (k:=.u64) (k':=.u32) (W:=4294967296) underlying130 underlying127 I I I) I ?_)))))))))))));have bw:=qY aw (J-1+n);refine gv (zTA (k:=.u32) (W:=4294967296) I I I I) I (gv (yX (A:=[_]) (J-1+n) underlying22 sizeOf127 I I oM oM) I (rU sizeOf127 I I oM (zO ?_)));generalize hX:Z.getD (J-1+n) 0=X at *;refine zY (x1-1,Z.set (J-1+n) ((X+c2%4294967296)%4294967296)) ?_ e7 I I;have dj:i2=n:=by omega
    rw[dj,wH oM,az] at bg;have h1:=lW (xs:=Z) (i:=J-1+n) oM ((X+c2%4294967296)%4294967296);rw[hX] at h1;have be:Fit (Z.set (J-1+n) ((X+c2%4294967296)%4294967296)):=nI aw _ oM;have dy:∀k,J-1+n+1<=k->(Z.set (J-1+n) ((X+c2%4294967296)%4294967296)).getD k 0=0:=λk hk=>by
     rw[jB oM,cv k oM];exact ch k hk
    have ho:val (Z.set (J-1+n) ((X+c2%4294967296)%4294967296))+4294967296^(J-1+n+1)*((X+c2)/4294967296)=val ts2+4294967296^(J-1)*V:=by
     rw[zke,zlu];rw[zlu] at h1 bg;exact yH1 bg h1 oM
    obtain⟨z1,z2,z3⟩:=zS0 aa be dh (iG be dy) (b:=d2/2^63) oM ab ck ho oM;exact⟨by omega,by simp[bh],be,z2,z3⟩
   refine wW ?_;refine zY (x1,ts2) ?_ e7 I I;have dv:d2/2^63=0:=by omega
   rw[dv,z7e,zmi] at ab;exact⟨cm,bp,au,ab,zFF aa au ab cj⟩
  rintro⟨x2,Z⟩ ⟨cl,bh,aw,eh,cw⟩
  refine yW ?_;refine zD (mv I I (mv I I (mv I I (gv (vV (k:=.u64) (k':=.u32) (W:=4294967296) underlying130 underlying127 I I I oM) I (gv (yX (A:=[]) (J-1) underlying22 sizeOf127 I I oM (by rw[jP];omega)) I (wS sizeOf127 I I (by rw[jP];omega) (zO (kY (zG (zD (mv I I (gv (jY (q:=1) I I oM oM) I (asg I I ?_)))))))))))));refine zO ?_;refine jM (J-1,Z,x2::qs) ?_ ?_ ⟨I,I,I,I,I,?_,y3i⟩ ?_ I
  ·
   refine⟨by omega,by simp only[lC];omega,rV.2 ⟨cl,dq⟩,bh,aw,?_,cw⟩;have eJ:(4294967296:Nat)^J=4294967296^(J-1)*4294967296:=by rw[<-zke,Nat.succ_eq_add_one,zzu hJ]
   rw[eJ] at ap;exact yFC ap eh
  ·
   dsimp only;omega
  · exact y2e (zbi vI oM)
  try dsimp only[List.nil_append,List.cons_append]
  rw[lJ oM]
 refine kR (vQ (vQ (kP (zG (zL ?_)))));have ez:J=0:=by omega
 subst ez;rw[bY];rw[ybu] at ca;rw[yvi,yfi] at ap;have ek:(zB (val us)).length<=us.length:=vZ aa;refine zD (mv I I ?_);refine zKR (R:=λh r=>r=tD 1 M 0 (zB (val us)).length/\Us .u32 h r (zB (val us))) (vs:=[_]) I I I I call144 ⟨I,y3i⟩ (λw hw=>qO (MLe.refl _) (hw.own_us (A:=[_]) aa)) ?_
 rintro fc ⟨_,dx,_⟩
 subst dx;refine zT0 (A:=[_]) (zB (val us)).length ek ?_;rw[zE7 aa];generalize tD 1 M 0 (zB (val us)).length=vr;have ax:=wK (val us);have ey:=zE (val us);generalize zB (val us)=Rs at *;refine asg I I (zO (zG (zL (zL (zD (mv I I (gv (tK (A:=[_]) underlying22 I) I (mv (v:=vI (0)) I I (zO (zG (xJ ?_)))))))))));refine kQ (ι:=Nat) (λ(k:(Nat))=>k<=Rs.length) (λ(k:(Nat))=>[(4,H),(5,vr),(9,vI ↑s),(261,vI ↑Rs.length),(262,vI ↑k)]) (λ(k:(Nat))=>[.us 127 .u32 H qs,.us 127 .u32 vr (iL s Rs k)]) (λ(k:(Nat))=>h8) (λ(k:(Nat))=>Rs.length-k) 0 ?_ e5 ?_ I ?_
 · exact zri _
 ·
  try dsimp only[List.nil_append,List.cons_append]
  exact zbi (λz=>[Res.us 127 .u32 H qs,Res.us 127 .u32 vr z]) (zH0 s Rs)
 rintro k hk
 refine yW ?_;refine zL (zD (gv (yH I I) I (zO (zG (zL ?_)))));refine cnd (λcc=>?_) λcc=>?_
 ·
  refine wW (zG ?_);refine jC (ι:=Unit) (λ(_u:(Unit))=>True) (λ(_u:(Unit))=>[(4,H),(5,vr),(9,vI ↑s),(261,vI ↑Rs.length),(262,vI ↑k)]) (λ(_u:(Unit))=>[.us 127 .u32 H qs,.us 127 .u32 vr (iL s Rs (k+1))]) (λ(_u:(Unit))=>h8) ?_ ?_
  ·
   refine xJ (zL (zD (mv I I (asg I I (zO (zG (zL (zD (mv I I (mv I I (gv (yX (A:=[_]) (k) underlying22 sizeOf127 I I oM (by rw[uY oM];omega)) I (gv (fC (A:=[_]) isAgg127 I (by rw[uY oM];omega)) I ?_))))))))))));rw[zBA (zbe _)];have eo:=qY ax k;refine mv I I (gv (gW (k:=.u32) (s:=s) (yk:=.i64) I I I (by simp only[ub];omega)) I ?_);have gb:Rs.getD k 0/2^s<4294967296:=yji (zki _ _) eo;refine gv (yX (A:=[_]) (k) underlying22 sizeOf127 I I oM (by rw[uY oM];omega)) I (rU sizeOf127 I I (by rw[uY oM];omega) (zO (zG (zL (zD (mv I I (gv (aY (q:=0) I I) I ?_)))))));refine gU 7 280 (vB (((0:Int)<↑s)/\((↑k:Int)+1<↑Rs.length))) ?_ ?_
   ·
    refine yK ((0:Int)<↑s) (λhg=>?_) (λhg=>?_)
    ·
     refine gT hg I (t7 I I I (mv I I (t7 I I I (gv (zV (q:=1) I I oM oM) I (t7 I I I (mv I I (t7 I I I (gv (tK (A:=[_]) underlying22 I) I ?_))))))));rw[lS,uY oM];refine t7 I I I (gv (yH I I) I (gv (cV I I) I (zO (gqU ?_))));exact y2e (wE hg)
    refine gF hg I (nS I I I I I I (nS I I I I I I (nS I I I I I I (nS I I I I I I (nS I I I I I I (gv (cW I I) I (zO (gqU ?_))))))));exact y2e (wG hg)
   refine zO (zG ?_);refine cnd (λcb=>?_) λcb=>?_
   ·
    refine zK 14 _ [] (zai 0 14 [(14,.t)]) yA nX zot nX (λr hr=>hr) (wZ I I I (wZ I I I (w_q I (λh' L' hh hR=>jO (hR _ mh1) (k) underlying22 sizeOf127 I I oM (by rw[lS,uY oM];omega)) I (w_q I (λh' L' hh hR=>gY (hR _ mh1) isAgg127 I (by rw[lS,uY oM];omega)) I ?_))));rw[t8 (by rw[uY oM];omega)];refine wZ I I I (wZ I I I (xD I (λ_ _=>zV (q:=1) I I oM oM) I (w_q I (λh' L' hh hR=>jO (hR _ mh1) (k+1) underlying22 sizeOf127 I I oM (by rw[lS,uY oM];omega)) I (w_q I (λh' L' hh hR=>gY (hR _ mh1) isAgg127 I (by rw[lS,uY oM];omega)) I ?_))));rw[jB oM,zBA oM];refine wZ I I I (xD I (λ_ _=>jY (p:=32) I I oM oM) I ?_);rw[show((32:Int)-↑s)=↑(32-s) by omega];refine xD I (λ_ _=>gX (k:=.u32) (s:=32-s) (yk:=.i64) (W:=4294967296) I I I I) I (xD I (λ_ _=>rD (k:=.u32) I I I (by simp only[ub];omega) (by simp only[ub];omega)) I ?_);rw[zQR ax oM oM];refine w_q I (λh' L' hh hR=>jO (hR _ mh1) (k) underlying22 sizeOf127 I I oM (by rw[lS,uY oM];omega)) I (gS (A:=[_]) I (nM sizeOf127 I I (by rw[lS,uY oM];omega)) I (fP (kY ?_)));refine zY (()) ?_ e5 ?_ I
    · trivial
    try dsimp only[List.nil_append,List.cons_append]
    rw[List.set_set,zA9 oM];try rfl
   refine wW (kY ?_);have bz:Rs.getD k 0/2^s=iA s Rs k:=by
    by_cases h0:s=0
    · rw[h0,zH1 ax oM,yvi,z2e]
    · exact(zH2 ax oM).symm
   refine zY (()) ?_ e5 ?_ I
   · trivial
   try dsimp only[List.nil_append,List.cons_append]
   rw[bz,zA9 oM]
  rintro _u fj
  refine yW ?_;refine zD (gv (zV (q:=1) I I oM oM) I (mv I I (zO ?_)));refine jM (k+1) ?_ ?_ e5 I I
  · omega
  omega
 refine kR (vQ (vQ (kP (zG (zL (zD (mv I I (yN (by exact dq) ?_))))))));intro h9 gg hq;refine cL (ev1 I) call144 (λw hs=>qO hs hq) λfb gt fi O=>?_;replace O:=O.2;refine mv I I (yN (by exact zM9 ax) ?_);intro gs dn ei;refine cL (ev1 I) call144 (λw hs=>qO hs ei) λfa gr dm ac=>?_;replace ac:=ac.2;refine asg I I (asg I I (asg (v:=vI (0)) I I (zO (zG (aF (jZ I I I I ?_))))));replace O:=O.mono (dn.trans dm);have el:k=Rs.length:=by omega
 rw[el,zK4 ax,ey] at ac;obtain⟨e1,e2⟩:=zR3 (X:=val xs) (Y:=val ys) (s:=s) (u:=val us) (q:=val qs) oM (by rw[<-hV,<-hU];exact ap) (by rw[<-hV];exact ca);rw[e1] at O;rw[e2] at ac;rw[zae ay,zae ay];exact⟨_,_,I,O,ac⟩
theorem tS{v:Value}{xs:List Nat}(hv:Us .u32 h0 v xs)(hl:xs.length<=17592186044416):
 Calls prog 91 #[v] w0 (Ret w0 h0 (λh r=>Us .u32 h r (zB (val xs)))):=by
 refine cb1 23 v func91 hs ?_;refine rT ?_;refine gcL (ι:=Nat) (λ(k:(Nat))=>(k<=xs.length/\∀i,k<=i->xs.getD i 0=0,[(0,v),(3,vI ↑k)],[],h0,k)) xs.length ?_ ?_
 · exact⟨zbe _,λi hi=>by rw[zoa,zse hi];rfl⟩
 rintro k ⟨hk,hz⟩
 refine yW ?_;refine go5 ?_;refine gU 8 15 (vB (((0:Int)<↑k)/\(xs.getD (k-1) 0=0))) ?_ ?_
 ·
  refine yK ((0:Int)<↑k) (λJ=>?_) (λJ=>?_)
  ·
   refine gT J I (go7 ?_);refine gv (yD (k-1) underlying22 sizeOf127 I I hv oM oM) I (go3 ?_);refine gv (fU (k:=.u32) (q:=0) I I) I (go2 ?_);refine gqU ?_;exact y2e (wE J)
  refine gF J I (go8 ?_);refine gqU ?_;exact y2e (wG J)
 refine gc2 (λC=>?_) λC=>?_
 ·
  refine go9 ?_;refine gqL (k-1) ?_ ?_ (he:=⟨I,?_,y3i⟩)
  ·
   exact⟨by omega,λi hi=>by
    by_cases e:i=k-1
    · rw[e];exact C.2
    · exact hz i oM⟩
  · have:=C.1;omega
  · exact y2e (zbi vI (by have:=C.1;omega))
 refine go7 ?_;refine zH (zF8 (kd:=.u32) underlying22 vN I I) I I I ?_;intro U aa H;obtain rfl:=H;refine go2 ?_;refine gv (zAC _ underlying22 sizeOf127 I I hv.shape I oM) I ?_;have D:=hv.sub (lo:=0) (hi:=_) oM oM;refine xU (A:=[]) (kD (kd:=.u32) (bytes:=4) underlying22 vN I I I I I D (by simp;omega) (by simp;omega)) I I I ?_;intro O Z G;obtain rfl:=G;rw[zge,ybu,ylu];refine yN (by exact fY hv.lt k) ?_;intro h1 M ho;refine go4 ?_;refine zF I I ?_;replace hv:=hv.mono M;have e:xs.take k=zB (val xs):=zHU hv.lt hk hz (by
  by_cases h0:k=0
  · exact .inl h0
  · exact .inr λh1=>C ⟨by omega,h1⟩)
 rw[<-e];exact ho
theorem yA9{v v':Value}{xs ys:List Nat}(hv:Us .u32 h0 v xs)(hv':Us .u32 h0 v' ys)(hl:xs.length<=1099511627776)(hl':ys.length<=1099511627776):
 Calls prog 166 #[v,v'] w0 (Ret w0 h0 (λh r=>Us .u32 h r (zB (Nat.gcd (val xs) (val ys))))):=by
 have bx:=vZ hv.lt;have bw:=vZ hv'.lt;obtain⟨G,hG⟩:∃G,G=Nat.gcd (val xs) (val ys):=⟨_,I⟩;rw[<-hG];refine cb2 61 v v' func166 hs ?_;refine go8 ?_;refine cL (ev1 I) call144 (λw hs=>qO hs hv) λbt h1 bg Z=>?_;replace Z:=Z.2;refine uH (vs:=[_]) I I I I call103 ⟨I,y3i⟩ (λw hs=>bJ hs Z oM) ?_;intro ar h2 ch bf aj;obtain rfl:=aj;refine yN (by exact wK _) ?_;intro h3 be bj;refine go1 ?_;replace hv':=hv'.mono ((bg.trans bf).trans be);refine cL (ev1 I) call144 (λw hs=>qO hs hv') λbs h4 cf U=>?_;replace U:=U.2;refine uH (vs:=[_]) I I I I call103 ⟨I,y3i⟩ (λw hs=>bJ hs U oM) ?_;intro aq h5 cg ce ai;obtain rfl:=ai;refine yN (by exact wK _) ?_;intro h6 cd bi;refine go6 ?_;refine gcL (ι:=Value×Nat×Value×Nat×Mem) (λ(vx,X,vy,Y,k1)=>(MLe h6 k1/\(Us .u32 k1 vx (zB X)/\Us .u32 k1 vy (zB Y)/\Nat.gcd X Y=G/\(zB X).length<=1099511627776/\(zB Y).length<=1099511627776),[(5,vx),(6,vy)],[],k1,Y)) (ar,val xs,aq,val ys,h6) ?_ ?_
 · exact⟨mle,bj.up,bi,hG.symm,by omega,by omega⟩
 rintro⟨vx,X,vy,Y,k1⟩ ⟨bm,⟨ha,hb,hg,ca,bd⟩⟩
 refine yW ?_;refine gc8 (λap=>?_) λap=>?_
 ·
  refine go7 ?_;have H:Y≠0:=yQ.1 oM;refine cL (ev2 I I) call147 (λw hs=>w4 hs ha hb oM oM) λbr h7 aa D=>?_;obtain⟨bv,av,rfl,am,D⟩:=D;simp only[zE] at am D;rw[zae H] at D;have bc:=zW (ydu (zcu X (zfe H)));refine zDD ?_;refine gqL (vy,Y,av,X%Y,h7) ?_ ?_
  · exact⟨mle,hb.up,D,by rw[mU];exact hg,bd,by omega⟩
  exact zcu _ (zfe H)
 refine pV ?_;refine cnd (λao=>?_) λao=>?_
 ·
  have H:Y=0:=zdu λba=>by have:=yQ.2 ba;omega
  refine go8 ?_;refine zF I I ?_;rw[H,yje] at hg;rw[<-hg];exact ha
 have H:Y≠0:=yQ.1 oM;refine go2 ?_;refine jC (ι:=Value×Nat×Value×Nat×Mem) (λ(O,X2,M,Y2,k2)=>MLe k1 k2/\(Us .u32 k2 O (zB X2)/\Us .u32 k2 M (zB Y2)/\Nat.gcd X2 Y2=G/\(zB X2).length<=2/\(zB Y2).length<=2)) (λ(O,X2,M,Y2,k2)=>[(5,O),(6,M)]) (λ(O,X2,M,Y2,k2)=>[]) (λ(O,X2,M,Y2,k2)=>k2) ?_ ?_
 ·
  refine gc7 (λan=>?_) λan=>?_
  ·
   refine go4 ?_;refine cL (ev2 I I) call147 (λw hs=>w4 hs ha hb oM oM) λbq h7 aa C=>?_;obtain⟨bu,au,rfl,ak,C⟩:=C;simp only[zE] at ak C;rw[zae H] at C;have bc:=zW (ydu (zcu X (zfe H)));refine u5 ?_;refine zY (vy,Y,au,X%Y,h7) ?_ e2z I I;refine⟨aa,?_⟩;replace hb:=hb.mono aa;exact⟨hb,C,by rw[mU];exact hg,by omega,by omega⟩
  refine go1 ?_;refine zY (vx,X,vy,Y,k1) ?_ e2z I I;refine⟨MLe.refl _,?_⟩;exact⟨ha,hb,hg,by omega,by omega⟩
 rintro⟨O,X2,M,Y2,k2⟩ ⟨bl,⟨bk,ac,bh,ax,aw⟩⟩
 refine yW ?_;refine go3 ?_;refine cL (ev1 I) call192 (λw hs=>zMN hs bk oM) λbp h7 aa ah=>?_;subst ah;rw[zE];have az:=nF ax;refine go1 ?_;replace ac:=ac.mono aa;refine cL (ev1 I) call192 (λw hs=>zMN hs ac oM) λbo h8 cc ae=>?_;subst ae;rw[zE];have ay:=nF aw;refine go6 ?_;refine gcL (ι:=Nat×Nat) (λ(m,n)=>(Nat.gcd m n=G/\m<18446744073709551616/\n<18446744073709551616,[(13,vU .u64 m),(14,vU .u64 n)],[],h8,n)) (X2,Y2) ?_ ?_
 · exact⟨bh,az,ay⟩
 rintro⟨m,n⟩ ⟨ab,hm,hn⟩
 refine yW ?_;refine go4 ?_;refine gv (tT (k:=.u64) (q:=0) I I) I (gc2 (λJ=>?_) λJ=>?_)
 ·
  refine go3 ?_;refine zK 6 _ [] (zai 0 6 []) yA nX zot nX (λr hr=>hr) (go3 ?_);refine xD I (λ_ _=>bQ (k:=.u64) I I oM) I (go4 ?_);refine gqL (n,m%n) ?_ ?_
  ·
   have bz:=zcu m (zfe J);exact⟨by rw[mU];exact ab,hn,by omega⟩
  exact zcu _ (zfe J)
 refine go8 ?_;refine cL (ev1 I) call167 (λw hs=>nat_of hs oM) λbn h9 cb ad=>(go4 ?_);refine zF I I ?_;have bb:n=0:=zdi J;rw[bb,yje] at ab;rw[<-ab];exact ad
theorem zAB{n:Nat}(hn:n<18446744073709551616):
 Calls prog 131 #[vU .u64 n] w0 (Ret w0 h0 (λh r=>Us .u32 h r (zB n))):=by
 refine cb1 10 (vU .u64 n) func131 hs ?_;refine jF ?_;refine zH (zF7 (kd:=.u32) underlying22 vN I I I I) I I I ?_;intro M O D;obtain rfl:=D;refine yN (by intro x hx;simp only[zfi,zgi,or_false] at hx;simp only[ub];omega) ?_;intro h1 H hb;refine cL (ev1 I) call91 (λw hs=>tS hs hb zo1) λJ h2 G C=>(go4 ?_);refine zF I I ?_;have e:val [n%4294967296,n/2^32%4294967296]=n:=by simp only[val];omega
 rw[e] at C;exact C
theorem oI{v v':Value}{X Y:Nat}(hv:Us .u32 h0 v (zB X))(hv':Us .u32 h0 v' (zB Y)):
 Calls prog 56 #[v,v'] w0 (Ret w0 h0 (λ_ r=>r=vI (sZ X Y))):=by
 have U:=zE X;have D:=zE Y;generalize hA:zB X=AA at *;generalize hB:zB Y=BB at *;have fA:Fit AA:=hv.lt;have fB:Fit BB:=hv'.lt;have lA:=hv.lt63;have lB:=hv'.lt63;refine cb2 41 v v' func56 hs ?_;refine jI ?_;refine gv (vT underlying22 I hv') I (gc3 (λO=>?_) λO=>?_)
 ·
  refine go6 ?_;refine gv (vT underlying22 I hv') I (gc3 (λM=>?_) λM=>?_)
  ·
   refine go8 ?_;refine zF I I ?_;rw[zCD (rY (by rw[hA,hB];omega))]
  refine go9 ?_;refine zF I I ?_;rw[zCE (rY (by rw[hA,hB];omega))]
 have hl:AA.length=BB.length:=by omega
 refine jF ?_;refine gcL (ι:=Nat) (λ(j:(Nat))=>(j<=AA.length/\AA.drop j=BB.drop j,[(0,v),(1,v'),(5,vI (↑j-1))],[],h0,j)) AA.length ?_ ?_
 · exact⟨zbe _,by rw[zle (zbe _),zle oM]⟩
 rintro j ⟨hj,G⟩
 refine yW ?_;refine gc7 (λJ=>?_) λJ=>?_
 ·
  refine go6 ?_;refine zK 9 _ [] (zai 0 9 []) yA nX zot nX (λr Z=>Z) (go2 ?_);refine w_q I (λh' L' hh hR=>yD (j-1) underlying22 sizeOf127 I I (hv.mono hh) oM oM) I (w_q I (λh' L' hh hR=>wC isAgg127 I (hv.mono hh) oM) I (go2 ?_));refine w_q I (λh' L' hh hR=>yD (j-1) underlying22 sizeOf127 I I (hv'.mono hh) oM oM) I (w_q I (λh' L' hh hR=>wC isAgg127 I (hv'.mono hh) oM) I (gc3 (λC=>?_) λC=>?_))
  ·
   refine jF ?_;refine zF I I ?_;rw[<-U,<-D,zCD (zEG fA hl oM hj G C)]
  refine go3 ?_;refine zK 9 _ [] (zai 0 9 []) yA nX zot nX (λr Z=>Z) (go2 ?_);refine w_q I (λh' L' hh hR=>yD (j-1) underlying22 sizeOf127 I I (hv.mono hh) oM oM) I (w_q I (λh' L' hh hR=>wC isAgg127 I (hv.mono hh) oM) I (go2 ?_));refine w_q I (λh' L' hh hR=>yD (j-1) underlying22 sizeOf127 I I (hv'.mono hh) oM oM) I (w_q I (λh' L' hh hR=>wC isAgg127 I (hv'.mono hh) oM) I (gc3 (λH=>?_) λH=>?_))
  ·
   refine jI ?_;refine zF I I ?_;rw[<-U,<-D,zCE (zEG fB hl.symm oM oM G.symm oM)]
  refine go8 ?_;refine gqL (j-1) ?_ ?_ (he:=⟨I,I,?_,y3i⟩)
  ·
   refine⟨by omega,?_⟩;rw[tQ AA (j-1) oM,tQ BB (j-1) oM];have e:j-1+1=j:=by omega
   rw[e,G,zdi (show ¬¬AA.getD (j-1) 0=BB.getD (j-1) 0 by omega)]
  · omega
  · exact y2e (zbi vI oM)
 refine jI ?_;refine zF I I ?_;have h0:j=0:=by omega
 subst h0;simp only[ybu] at G;rw[<-U,<-D,G,zR6]
theorem zVV{v:Value}{X:Nat}(hv:Us .u32 h0 v (zB X))(hl:(zB X).length<=1099511627776):
 Calls prog 139 #[v] w0 (Ret w0 h0 (λ_ r=>r=vI ↑(wU X))):=by
 refine cb1 25 v func139 hs ?_;refine pV ?_;refine cnd (λO=>?_) λO=>?_
 ·
  refine go7 ?_;refine zF I I ?_;have h0:X=0:=zdu λM=>by have:=yQ.2 M;omega
  rw[h0];rfl
 have G:0<(zB X).length:=by omega
 have hb:=zDM (wK X) (k:=(zB X).length-1) oM (rI G);rw[zE] at hb;refine go7 ?_;refine gv (aX (p:=32) I I oM oM) I (qE ?_);refine gv (yD ((zB X).length-1) underlying22 sizeOf127 I I hv oM oM) I (go1 ?_);have D:=hv.get32 ((zB X).length-1);refine go4 ?_;refine gcL (ι:=Nat×Nat) (λ(c,x)=>(x<4294967296/\wU ((zB X).getD ((zB X).length-1) 0)=c+wU x/\c<=32,[(3,vI (32*(↑(zB X).length-1)+↑c)),(4,vU .u32 x)],[],h0,x)) (0,(zB X).getD ((zB X).length-1) 0) ?_ ?_ (he:=⟨y2e (zbi vI oM),I,y3i⟩)
 · exact⟨D,by omega,by omega⟩
 rintro⟨c,x⟩ ⟨hx,H,U⟩
 refine yW ?_;have Z:=lO (n:=(zB X).getD ((zB X).length-1) 0) (k:=32) D;refine go4 ?_;refine gv (tT (k:=.u32) (q:=0) I I) I (gc2 (λC=>?_) λC=>?_)
 ·
  refine pV ?_;refine gv (gW (k:=.u32) (s:=1) (yk:=.u64) I I I (by simp only[ub];omega)) I (go2 ?_);refine gqL (c+1,x/2^1) ?_ ?_ (he:=⟨y2e (zbi vI oM),I,y3i⟩)
  ·
   have h1:=zQG C;exact⟨by omega,by rw[H,h1,show x/2^1=x/2 from I];omega,by omega⟩
  omega
 refine jF ?_;refine zF I I ?_;have J:x=0:=zdi C;rw[J,zG5] at H;exact zbi vI oM
theorem yAP{v v':Value}{X Y:Nat}(hv:Us .u32 h0 v (zB X))(hv':Us .u32 h0 v' (zB Y))(hl:(zB X).length<=1099511627776)(hl':(zB Y).length<=1099511627776):
 Calls prog 84 #[v,v'] w0 (Ret w0 h0 (λh r=>Us .u32 h r (zB (X+Y)))):=by
 have ay:=zW (Nat.le_add_right X Y);have ax:=zW (Nat.le_add_left Y X);have aw:=uW X Y;refine cb2 54 v v' func84 hs ?_;refine go7 ?_;refine eE (tX (v:=.slice none 0 0) I) I I I (zDF (E:=127) (k:=.u32) (go4 ?_));refine asg (v:=vU .u64 0) I I (go9 ?_);refine gcL (ι:=Value×List Nat×Nat×Mem) (λ(O,C,c,Z)=>(MLe h0 Z/\(C.length<=(zB (X+Y)).length/\Fit C/\c<=1/\val C+4294967296^C.length*c=val ((zB X).take C.length)+val ((zB Y).take C.length)),[(0,v),(1,v'),(5,O),(6,vU .u64 c),(7,vI ↑C.length)],[.us 127 .u32 O C],Z,(zB (X+Y)).length-C.length)) (.slice none 0 0,[],0,h0) ?_ ?_
 · exact⟨mle,by simp,λx hx=>by simp at hx,by omega,by simp[val]⟩
 rintro⟨O,C,c,Z⟩ ⟨G,⟨aj,U,az,M⟩⟩
 refine yW ?_;replace hv:=hv.mono G;replace hv':=hv'.mono G;have av:=hv.get32 C.length;have au:=hv'.get32 C.length;refine go7 ?_;refine gU 6 17 (vB (((↑C.length:Int)<↑(zB X).length)\/((↑C.length:Int)<↑(zB Y).length))) ?_ ?_
 ·
  refine yK ((↑C.length:Int)<↑(zB X).length) (λH=>?_) (λH=>?_)
  ·
   refine gT H I (go6 ?_);refine gqU ?_;exact y2e (uL H)
  refine gF H I (go5 ?_);refine gv (vT underlying22 I hv') I (go4 ?_);refine gqU ?_;exact y2e (uM H)
 refine gU 4 21 (vB (((↑C.length:Int)<↑(zB X).length\/(↑C.length:Int)<↑(zB Y).length)\/(c≠0))) ?_ ?_
 ·
  refine yK ((↑C.length:Int)<↑(zB X).length\/(↑C.length:Int)<↑(zB Y).length) (λH=>?_) (λH=>?_)
  ·
   refine gT H I (go4 ?_);refine gqU ?_;exact y2e (uL H)
  refine gF H I (go3 ?_);refine gv (tT (k:=.u64) (q:=0) I I) I (go2 ?_);refine gqU ?_;exact y2e (uM H)
 refine gc2 (λD=>?_) λD=>?_
 ·
  refine go4 ?_;refine jC (ι:=Unit) (λ(J:(Unit))=>True) (λ(J:(Unit))=>[(0,v),(1,v'),(5,O),(6,vU .u64 (c+(zB X).getD C.length 0)),(7,vI ↑C.length)]) (λ(J:(Unit))=>[.us 127 .u32 O C]) (λ(J:(Unit))=>Z) ?_ ?_
  ·
   refine gc8 (λah=>?_) λah=>?_
   ·
    refine go4 ?_;refine gv (yD (C.length) underlying22 sizeOf127 I I hv oM oM) I (go5 ?_);refine zY (()) ?_ e5 I I
    trivial
   refine go1 ?_;refine zY (()) ?_ ⟨I,I,I,?_,I,y3i⟩ I I
   · trivial
   · exact y2e (zbi (vU .u64) (by rw[sW (xs:=zB X) oM];omega))
  rintro J ad
  refine yW ?_;refine jC (ι:=Unit) (λ(J:(Unit))=>True) (λ(J:(Unit))=>[(0,v),(1,v'),(5,O),(6,vU .u64 (c+(zB X).getD C.length 0+(zB Y).getD C.length 0)),(7,vI ↑C.length)]) (λ(J:(Unit))=>[.us 127 .u32 O C]) (λ(J:(Unit))=>Z) ?_ ?_
  ·
   refine go4 ?_;refine gv (vT underlying22 I hv') I (gc3 (λae=>?_) λae=>?_)
   ·
    refine go4 ?_;refine gv (yD (C.length) underlying22 sizeOf127 I I hv' oM oM) I (gv (wC isAgg127 I hv' oM) I (go4 ?_));refine zY (()) ?_ e5 I I
    trivial
   refine go1 ?_;refine zY (()) ?_ ⟨I,I,I,?_,I,y3i⟩ I I
   · trivial
   · exact y2e (zbi (vU .u64) (by rw[sW (xs:=zB Y) oM];omega))
  rintro J ad
  refine yW ?_;refine go5 ?_;refine zH (fI (kd:=.u32) underlying22 vN I I I) I I I ?_;intro ap ar ab;obtain rfl:=ab;refine yN (by intro z hz;simp only[zpe] at hz;subst hz;simp only[ub];omega) ?_;intro h1 ac am;refine xU (A:=[]) (kD (kd:=.u32) (bytes:=4) underlying22 vN I I I I I am zo7 zo7) I I I ?_;intro ai aq aa;obtain rfl:=aa;refine u5 ?_;generalize ao:(zB X).getD C.length 0=p at *;generalize an:(zB Y).getD C.length 0=q at *;have ak:C.length<(zB (X+Y)).length:=by
   rcases D with(h|h)|h
   · omega
   · omega
   · by_cases h1:C.length<(zB X).length
     · omega
     · by_cases h2:C.length<(zB Y).length
       · omega
       · rw[wH oM,wH oM,zE,zE] at M
         refine zB4 ?_;have:=Nat.le_mul_of_pos_right (4294967296^C.length) (zfe h);omega
  refine gqL (ai,C++[(c+p+q)%4294967296],(c+p+q)/2^32,h1) ?_ ?_ (he:=⟨I,I,I,I,y2e (zbi vI zo1),y3i⟩)
  ·
   refine⟨(G.trans ac),?_⟩;refine⟨by simp;omega,uC U (aM oM),by omega,?_⟩;rw[lAz,zju,uK,uK,ao,an,rO,zke];have e:=z4i (c+p+q) 4294967296;rw[show(2:Nat)^32=4294967296 from I];generalize (c+p+q)/4294967296=s at *;generalize (c+p+q)%4294967296=r at *;grind
  simp;omega
 refine go8 ?_;refine yN (by exact U) ?_;intro h1 ac ho;refine go4 ?_;refine zF I I ?_;have h1:¬C.length<(zB X).length:=λh=>D (.inl (.inl oM));have h2:¬C.length<(zB Y).length:=λh=>D (.inl (.inr oM));have h3:c=0:=zdu λh=>D (.inr h);rw[wH oM,wH oM,zE,zE,h3] at M;have e:val C=X+Y:=by omega
 rw[<-e,zMX U (by rw[e];exact aj)];exact ho
theorem zCY{v v':Value}{X Y:Nat}(hv:Us .u32 h0 v (zB X))(hv':Us .u32 h0 v' (zB Y))(hle:Y<=X)(hl:(zB X).length<=1099511627776):
 Calls prog 130 #[v,v'] w0 (Ret w0 h0 (λh r=>Us .u32 h r (zB (X-Y)))):=by
 have am:=zW hle;refine cb2 50 v v' func130 hs ?_;refine go9 ?_;refine jJ (kd:=.u32) (by':=4) _ underlying22 vN I I I I I I I oM oM I ?_;intro D;refine go5 ?_;refine asg (v:=vU .u64 0) I I (go9 ?_);refine kQ (ι:=List Nat×Nat) (λ(C,c)=>C.length<=(zB X).length/\Fit C/\c<=1/\val C+val ((zB Y).take C.length)=val ((zB X).take C.length)+4294967296^C.length*c) (λ(C,c)=>[(0,v),(1,v'),(5,D),(6,vU .u64 c),(7,vI ↑C.length)]) (λ(C,c)=>[.us 127 .u32 D (sE C (zB X).length)]) (λ(C,c)=>h0) (λ(C,c)=>(zB X).length-C.length) ([],0) ?_ e5 I I ?_
 · exact⟨by simp,λx hx=>by simp at hx,by omega,by simp[val]⟩
 rintro⟨C,c⟩ ⟨aj,H,ar,J⟩
 refine yW ?_;have ai:=hv.get32 C.length;have ah:=hv'.get32 C.length;refine gc9 (λU=>?_) λU=>?_
 ·
  refine qE ?_;refine jC (ι:=Unit) (λ(Z:(Unit))=>True) (λ(Z:(Unit))=>[(0,v),(1,v'),(5,D),(7,vI ↑C.length),(8,vU .u64 (c+(zB Y).getD C.length 0))]) (λ(Z:(Unit))=>[.us 127 .u32 D (sE C (zB X).length)]) (λ(Z:(Unit))=>h0) ?_ ?_
  ·
   refine go4 ?_;refine gv (vT underlying22 I hv') I (gc3 (λO=>?_) λO=>?_)
   ·
    refine go4 ?_;refine gv (yD (C.length) underlying22 sizeOf127 I I hv' oM oM) I (gv (wC isAgg127 I hv' oM) I (go4 ?_));refine zY (()) ?_ e5 I I
    trivial
   refine go1 ?_;refine zY (()) ?_ ⟨I,I,I,I,?_,y3i⟩ I I
   · trivial
   · exact y2e (zbi (vU .u64) (by rw[sW (xs:=zB Y) oM];omega))
  rintro Z ad
  refine yW ?_;refine go4 ?_;refine gv (yD (C.length) underlying22 sizeOf127 I I hv oM oM) I (go7 ?_);refine asg (v:=vU .u64 0) I I (go2 ?_);refine jC (ι:=Nat) (λ(d:(Nat))=>d<=1/\c+(zB Y).getD C.length 0<=(zB X).getD C.length 0+4294967296*d/\(zB X).getD C.length 0+4294967296*d<c+(zB Y).getD C.length 0+4294967296) (λ(d:(Nat))=>[(0,v),(1,v'),(5,D),(6,vU .u64 d),(7,vI ↑C.length),(8,vU .u64 (c+(zB Y).getD C.length 0)),(9,vU .u64 ((zB X).getD C.length 0+4294967296*d))]) (λ(d:(Nat))=>[.us 127 .u32 D (sE C (zB X).length)]) (λ(d:(Nat))=>h0) ?_ ?_
  ·
   refine gc7 (λM=>?_) λM=>?_
   ·
    refine go3 ?_;refine gv (sR (k:=.u64) (q:=4294967296) (W:=18446744073709551616) I I I I oM) I (go4 ?_);refine asg (v:=vU .u64 1) I I (go1 ?_);refine zY (1) ?_ e7 I I;exact⟨by omega,by omega,by omega⟩
   refine go1 ?_;refine zY (0) ?_ e7 I I;exact⟨by omega,by omega,by omega⟩
  rintro d ⟨aa,aq,ap⟩
  refine yW ?_;refine go5 ?_;refine gv (aW (k:=.u64) (W:=18446744073709551616) I I I I oM oM) I (gv (vV (k:=.u64) (k':=.u32) (W:=4294967296) underlying130 underlying127 I I I oM) I (gv (yX (A:=[]) (C.length) underlying22 sizeOf127 I I oM (by rw[uO oM];omega)) I (wS sizeOf127 I I (by rw[uO oM];omega) (go8 ?_))));generalize ac:(zB X).getD C.length 0=p at *;generalize ab:(zB Y).getD C.length 0=q at *;refine jM (C++[p+4294967296*d-(c+q)],d) ?_ ?_ ⟨I,I,I,I,?_,y3i⟩ ?_ I
  ·
   refine⟨by simp;omega,uC H (aM oM),aa,?_⟩;rw[lAz,zju,uK,uK,ac,ab,rO,zke];have e:p+4294967296*d-(c+q)+c+q=p+4294967296*d:=by omega
   generalize p+4294967296*d-(c+q)=r at *;grind
  ·
   dsimp only;simp;omega
  · exact y2e (zbi vI zo1)
  try dsimp only[List.nil_append,List.cons_append]
  rw[pL oM]
 refine go8 ?_;have hk:C.length=(zB X).length:=by omega
 rw[bX hk];refine yN (by exact H) ?_;intro h1 ao ho;refine cL (ev1 I) call91 (λw hs=>tS hs ho oM) λae h2 an G=>(go4 ?_);refine zF I I ?_;have hk:C.length=(zB X).length:=by omega
 rw[wH oM,wH oM,zE,zE] at J;have h1:=gE H;have h2:c=0:=zdu λak=>by
  have:c=1:=by omega
  subst this;omega
 subst h2;have e:val C=X-Y:=by omega
 rw[e] at G;exact G
theorem zQW{v v':Value}{X Y:Nat}(hv:Us .u32 h0 v (zB X))(hv':Us .u32 h0 v' (zB Y))(hl:(zB X).length<=1099511627776):
 Calls prog 85 #[v,v'] w0 (Ret w0 h0 (λh r=>∃u,r=.tuple #[u,vI (if X<Y then 7 else 0)]/\Us .u32 h u (zB (X-Y)))):=by
 refine cb2 13 v v' func85 hs ?_;refine jI ?_;refine cL (ev2 I I) call56 (λw hs=>oI hs hv hv') λv8 h1 H J=>?_;subst J;refine gc3 (λC=>?_) λC=>?_
 ·
  have G:=fZ.1 C;refine go8 ?_;refine uQ I I I ?_;rw[zau G,Nat.sub_eq_zero_of_le (ydu G),yY];exact⟨_,I,Us.nil _ _⟩
 have U:Y<=X:=ybe λZ=>C (fZ.2 Z);refine go6 ?_;replace hv:=hv.mono H;replace hv':=hv'.mono H;refine cL (ev2 I I) call130 (λw hs=>zCY hs hv hv' oM oM) λM h2 O D=>(go5 ?_);refine uQ I I I ?_;rw[zae oM];exact⟨_,I,D⟩
theorem bE{v v':Value}{xs ys:List Nat}(hv:Us .u32 h0 v xs)(hv':Us .u32 h0 v' ys)(hl:xs.length<=1099511627776)(hl':ys.length<=1099511627776):
 Calls prog 47 #[v,v'] w0 (Ret w0 h0 (λh r=>Us .u32 h r (zB (val xs*val ys)))):=by
 have aq:Fit xs:=hv.lt;have ap:Fit ys:=hv'.lt;refine cb2 67 v v' func47 hs ?_;refine qE ?_;refine gv (vT underlying22 I hv') I (go1 ?_);refine jJ (kd:=.u32) (by':=4) (xs.length+ys.length) underlying22 vN I I I I I oM oM oM oM I ?_;intro D;refine qE ?_;refine gcL (ι:=Nat×List Nat) (λ(k,G)=>(k<=xs.length/\G.length=xs.length+ys.length/\Fit G/\val G=val (xs.take k)*val ys/\∀i,k+ys.length<=i->G.getD i 0=0,[(0,v),(1,v'),(5,D),(6,vI ↑k)],[.us 127 .u32 D G],h0,xs.length-k)) (0,List.replicate (xs.length+ys.length) 0) ?_ ?_
 · exact⟨zri _,by simp,jD _,by rw[tW];simp[val],λi _=>dM _ _⟩
 rintro⟨k,G⟩ ⟨hk,ad,aa,O,hz⟩
 refine yW ?_;refine gc9 (λac=>?_) λac=>?_
 ·
  refine go6 ?_;refine asg (v:=vU .u64 0) I I (go9 ?_);refine gcL (ι:=Nat×List Nat×Nat) (λ(j,C,c)=>(j<=ys.length/\C.length=xs.length+ys.length/\Fit C/\c<4294967296/\val C+4294967296^(k+j)*c=val G+4294967296^k*(xs.getD k 0*val (ys.take j))/\∀i,k+ys.length<=i->C.getD i 0=0,[(0,v),(1,v'),(5,D),(6,vI ↑k),(7,vU .u64 c),(8,vI ↑j)],[.us 127 .u32 D C],h0,ys.length-j)) (0,G,0) ?_ ?_
  · exact⟨zri _,ad,aa,by omega,by simp[val],hz⟩
  rintro⟨j,C,c⟩ ⟨hj,Z,M,ae,U,J⟩
  refine yW ?_;have am:=hv.get32 k;have ak:=hv'.get32 j;have aj:=qY M (k+j);have ai:xs.getD k 0*ys.getD j 0<=4294967295*4294967295:=z6e oM oM;refine go5 ?_;refine gv (vT underlying22 I hv') I (gc3 (λab=>?_) λab=>?_)
  ·
   refine go5 ?_;refine zK 22 _ [] (zai 0 22 []) yA nX zot nX (λr hr=>hr) (go3 ?_);refine w_q I (λh' L' hh hR=>yD (k) underlying22 sizeOf127 I I (hv.mono hh) oM oM) I (w_q I (λh' L' hh hR=>wC isAgg127 I (hv.mono hh) oM) I (go3 ?_));refine w_q I (λh' L' hh hR=>yD (j) underlying22 sizeOf127 I I (hv'.mono hh) oM oM) I (w_q I (λh' L' hh hR=>wC isAgg127 I (hv'.mono hh) oM) I (go6 ?_));refine w_q I (λh' L' hh hR=>jO (hR _ mh0) (k+j) underlying22 sizeOf127 I I oM oM) I (w_q I (λh' L' hh hR=>gY (hR _ mh0) isAgg127 I oM) I (rT ?_));refine gv (yX (A:=[]) (k+j) underlying22 sizeOf127 I I oM oM) I (wS sizeOf127 I I oM (rT ?_));refine gqL (j+1,C.set (k+j) ((c+(xs.getD k 0*ys.getD j 0+C.getD (k+j) 0))%4294967296),(c+(xs.getD k 0*ys.getD j 0+C.getD (k+j) 0))/2^32) ?_ ?_
   ·
    refine⟨by omega,by simp[Z],nI M _ oM,by omega,?_,λi hi=>?_⟩
    · have h1:=lW (xs:=C) (i:=k+j) oM ((c+(xs.getD k 0*ys.getD j 0+C.getD (k+j) 0))%4294967296)
      have e:=z4i (c+(xs.getD k 0*ys.getD j 0+C.getD (k+j) 0)) 4294967296;have e2:(2:Nat)^32=4294967296:=I;rw[uV ys j oM,e2];have ep:(4294967296:Nat)^(k+(j+1))=4294967296^k*4294967296^j*4294967296:=by rw[<-z3u,zke,zlu]
      rw[ep];rw[zlu] at h1 U;generalize (c+(xs.getD k 0*ys.getD j 0+C.getD (k+j) 0))/4294967296=q at *;generalize (c+(xs.getD k 0*ys.getD j 0+C.getD (k+j) 0))%4294967296=r at *;grind
    · rw[jB oM];exact J i hi
   omega
  refine go9 ?_;refine gv (vT underlying22 I hv') I (go3 ?_);refine gv (yX (A:=[]) (k+ys.length) underlying22 sizeOf127 I I oM oM) I (wS sizeOf127 I I oM (go8 ?_));refine gqL (k+1,C.set (k+ys.length) (c%4294967296)) ?_ ?_
  ·
   have hj:j=ys.length:=by omega
   subst hj;refine⟨by omega,by simp[Z],nI M _ oM,?_,λi hi=>?_⟩
   · have h1:=lW (xs:=C) (i:=k+ys.length) oM (c%4294967296)
     rw[J _ (zbe _)] at h1;rw[wH (zbe _)] at U;rw[zoh ae] at h1 ⊢;rw[uV xs k oM];grind
   · rw[jB oM];exact J i oM
  omega
 refine go8 ?_;refine yN (by exact aa) ?_;intro h1 ao ho;refine cL (ev1 I) call91 (λw hs=>tS hs ho oM) λah h2 an H=>(go4 ?_);refine zF I I ?_;rw[O,wH oM] at H;exact H
theorem zS3{v:Value}{X d:Nat}(hv:Us .u32 h0 v (zB X))(hd:d<4294967296)(hl:(zB X).length<=1099511627776):
 Calls prog 142 #[v,vU .u32 d] w0 (Ret w0 h0 (λh r=>Us .u32 h r (zB (X*d)))):=by
 refine cb2 10 v (vU .u32 d) func142 hs ?_;refine qE ?_;refine cL (ev1 I) call131 (λw hs=>zAB hs oM) λO h1 G D=>?_;have J:=gL (n:=d) oM;replace hv:=hv.mono G;refine cL (ev2 I I) call47 (λw hs=>bE hs hv D oM oM) λM h2 H C=>?_;simp only[zE] at C;refine go4 ?_;refine zF I I ?_;exact C
theorem zFJ{v:Value}{xs:List Nat}{b:Nat}(hv:Us .u32 h0 v xs)(hb:0<b)(hb':b<4294967296)(hl:xs.length<=1099511627776):
 Calls prog 138 #[v,vU .u32 b] w0 (Ret w0 h0 (λh r=>∃u,r=.tuple #[u,vU .u32 (val xs%b)]/\Us .u32 h u (zB (val xs/b)))):=by
 have hf:Fit xs:=hv.lt;refine cb2 43 v (vU .u32 b) func138 hs ?_;refine go3 ?_;refine asg (v:=vU .u32 0) I I (go6 ?_);refine jJ (kd:=.u32) (by':=4) _ underlying22 vN I I I I I I I oM oM I ?_;intro G;refine go5 ?_;refine asg (v:=vU .u64 0) I I (jF ?_);refine kQ (ι:=Nat×List Nat×Nat) (λ(j,D,r)=>j<=xs.length/\D.length=xs.length-j/\Fit D/\r<b/\val (xs.drop j)=b*val D+r) (λ(j,D,r)=>[(0,v),(1,vU .u32 b),(6,G),(7,vU .u64 r),(8,vI (↑j-1))]) (λ(j,D,r)=>[.us 127 .u32 G (fL j D)]) (λ(j,D,r)=>h0) (λ(j,D,r)=>j) (xs.length,[],0) ?_ e5 ?_ I ?_
 · exact⟨zbe _,by simp,λx hx=>by simp at hx,hb,by rw[zle (zbe _)];rfl⟩
 ·
  try dsimp only[List.nil_append,List.cons_append]
  exact zbi (λz=>[Res.us 127 .u32 G z]) (lK _)
 rintro⟨j,D,r⟩ ⟨hj,ab,J,U,C⟩
 refine yW ?_;refine gc7 (λM=>?_) λM=>?_
 ·
  refine go7 ?_;refine gv (gX (k:=.u64) (s:=32) (yk:=.u64) (W:=18446744073709551616) I I I I) I (go2 ?_);refine gv (yD (j-1) underlying22 sizeOf127 I I hv oM oM) I (go1 ?_);have O:=hv.get32 (j-1);refine go1 ?_;refine gv (rD (k:=.u64) I I I (by simp only[ub];omega) (by simp only[ub];omega)) I ?_;rw[cF oM O];generalize ht:r*4294967296+xs.getD (j-1) 0=t at *;have hq:t/b<4294967296:=z3i (by rw[<-ht];have h1:(r+1)*4294967296<=b*4294967296:=zfu _ U;omega);refine qE ?_;refine gv (bR (k:=.u64) (W:=18446744073709551616) I I I I oM oM) I (gv (vV (k:=.u64) (k':=.u32) (W:=4294967296) underlying130 underlying127 I I I oM) I (gv (yX (A:=[]) (j-1) underlying22 sizeOf127 I I oM (by rw[jP];omega)) I (wS sizeOf127 I I (by rw[jP];omega) (go6 ?_))));refine gv (bQ (k:=.u64) I I oM) I (go9 ?_);refine jM (j-1,t/b::D,t%b) ?_ ?_ ⟨I,I,I,I,?_,y3i⟩ ?_ I
  ·
   refine⟨by omega,by simp only[lC];omega,rV.2 ⟨hq,J⟩,zcu _ hb,?_⟩;rw[kF xs (j-1) oM,show j-1+1=j by omega,val];exact zFA C ht.symm I I
  ·
   dsimp only;omega
  · exact y2e (zbi vI oM)
  try dsimp only[List.nil_append,List.cons_append]
  rw[lJ oM]
 refine go8 ?_;have Z:j=0:=by omega
 subst Z;rw[bY];refine yN (by exact J) ?_;intro h1 ad ho;refine cL (ev1 I) call91 (λw hs=>tS hs ho oM) λaa h2 ac H=>(go1 ?_);refine gv (vV (k:=.u64) (k':=.u32) (W:=4294967296) underlying130 underlying127 I I I oM) I (go5 ?_);refine uQ I I I ?_;simp only[ybu] at C;have e1:val xs/b=val D:=by rw[C,Nat.mul_add_div hb,z0e U];omega
 have e2:val xs%b=r:=by rw[C,Nat.mul_add_mod,zoh U]
 rw[e1,e2];exact⟨_,I,H⟩
theorem zFI{v:Value}{X:Nat}(hv:Us .u32 h0 v (zB X))(hl:(zB X).length<=1099511627776):
 Calls prog 197 #[v] w0 (Ret w0 h0 (λ_ r=>r=.string (qW (txt X)))):=by
 have aq:=zNL (wK X);rw[zE] at aq;refine cb1 65 v func197 hs ?_;refine pV ?_;refine cnd (λau=>?_) λau=>?_
 ·
  have bh:(zB X).length=0:=by omega
  refine go7 ?_;refine zF I I ?_;have e:X=0:=zdu λZ=>by have:=yQ.2 Z;omega
  rw[e];rfl
 have bj:(zB X).length≠0:=by omega
 refine go4 ?_;refine eE (tX (v:=.slice none 0 0) I) I I I (zDF (E:=5) (k:=.u8) (go4 ?_));refine kQ (ι:=Value×Nat×Value×List Nat×Mem) (λ(va,n,U,ds,H)=>MLe h0 H/\(Us .u32 H va (zB n)/\n<=X/\ds++j0 n=j0 (X))) (λ(va,n,U,ds,H)=>[(0,va),(3,U)]) (λ(va,n,U,ds,H)=>[.us 5 .u8 U ds]) (λ(va,n,U,ds,H)=>H) (λ(va,n,U,ds,H)=>n) (v,X,.slice none 0 0,[],h0) ?_ e2z I I ?_
 ·
  refine⟨MLe.refl _,?_⟩;exact⟨hv,zbe _,I⟩
 rintro⟨va,n,U,ds,H⟩ ⟨ah,⟨ha,an,aa⟩⟩
 refine yW ?_;have ba:(zB n).length<=(zB X).length:=zW an;refine gc8 (λac=>?_) λac=>?_
 ·
  refine go6 ?_;refine cL (vs:=[_,vU .u32 1000000000]) e2z call138 (λw hs=>zFJ hs ha oM oM oM) λbe h1 ao am=>?_;obtain⟨ai,rfl,D⟩:=am;rw[zE] at D ⊢;refine rT ?_;refine kQ (ι:=Nat×Nat×Value×List Nat×Mem) (λ(i,x,J,C,M)=>MLe h1 M/\(i<=9/\x<10^(9-i)/\C++j0 (x+10^(9-i)*(n/1000000000))=j0 (X))) (λ(i,x,J,C,M)=>[(3,J),(4,ai),(5,vU .u32 x),(6,vI ↑i)]) (λ(i,x,J,C,M)=>[.us 5 .u8 J C]) (λ(i,x,J,C,M)=>M) (λ(i,x,J,C,M)=>9-i) (0,n%1000000000,U,ds,h1) ?_ e4z I I ?_
  ·
   refine⟨MLe.refl _,?_⟩;exact⟨by omega,by omega,by rw[<-aa];congr 2;omega⟩
  rintro⟨i,x,J,C,M⟩ ⟨G,⟨hi,ae,O⟩⟩
  refine yW ?_;have bi:x<4294967296:=zku ae (zci (zii oM (show 9-i<=9 by omega)) dC);refine go5 ?_;refine gU 9 30 (vB (((i:Int)<9)/\(0<x\/(0:Int)<↑(zB (n/1000000000)).length))) ?_ ?_
  ·
   refine yK ((i:Int)<9) (λhg=>?_) (λhg=>?_)
   ·
    refine gT hg I (go3 ?_);refine gv (mL (k:=.u32) (q:=0) I I) I ?_;refine gU 5 29 (vB ((0<x)\/((0:Int)<↑(zB (n/1000000000)).length))) ?_ ?_
    ·
     refine yK (0<x) (λhg=>?_) (λhg=>?_)
     ·
      refine go1 ?_;refine gT hg I (go6 ?_);refine gqU ?_;exact y2e (uL hg)
     refine go1 ?_;refine gF hg I ?_;replace D:=D.mono G;refine go9 ?_;refine gqU ?_;exact y2e (uM hg)
    refine go2 ?_;refine gqU ?_;exact y2e (wE hg)
   refine gF hg I (go9 ?_);refine gqU ?_;exact y2e (wG hg)
  refine gc2 (λab=>?_) λab=>?_
  ·
   have bb:C.length<=(j0 (X)).length:=by rw[<-O];simp
   refine go8 ?_;refine gv (bQ (k:=.u32) (q:=10) I I oM) I (gv (sR (k:=.u32) (p:=48) (W:=4294967296) I I I I oM) I (gv (vV (k:=.u32) (k':=.u8) (W:=256) underlying127 underlying5 I I I oM) I (zH (fI (kd:=.u8) underlying212 zRR I I I) I I I ?_)));intro bd bg ak;obtain rfl:=ak;refine yN (by intro z hz;simp only[zpe] at hz;subst hz;simp only[ub];omega) ?_;intro h2 ay az;refine xU (A:=[]) (kD (kd:=.u8) (bytes:=1) underlying212 zRR I I I I I az zo7 zo7) I I I ?_;intro av bf aj;obtain rfl:=aj;refine go5 ?_;refine gv (bR (k:=.u32) (q:=10) (W:=4294967296) I I I I oM oM) I (go9 ?_);refine jM (i+1,x/10,av,C++[48+x%10],h2) ?_ ?_ e4z I I
   ·
    refine⟨(G.trans ay),?_⟩;obtain⟨h9,hor⟩:=ab;obtain⟨k,hk⟩:∃k,9-i=k+1:=⟨8-i,by omega⟩;have bk:=yQ (n:=n/1000000000);refine⟨by omega,?_,?_⟩
    · rw[show 9-(i+1)=k by omega]
      rw[hk,zke] at ae;omega
    · rw[show 9-(i+1)=k by omega]
      rw[hk,zUB oM] at O;rw[zhu];exact O
   dsimp only;omega
  refine qE ?_;refine jM (ai,n/1000000000,J,C,M) ?_ ?_ e2z I I
  ·
   refine⟨((ah.trans ao).trans G),?_⟩;replace D:=D.mono G;refine⟨D,by omega,?_⟩;rw[<-O]
   congr 2
   by_cases h9:i=9
   · subst h9;simp at ae ⊢;omega
   · have h1:¬(0<x\/(0:Int)<↑(zB (n/1000000000)).length):=λh=>ab ⟨by omega,h⟩
     have h2:n/1000000000=0:=zdu λZ=>h1 (.inr (by have:=yQ.2 Z;omega));rw[h2,show x=0 by omega,z7e]
  dsimp only;have:=yQ (n:=n);omega
 have aw:n=0:=zdu λZ=>ac (by have:=yQ.2 Z;omega);subst aw;rw[zI2,zli] at aa;have bc:ds.length<=10*(zB X).length:=by rw[aa];exact aq
 refine go8 ?_;refine gv (tK (A:=[]) underlying212 I) I (jJ (kd:=.u8) (by':=1) (ds.length) underlying212 zRR I I I I I oM oM oM oM I ?_);intro ad;refine qE ?_;refine kQ (ι:=Nat) (λ(k:(Nat))=>k<=ds.length) (λ(k:(Nat))=>[(3,U),(7,ad),(8,vI ↑k)]) (λ(k:(Nat))=>[.us 5 .u8 ad (fL (ds.length-k) (ds.take k).reverse),.us 5 .u8 U ds]) (λ(k:(Nat))=>H) (λ(k:(Nat))=>ds.length-k) 0 ?_ e3z ?_ I ?_
 · exact zri _
 ·
  try dsimp only[List.nil_append,List.cons_append]
  exact zbi (λz=>[Res.us 5 .u8 ad z,Res.us 5 .u8 U ds]) (lK _)
 rintro k hk
 refine yW ?_;refine go5 ?_;refine gv (tK (A:=[_]) underlying212 I) I (gc3 (λar=>?_) λar=>?_)
 ·
  refine go7 ?_;refine gv (tK (A:=[_]) underlying212 I) I (go5 ?_);refine gv (yX (A:=[_]) (k) underlying212 sizeOf5 I I oM oM) I (gv (fC (A:=[_]) isAgg5 I oM) I (gv (yX (A:=[]) (ds.length-k-1) underlying212 sizeOf5 I I oM (by rw[jP,yxu,zei];omega)) I (wS sizeOf5 I I (by rw[jP,yxu,zei];omega) (go8 ?_))));refine jM (k+1) ?_ ?_ e3z ?_ I
  · omega
  · omega
  try dsimp only[List.nil_append,List.cons_append]
  rw[lJ oM,dY ds k oM,List.reverse_append,List.reverse_singleton,List.singleton_append,Nat.sub_sub]
 refine go8 ?_;have ax:k=ds.length:=by omega
 rw[ax,yue,bY,zue];refine yN (by intro z hz;rw[aa] at hz;exact zSA _ z (List.mem_reverse.1 hz)) ?_;intro h1 ao ap;refine gv (zJU underlying212 underlying5 underlying9 I ap) I (go4 ?_);refine zF I I ?_;have e:X≠0:=yQ.1 oM;rw[txt,zae e,<-aa]
end
set_option maxHeartbeats 1000000 in
section
variable{w0:World}{h0:Mem}(hs:MLe h0 (mem w0))
include hs
theorem mO{v:Value}{xs:List Nat}{n:Int}(hv:Us .u32 h0 v xs)(hn:-9223372036854775808<=n)(hn':n<9223372036854775808)(hl:xs.length<=1099511627776):
 Calls prog 95 #[v,vI n] w0 (Ret w0 h0 (λh r=>∃u,r=.tuple #[u,vI (shE n)]/\Us .u32 h u (zB (shN (val xs) n)))):=by
 have bo:=vZ hv.lt;refine cb2 79 v (vI n) func95 hs ?_;refine go9 ?_;refine cL (ev1 I) call144 (λw hs=>qO hs hv) λbl h1 bq G=>?_;replace G:=G.2;refine zKT (λav=>?_) λav=>?_
 ·
  refine go9 ?_;refine uQ I I I ?_;rw[shE,zau oM,shN,zau oM,yY];exact⟨_,I,Us.nil _ _⟩
 refine gc7 (λau=>?_) λau=>?_
 ·
  obtain⟨N,hN⟩:∃N:Nat,n=↑N:=⟨n.toNat,by omega⟩;have bs:N<=16384:=by omega
  refine go1 ?_;refine zK 11 _ [] [(0,.q),(1,.q),(3,.q),(4,.q),(5,.q),(2,.b 6),(7,.c),(8,.c),(9,.q),(10,.q)] yA nX zot nX (λr hr=>hr) (go1 ?_);refine xD I (λ_ _=>mH (q:=32) I I oM oM oM) I ?_;rw[show n/32=↑(N/32) by omega];refine go2 ?_;refine xD I (λ_ _=>vC (q:=32) I I oM oM) I ?_;rw[show n%32=↑(N%32) by omega];refine w_b I I ?_ ?_
  ·
   refine jN (λX=>iZ (kd:=.u32) (by':=4) (N/32) underlying22 vN I I I I I oM oM oM oM) I ?_;intro ba bc ac;obtain rfl:=ac;refine cT (vs:=[_,_]) call146 e2z (λw hs=>w3 hs G oM oM) I ?_;intro az h2 bh ao ab;obtain⟨aj,rfl,ae,D,H⟩:=ab;refine w_c I (bM (A:=[]) (by exact D) zo1 ?_);intro h3 an ah;refine gV (A:=[]) (λX=>kD (kd:=.u32) (bytes:=4) underlying22 vN I I I I I ah (by rw[lR];omega) (by rw[lR];omega)) I zo1 ?_;intro ay bb aa;obtain rfl:=aa;refine w_c I (bM (A:=[]) (by exact uC (jD _) D) zo1 ?_);intro h4 am ad;refine sC (ev1 I) call144 (λw hs=>qO hs ad) λax h5 bf C=>?_;replace C:=C.2;refine go1 ?_;refine zHA (v:=vI (0)) I I I (go5 ?_);refine uQ I I I ?_;rw[rZ,tW,lR,H,zE,nQ,zvi,show 32*(N/32)+N%32=n.toNat by omega] at C;rw[shE,zae oM,zJH oM oM];exact⟨_,I,C⟩
  refine cT (vs:=[_,_]) call146 e2z (λw hs=>w3 hs G oM oM) I ?_;intro az h2 bh ao ab;obtain⟨aj,rfl,ae,D,H⟩:=ab;refine jN (λX=>iZ (kd:=.u32) (by':=4) (N/32) underlying22 vN I I I I I oM oM oM oM) I ?_;intro ba bc ac;obtain rfl:=ac;refine w_c I (bM (A:=[_]) (by exact D) zo1 ?_);intro h3 an ah;refine gV (A:=[]) (λX=>kD (kd:=.u32) (bytes:=4) underlying22 vN I I I I I ah (by rw[lR];omega) (by rw[lR];omega)) I zo1 ?_;intro ay bb aa;obtain rfl:=aa;refine w_c I (bM (A:=[]) (by exact uC (jD _) D) zo1 ?_);intro h4 am ad;refine sC (ev1 I) call144 (λw hs=>qO hs ad) λax h5 bf C=>?_;replace C:=C.2;refine go1 ?_;refine zHA (v:=vI (0)) I I I (go5 ?_);refine uQ I I I ?_;rw[rZ,tW,lR,H,zE,nQ,zvi,show 32*(N/32)+N%32=n.toNat by omega] at C;rw[shE,zae oM,zJH oM oM];exact⟨_,I,C⟩
 obtain⟨M,hM⟩:∃M:Nat,n= -↑M:=⟨(-n).toNat,by omega⟩;refine go5 ?_;refine gv (aX (p:=-32) I I oM oM) I (gc4 (λar=>?_) λar=>?_)
 ·
  refine go9 ?_;refine uQ I I I ?_;rw[shE,zae oM,zFB oM,zCB oM,yY];exact⟨_,I,Us.nil _ _⟩
 have bt:M<32*(zB (val xs)).length:=by omega
 refine go7 ?_;refine gv (mJ I oM oM) I (gv (mH (q:=32) I I oM oM oM) I ?_);rw[show -n/32=↑(M/32) by omega];refine gv (jG (M/32) underlying22 sizeOf127 I I G.shape oM oM) I ?_;have Z:=G.sub (lo:=M/32) (hi:=(zB (val xs)).length) oM oM;rw[zxu (by rw[zhe];omega)] at Z;have br:(List.drop (M/32) (zB (val xs))).length=(zB (val xs)).length-M/32:=zhe;refine uH (vs:=[_]) I I I I call103 ⟨I,y3i⟩ (λw hs=>bJ hs Z oM) ?_;intro U h2 bu ao ak;obtain rfl:=ak;refine go1 ?_;have O:Fit (List.drop (M/32) (zB (val xs))):=mW (wK _) _;have aw:=kB (wK (val xs)) (M/32);rw[zE] at aw;generalize List.drop (M/32) (zB (val xs))=Rs at *;refine go5 ?_;refine gv (mJ I oM oM) I (gv (vC (q:=32) I I oM oM) I ?_);obtain⟨s,bm⟩:∃s,s=M%32:=⟨_,I⟩;rw[show -n%32=↑s by omega];have bi:s<32:=by omega
 refine go7 ?_;refine gv (tK (A:=[]) underlying22 I) I (go4 ?_);refine kQ (ι:=Nat) (λ(k:(Nat))=>k<=Rs.length) (λ(k:(Nat))=>[(6,U),(7,vI ↑s),(42,vI ↑Rs.length),(43,vI ↑k)]) (λ(k:(Nat))=>[.us 127 .u32 U (iL s Rs k)]) (λ(k:(Nat))=>h2) (λ(k:(Nat))=>Rs.length-k) 0 ?_ e4z ?_ I ?_
 · exact zri _
 ·
  try dsimp only[List.nil_append,List.cons_append]
  exact zbi (λz=>[Res.us 127 .u32 U z]) (zH0 s Rs)
 rintro k hk
 refine yW ?_;refine gc6 (λaq=>?_) λaq=>?_
 ·
  refine go2 ?_;refine jC (ι:=Unit) (λ(_u:(Unit))=>True) (λ(_u:(Unit))=>[(6,U),(7,vI ↑s),(42,vI ↑Rs.length),(43,vI ↑k)]) (λ(_u:(Unit))=>[.us 127 .u32 U (iL s Rs (k+1))]) (λ(_u:(Unit))=>h2) ?_ ?_
  ·
   refine jI ?_;refine gv (yX (A:=[]) (k) underlying22 sizeOf127 I I oM (by rw[uY oM];omega)) I (gv (fC (A:=[]) isAgg127 I (by rw[uY oM];omega)) I ?_);rw[zBA (zbe _)];have bg:=qY O k;refine go1 ?_;refine gv (gW (k:=.u32) (s:=s) (yk:=.i64) I I I (by simp only[ub];omega)) I ?_;have bn:Rs.getD k 0/2^s<4294967296:=yji (zki _ _) bg;refine gv (yX (A:=[]) (k) underlying22 sizeOf127 I I oM (by rw[uY oM];omega)) I (wS sizeOf127 I I (by rw[uY oM];omega) (go6 ?_));refine gU 7 61 (vB (((0:Int)<↑s)/\((↑k:Int)+1<↑Rs.length))) ?_ ?_
   ·
    refine yK ((0:Int)<↑s) (λhg=>?_) (λhg=>?_)
    ·
     refine gT hg I (go7 ?_);refine gv (tK (A:=[]) underlying22 I) I ?_;rw[lS,uY oM];refine go4 ?_;refine gqU ?_;exact y2e (wE hg)
    refine gF hg I (go7 ?_);refine gqU ?_;exact y2e (wG hg)
   refine gc2 (λap=>?_) λap=>?_
   ·
    refine zK 14 _ [] (zai 0 14 [(14,.t)]) yA nX zot nX (λr hr=>hr) (go2 ?_);refine w_q I (λh' L' hh hR=>jO (hR _ mh0) (k) underlying22 sizeOf127 I I oM (by rw[lS,uY oM];omega)) I (w_q I (λh' L' hh hR=>gY (hR _ mh0) isAgg127 I (by rw[lS,uY oM];omega)) I ?_);rw[t8 (by rw[uY oM];omega)];refine go3 ?_;refine w_q I (λh' L' hh hR=>jO (hR _ mh0) (k+1) underlying22 sizeOf127 I I oM (by rw[lS,uY oM];omega)) I (w_q I (λh' L' hh hR=>gY (hR _ mh0) isAgg127 I (by rw[lS,uY oM];omega)) I ?_);rw[jB oM,zBA oM];refine go1 ?_;refine xD I (λ_ _=>jY (p:=32) I I oM oM) I ?_;rw[show((32:Int)-↑s)=↑(32-s) by omega];refine xD I (λ_ _=>gX (k:=.u32) (s:=32-s) (yk:=.i64) (W:=4294967296) I I I I) I (xD I (λ_ _=>rD (k:=.u32) I I I (by simp only[ub];omega) (by simp only[ub];omega)) I ?_);rw[zQR O oM oM];refine w_q I (λh' L' hh hR=>jO (hR _ mh0) (k) underlying22 sizeOf127 I I oM (by rw[lS,uY oM];omega)) I (gS (A:=[]) I (nM sizeOf127 I I (by rw[lS,uY oM];omega)) I (go2 ?_));refine zY (()) ?_ e4z ?_ I
    · trivial
    try dsimp only[List.nil_append,List.cons_append]
    rw[List.set_set,zA9 oM]
    try rfl
   refine go2 ?_;have ai:Rs.getD k 0/2^s=iA s Rs k:=by
    by_cases h0:s=0
    · rw[h0,zH1 O oM,yvi,z2e]
    · exact(zH2 O oM).symm
   refine zY (()) ?_ e4z ?_ I
   · trivial
   try dsimp only[List.nil_append,List.cons_append]
   rw[ai,zA9 oM]
  rintro _u bj
  refine yW ?_;refine go4 ?_;refine jM (k+1) ?_ ?_ e4z I I
  · omega
  omega
 refine go8 ?_;have bp:Rs.length<=1099511627776:=by omega
 refine yN (by exact zM9 O) ?_;intro h3 an bd;refine cL (ev1 I) call144 (λw hs=>qO hs bd) λbk h4 am J=>?_;replace J:=J.2;refine go5 ?_;refine uQ I I I ?_;have be:k=Rs.length:=by omega
 rw[be,zK4 O,aw,s0,show 32*(M/32)+s=(-n).toNat by omega] at J;rw[shE,zae oM,zFB oM];exact⟨_,I,J⟩
theorem zVT{v:Value}{X n:Nat}(hv:Us .u32 h0 v (zB X))(hn:n<=16384)(hl:(zB X).length<=1099511627776):
 Calls prog 140 #[v,vI ↑n] w0 (Ret w0 h0 (λh r=>Us .u32 h r (zB (X*2^n)))):=by
 obtain⟨s,az⟩:∃s,s=n%32:=⟨_,I⟩;have hp:2^s<=2147483648:=zii (n:=2) oM (show s<=31 by omega);have aj:0<2^s:=zqu oM;refine cb2 40 v (vI ↑n) func140 hs ?_;refine go8 ?_;refine gv (mH (q:=32) I I oM oM oM) I (jJ (kd:=.u32) (by':=4) (n/32) underlying22 vN I I I I I oM oM oM oM I ?_);intro ai;refine go5 ?_;refine asg (v:=vU .u64 0) I I (go9 ?_);refine kQ (ι:=Value×List Nat×Nat×Mem) (λ(J,C,c,M)=>MLe h0 M/\(C.length<=(zB X).length/\Fit C/\c<2^s/\val C+4294967296^C.length*c=val ((zB X).take C.length)*2^s)) (λ(J,C,c,M)=>[(0,v),(1,vI ↑n),(5,J),(6,vU .u64 c),(7,vI ↑C.length)]) (λ(J,C,c,M)=>[.us 127 .u32 J (List.replicate (n/32) 0++C)]) (λ(J,C,c,M)=>M) (λ(J,C,c,M)=>(zB X).length-C.length) (ai,[],0,h0) ?_ e5 ?_ I ?_
 ·
  refine⟨MLe.refl _,?_⟩;exact⟨by simp,λx hx=>by simp at hx,aj,by simp[val]⟩
 ·
  try dsimp only[List.nil_append,List.cons_append]
  rw[zli]
 rintro⟨J,C,c,M⟩ ⟨H,⟨ay,ac,hc,D⟩⟩
 refine yW ?_;replace hv:=hv.mono H;refine gc9 (λae=>?_) λae=>?_
 ·
  refine go9 ?_;refine gv (yD (C.length) underlying22 sizeOf127 I I hv oM oM) I (go1 ?_);have ax:=hv.get32 C.length;have aw:(zB X).getD C.length 0*2^s<18446744073709551616-4294967296:=by
   have:=z6e (show(zB X).getD C.length 0<=4294967295 by omega) hp;omega
  refine go2 ?_;refine gv (vC (q:=32) I I oM oM) I ?_;rw[show(↑n:Int)%32=↑s by omega];refine gv (gX (k:=.u64) (s:=s) (yk:=.i64) (W:=18446744073709551616) I I I I) I ?_;rw[zoh oM];refine gv (rD (k:=.u64) I I I (by simp only[ub];omega) (by simp only[ub];omega)) I ?_;rw[zO5 hc];refine go8 ?_;refine zH (fI (kd:=.u32) underlying22 vN I I I) I I I ?_;intro ap av aa;obtain rfl:=aa;refine yN (by intro z hz;simp only[zpe] at hz;subst hz;simp only[ub];omega) ?_;intro h1 ab ak;refine xU (A:=[]) (kD (kd:=.u32) (bytes:=4) underlying22 vN I I I I I ak zo6 zo6) I I I ?_;intro ah au Z;obtain rfl:=Z;refine u5 ?_;refine jM (ah,C++[((zB X).getD C.length 0*2^s+c)%4294967296],((zB X).getD C.length 0*2^s+c)/2^32,h1) ?_ ?_ ⟨I,I,I,I,?_,y3i⟩ ?_ I
  ·
   refine⟨(H.trans ab),?_⟩;refine⟨by simp;omega,uC ac (aM oM),?_,?_⟩
   · refine z3i ?_
     have:=zfu (2^s) (show(zB X).getD C.length 0+1<=2^32 by omega);rw[z2u] at this;omega
   · have e:=z4i ((zB X).getD C.length 0*2^s+c) 4294967296
     have e2:(2:Nat)^32=4294967296:=I;rw[lAz,zju,uV (zB X) _ oM,rO,zke,e2];generalize ((zB X).getD C.length 0*2^s+c)/4294967296=q at *;generalize ((zB X).getD C.length 0*2^s+c)%4294967296=r at *;grind
  ·
   dsimp only;simp;omega
  · exact y2e (zbi vI zo1)
  try dsimp only[List.nil_append,List.cons_append]
  rw[zhu]
 refine qE ?_;refine zH (fI (kd:=.u32) underlying22 vN I I I) I I I ?_;intro ao ar U;obtain rfl:=U;refine yN (by intro z hz;simp only[zpe] at hz;subst hz;simp only[ub];omega) ?_;intro h1 ab ad;refine xU (A:=[]) (kD (kd:=.u32) (bytes:=4) underlying22 vN I I I I I ad zo6 zo6) I I I ?_;intro an aq O;obtain rfl:=O;refine yN (by exact uC (uC (jD _) ac) (aM oM)) ?_;intro h2 bb ho;refine cL (ev1 I) call91 (λw hs=>tS hs ho (by simp;omega)) λam h3 ba G=>(go4 ?_);refine zF I I ?_;have hk:C.length=(zB X).length:=by omega
 rw[wH oM,zE] at D;rw[zoh oM,zhu,rZ,tW,lR,rO,D,nQ,zvi,show 32*(n/32)+s=n by omega] at G;exact G
theorem zVU{v:Value}{X n:Nat}(hv:Us .u32 h0 v (zB X))(hn:n<9223372036854775808)(hl:(zB X).length<=1099511627776):
 Calls prog 143 #[v,vI ↑n] w0 (Ret w0 h0 (λh r=>Us .u32 h r (zB (X/2^n)))):=by
 obtain⟨s,ah⟩:∃s,s=n%32:=⟨_,I⟩;refine cb2 55 v (vI ↑n) func143 hs ?_;refine go9 ?_;refine gv (mH (q:=32) I I oM oM oM) I (gc5 (λZ=>?_) λZ=>?_)
 ·
  refine go7 ?_;refine zF I I ?_;rw[show X/2^n=0 from zCB oM,yY];exact Us.nil _ _
 refine go6 ?_;refine gv (mH (q:=32) I I oM oM oM) I ?_;rw[show(↑n:Int)/32=↑(n/32) by omega];refine gv (jG (n/32) underlying22 sizeOf127 I I hv.shape oM oM) I ?_;have D:=hv.sub (lo:=n/32) (hi:=(zB X).length) oM oM;rw[zxu (by rw[zhe];omega)] at D;have an:(List.drop (n/32) (zB X)).length=(zB X).length-n/32:=zhe;refine go1 ?_;have M:Fit (List.drop (n/32) (zB X)):=mW (wK _) _;have aa:=kB (wK X) (n/32);rw[zE] at aa;obtain⟨vR,ab⟩:∃z,z=tD 1 v (n/32) (zB X).length:=⟨_,I⟩;rw[<-ab] at D ⊢;generalize List.drop (n/32) (zB X)=Rs at *;refine go6 ?_;refine jJ (kd:=.u32) (by':=4) (Rs.length) underlying22 vN I I I I I oM oM oM oM I ?_;intro G;refine qE ?_;refine gcL (ι:=List Nat) (λ(C:(List Nat))=>(C.length<=Rs.length/\C=(List.range C.length).map (iA s Rs),[(0,vR),(1,vI ↑n),(5,G),(6,vI ↑C.length)],[.us 127 .u32 G (sE C Rs.length)],h0,Rs.length-C.length)) [] ?_ ?_
 · exact⟨by simp,I⟩
 rintro C ⟨ae,J⟩
 refine yW ?_;refine gc9 (λU=>?_) λU=>?_
 ·
  refine go8 ?_;refine gv (yD (C.length) underlying22 sizeOf127 I I D oM oM) I (go1 ?_);have am:=qY M C.length;have ak:=qY M (C.length+1);refine go4 ?_;refine jC (ι:=Unit) (λ(_u:(Unit))=>True) (λ(_u:(Unit))=>[(0,vR),(1,vI ↑n),(5,G),(6,vI ↑C.length),(7,vU .u64 (Rs.getD C.length 0+4294967296*Rs.getD (C.length+1) 0))]) (λ(_u:(Unit))=>[.us 127 .u32 G (sE C Rs.length)]) (λ(_u:(Unit))=>h0) ?_ ?_
  ·
   refine gc9 (λO=>?_) λO=>?_
   ·
    refine go5 ?_;refine gv (yD (C.length+1) underlying22 sizeOf127 I I D oM oM) I (go2 ?_);refine gv (gX (k:=.u64) (s:=32) (yk:=.u64) (W:=18446744073709551616) I I I I) I (gv (rD (k:=.u64) I I I (by simp only[ub];omega) (by simp only[ub];omega)) I ?_);rw[Nat.or_comm,cF oM oM];refine go2 ?_;refine zY (()) ?_ ⟨I,I,I,I,?_,y3i⟩ I I
    · trivial
    · exact y2e (zbi (vU .u64) oM)
   refine go1 ?_;refine zY (()) ?_ ⟨I,I,I,I,?_,y3i⟩ I I
   · trivial
   · exact y2e (zbi (vU .u64) (by rw[sW (xs:=Rs) (i:=C.length+1) oM];omega))
  rintro _u ac
  refine yW ?_;refine go5 ?_;refine gv (vC (q:=32) I I oM oM) I ?_;rw[show(↑n:Int)%32=↑s by omega];refine gv (gW (k:=.u64) (s:=s) (yk:=.i64) I I I (by simp only[ub];omega)) I (go1 ?_);rw[zU6 oM oM];refine gv (yX (A:=[]) (C.length) underlying22 sizeOf127 I I oM (by rw[uO oM];omega)) I (wS sizeOf127 I I (by rw[uO oM];omega) (go8 ?_));refine gqL (C++[iA s Rs C.length]) ?_ ?_ (he:=⟨I,I,I,?_,y3i⟩) (hL:=?_)
  ·
   refine⟨by simp;omega,?_⟩;rw[lAz,zju,List.range_succ,z2i,List.map_singleton,<-J]
  · simp;omega
  · exact y2e (zbi vI zo1)
  try dsimp only[List.nil_append,List.cons_append]
  rw[pL oM]
 refine go8 ?_;have hk:C.length=Rs.length:=by omega
 rw[bX hk];refine yN (by rw[J];intro z hz;obtain⟨w,_,rfl⟩:=zti.1 hz;exact zQS s Rs w) ?_;intro h1 aj ho;refine cL (ev1 I) call91 (λw hs=>tS hs ho oM) λad h2 ai H=>(go4 ?_);refine zF I I ?_;rw[J,hk,zST M,aa,s0,show 32*(n/32)+s=n by omega] at H;exact H
theorem y7{v:Value}{X:Nat}(hv:Us .u32 h0 v (zB X)):
 Calls prog 137 #[v] w0 (Ret w0 h0 (λ_ r=>r=.tuple #[vU .u64 (if(zB X).length<=2 then X else 0),vB ((zB X).length<=2)])):=by
 have U:=hv.get32 0;have O:=hv.get32 1;have Z:=zE X;have M:=hv.lt63;refine cb1 26 v func137 hs ?_;refine go2 ?_;refine asg (v:=vU .u64 0) I I (iD ?_);refine cnd (λJ=>?_) λJ=>?_
 ·
  refine go2 ?_;refine asg (v:=vU .u64 0) I I (go6 ?_);refine uQ I I I ?_;have h0:X=0:=zdu λG=>by have:=yQ.2 G;omega
  rw[wB oM,zau oM,h0]
 refine gc6 (λH=>?_) λH=>?_
 ·
  have D:=zEH (xs:=zB X) oM;refine go3 ?_;refine gv (yD (q:=0) (0) underlying22 sizeOf127 I I hv I oM) I (go9 ?_);refine uQ I I I ?_;rw[wB oM,zau oM,<-D,zE]
 refine gc6 (λC=>?_) λC=>?_
 ·
  refine go1 ?_;refine zK 12 _ [] (zai 0 12 []) yA nX zot nX (λr hr=>hr) (go1 ?_);refine w_q I (λh' L' hh hR=>yD (q:=0) (0) underlying22 sizeOf127 I I (hv.mono hh) I oM) I (w_q I (λh' L' hh hR=>wC isAgg127 I (hv.mono hh) oM) I (go2 ?_));refine w_q I (λh' L' hh hR=>yD (q:=1) (1) underlying22 sizeOf127 I I (hv.mono hh) I oM) I (w_q I (λh' L' hh hR=>wC isAgg127 I (hv.mono hh) oM) I (go1 ?_));refine xD I (λ_ _=>gX (k:=.u64) (s:=32) (yk:=.u64) (W:=18446744073709551616) I I I I) I (xD I (λ_ _=>rD (k:=.u64) I I I (by simp only[ub];omega) (by simp only[ub];omega)) I ?_);rw[Nat.or_comm,cF oM oM];refine go7 ?_;refine uQ I I I ?_;have h1:=uK (zB X) 1;have h2:=uK (zB X) 0;rw[wH oM,zE] at h1;rw[ymu] at h2;simp only[val,zvi] at h2;rw[wB oM,zau oM];have e:(zB X).getD 1 0*4294967296+(zB X).getD 0 0=X:=by omega
  rw[e]
 refine go5 ?_;refine asg (v:=vU .u64 0) I I (go4 ?_);refine uQ I I I ?_;rw[yZ oM,zae oM]
theorem zDX{v:Value}{X k:Nat}(hv:Us .u32 h0 v (zB X))(hk:k<=4398046511104)(hl:(zB X).length<=4398046511104):
 Calls prog 141 #[v,vI ↑k] w0 (Ret w0 h0 (λh r=>Us .u32 h r (zB (X*4294967296^k)))):=by
 refine cb2 12 v (vI ↑k) func141 hs ?_;refine pV ?_;refine cnd (λG=>?_) λG=>?_
 ·
  have h0:X=0:=zdu λD=>by have:=yQ.2 D;omega
  refine go7 ?_;refine zF I I ?_;rw[h0,zvu,yY];exact Us.nil _ _
 have h0:X≠0:=yQ.1 oM;refine go5 ?_;refine jJ (kd:=.u32) (by':=4) (k) underlying22 vN I I I I I oM oM oM oM I ?_;intro U;refine go1 ?_;refine xU (A:=[]) (kD (kd:=.u32) (bytes:=4) underlying22 vN I I I I I hv (by rw[lR];omega) (by rw[lR];omega)) I I I ?_;intro H J C;obtain rfl:=C;refine yN (by exact uC (jD _) (wK _)) ?_;intro h1 O M;refine go4 ?_;refine zF I I ?_;rw[<-zMW h0];exact M
end
set_option maxHeartbeats 1000000 in
section
variable{w0:World}{h0:Mem}(hs:MLe h0 (mem w0))
include hs
theorem zJK{v v':Value}{X Y:Nat}(hv:Us .u32 h0 v (zB X))(hv':Us .u32 h0 v' (zB Y))(hl:(zB X).length<=549755813888)(hl':(zB Y).length<=549755813888):
 Calls prog 93 #[v,v'] w0 (Ret w0 h0 (λh z=>∃q r,z=.tuple #[q,r,vI (if Y=0 then 3 else 0)]/\Us .u32 h q (zB (X/Y))/\Us .u32 h r (zB (if Y=0 then 0 else X%Y)))):=by
 refine cb2 163 v v' func93 hs ?_;refine jI ?_;refine gv (vT underlying22 I hv') I (gc3 (λcj=>?_) λcj=>?_)
 ·
  have cp:Y=0:=zdu λcy=>by have:=yQ.2 cy;omega
  refine go9 ?_;refine jZ I I I I ?_;rw[cp,Nat.div_zero,zau I,zau I,yY];exact⟨_,_,I,Us.nil _ _,Us.nil _ _⟩
 have C:Y≠0:=yQ.1 oM;refine go7 ?_;refine cL (ev2 I I) call56 (λw hs=>oI hs hv hv') λeg h1 aw bw=>?_;subst bw;refine gc3 (λap=>?_) λap=>?_
 ·
  have O:=fZ.1 ap;refine go3 ?_;replace hv:=hv.mono aw;refine cL (ev1 I) call91 (λw hs=>tS hs hv oM) λef h2 an ba=>?_;rw[zE] at ba;refine go7 ?_;refine jZ I I I I ?_;rw[z0e O,zoh O,zae C,zae C,yY];exact⟨_,_,I,Us.nil _ _,ba⟩
 have cb:Y<=X:=ybe λhc=>ap (fZ.2 hc);have ep:=zW cb;refine go6 ?_;replace hv:=hv.mono aw;refine cL (ev1 I) call137 (λw hs=>y7 hs hv) λee h2 an bv=>?_;subst bv;refine zKT (λao=>?_) λao=>?_
 ·
  have hw:=nF ao;have ei:=nF (n:=Y) oM;refine go3 ?_;replace hv':=hv'.mono (aw.trans an);refine cL (ev1 I) call137 (λw hs=>y7 hs hv') λed h3 av bu=>?_;subst bu;refine go2 ?_;rw[zau ao,zau (show(zB Y).length<=2 by omega)];refine go6 ?_;refine zK 11 _ [] [(0,.q),(1,.q),(2,.q),(4,.q),(5,.q),(6,.q),(3,.c),(7,.c),(8,.q),(9,.q),(10,.q)] yA nX zot nX (λr hr=>hr) (go2 ?_);refine xD I (λ_ _=>bR (k:=.u64) (W:=18446744073709551616) I I I I oM oM) I (go2 ?_);refine xD I (λ_ _=>bQ (k:=.u64) I I oM) I ?_;refine w_c I ?_;have dt:=zki X Y;have bp:=zcu X (zfe C);refine sC (ev1 I) call131 (λw hs=>zAB hs oM) λec h4 au ae=>?_;refine w_c I (sC (ev1 I) call131 (λw hs=>zAB hs oM) λeb h5 bi bt=>(go2 ?_));refine zHA (v:=vI (0)) I I I (go4 ?_);refine jZ I I I I ?_;replace ae:=ae.mono bi;rw[zae C,zae C];exact⟨_,_,I,ae,bt⟩
 refine go6 ?_;replace hv':=hv'.mono (aw.trans an);refine gv (vT underlying22 I hv') I (gc3 (λci=>?_) λci=>?_)
 ·
  have bb:(zB Y).length=1:=by omega
  have dc:(zB Y).getD 0 0≠0:=by have:=rI (n:=Y) oM;rwa [bb] at this
  have bn:=zEH bb;rw[zE] at bn;refine go4 ?_;refine gv (yD (q:=0) (0) underlying22 sizeOf127 I I hv' I oM) I (gv (wC isAgg127 I hv' oM) I ?_);have es:=hv'.get32 0;replace hv:=hv.mono an;refine cL (ev2 I I) call138 (λw hs=>zFJ hs hv oM oM oM) λea h3 av bs=>?_;obtain⟨eh,rfl,J⟩:=bs;rw[zE] at J ⊢;have bp:=zcu X (zfe dc);refine jF ?_;refine cL (ev1 I) call131 (λw hs=>zAB hs oM) λdz h4 au az=>(go7 ?_);refine jZ I I I I ?_;replace J:=J.mono au;rw[<-bn] at J az;rw[zae C,zae C];exact⟨_,_,I,J,az⟩
 have bz:2<=(zB Y).length:=by omega
 refine go6 ?_;refine gv (vT underlying22 I hv') I (go1 ?_);refine gv (jG ((zB Y).length-1) underlying22 sizeOf127 I I hv'.shape oM oM) I ?_;have ad:=hv'.sub (lo:=(zB Y).length-1) (hi:=(zB Y).length) oM oM;rw[zxu (by rw[zhe];omega),zPZ oM] at ad;have hgt:=hv'.get32 ((zB Y).length-1);have ej:=gL (n:=(zB Y).getD ((zB Y).length-1) 0) oM;have dx:=lO (n:=(zB Y).getD ((zB Y).length-1) 0) (k:=32) hgt;refine cL (ev1 I) call139 (λw hs=>zVV hs ad oM) λdy h3 av br=>?_;subst br;refine gv (jY (p:=32) I I oM oM) I ?_;obtain⟨s,cw⟩:∃s,s=32-wU ((zB Y).getD ((zB Y).length-1) 0):=⟨_,I⟩;rw[show(32:Int)-↑(wU ((zB Y).getD ((zB Y).length-1) 0))=↑s by omega];obtain⟨bo,ac,cu⟩:=zF5 (k:=(zB Y).length-1) C oM cw;refine go7 ?_;replace hv':=hv'.mono av;refine cL (ev2 I I) call140 (λw hs=>zVT hs hv' oM oM) λaq h4 au D=>(go2 ?_);replace hv:=hv.mono ((an.trans av).trans au);refine cL (ev2 I I) call140 (λw hs=>zVT hs hv oM oM) λcn h5 bi ay=>(go2 ?_);replace D:=D.mono bi;replace ac:(zB (Y*2^s)).length=(zB Y).length:=by omega
 have ck:=rK (n:=Y*2^s) (k:=(zB Y).length-1) oM;generalize em:(zB Y).length=n at *;obtain⟨V,hV⟩:∃V,V=Y*2^s:=⟨_,I⟩;obtain⟨U,hU⟩:∃U,U=X*2^s:=⟨_,I⟩;rw[<-hV] at D ac cu ck;rw[<-hU] at ay;have cm:=zQN bz ac;rw[zE] at cm;have ct:=gE (fY (wK V) (n-2));rw[zei,zre oM] at ct;have ew:(zB U).length<=(zB X).length+1:=by rw[hU];exact zci (yM X (2^s)) (Nat.add_le_add_left (uS (k:=1) (by rw[Nat.pow_one];exact zku (yve dC bo) dC)) _)
 have df:V<=U:=by rw[hV,hU];exact zfu _ cb
 have bx:=zW df;rw[ac] at bx;have cv:=zOK (uZ U) ck oM bx;generalize bq:(zB U).length=r at *;have dr:=qY (wK V) (n-1);refine go6 ?_;rw[ac];refine go7 ?_;rw[bq];refine go3 ?_;refine jJ (kd:=.u32) (by':=4) (r-n+1) underlying22 vN I I I I I oM oM oM oM I ?_;intro G;refine go8 ?_;rw[bq];refine go6 ?_;refine kQ (ι:=Nat×Value×Nat×List Nat×Mem) (λ(K,vr,R,qs,k1)=>MLe h5 k1/\(Us .u32 k1 vr (zB R)/\K<=r-n+1/\qs.length=r-n+1-K/\Fit qs/\R+4294967296^K*(val qs*V)=U/\R<4294967296^K*V/\(zB R).length<=r)) (λ(K,vr,R,qs,k1)=>[(1,aq),(4,G),(5,vr),(13,vI ↑s),(14,vI ↑n),(15,vI (↑K-1))]) (λ(K,vr,R,qs,k1)=>[.us 127 .u32 G (fL K qs)]) (λ(K,vr,R,qs,k1)=>k1) (λ(K,vr,R,qs,k1)=>K) (r-n+1,cn,U,[],h5) ?_ ⟨?_,?_,?_,?_,?_,?_,y3i⟩ ?_ I ?_
 ·
  refine⟨MLe.refl _,?_⟩;exact⟨ay,zbe _,by simp,λx hx=>by simp at hx,by simp[val],cv,by omega⟩
 · exact I
 · exact I
 · exact I
 · exact I
 · exact I
 · exact y2e (zbi vI oM)
 ·
  try dsimp only[List.nil_append,List.cons_append]
  exact zbi (λz=>[Res.us 127 .u32 G z]) (lK _)
 rintro⟨K,vr,R,qs,k1⟩ ⟨bc,⟨hR,hK,el,cc,aa,O,ey⟩⟩
 refine yW ?_;refine gc7 (λch=>?_) λch=>?_
 ·
  refine go6 ?_;refine asg (v:=vU .u64 0) I I (go2 ?_);have ev:=qY (wK R) (K-1+n);have eu:=qY (wK R) (K-1+n-1);have dd:=qY (wK R) (K-1+n-2);refine jC (ι:=Unit) (λ(_u:(Unit))=>True) (λ(_u:(Unit))=>[(1,aq),(4,G),(5,vr),(13,vI ↑s),(14,vI ↑n),(15,vI (↑K-1)),(16,vU .u64 ((zB R).getD (K-1+n) 0))]) (λ(_u:(Unit))=>[.us 127 .u32 G (fL K qs)]) (λ(_u:(Unit))=>k1) ?_ ?_
  ·
   refine u6 (λcg=>?_) λcg=>?_
   ·
    refine go5 ?_;refine gv (yD (K-1+n) underlying22 sizeOf127 I I hR oM oM) I (go4 ?_);refine zY (()) ?_ e7 I I
    trivial
   refine go1 ?_;refine zY (()) ?_ ⟨I,I,I,I,I,I,?_,y3i⟩ I I
   · trivial
   · exact y2e (zbi (vU .u64) (by rw[sW (xs:=zB R) oM]))
  rintro _u cf
  refine yW ?_;refine jC (ι:=Unit) (λ(_u:(Unit))=>True) (λ(_u:(Unit))=>[(1,aq),(4,G),(5,vr),(13,vI ↑s),(14,vI ↑n),(15,vI (↑K-1)),(16,vU .u64 ((zB R).getD (K-1+n) 0*4294967296+(zB R).getD (K-1+n-1) 0))]) (λ(_u:(Unit))=>[.us 127 .u32 G (fL K qs)]) (λ(_u:(Unit))=>k1) ?_ ?_
  ·
   refine zGT (λbj=>?_) λbj=>?_
   ·
    refine go2 ?_;refine gv (gX (k:=.u64) (s:=32) (yk:=.u64) (W:=18446744073709551616) I I I I) I (go5 ?_);refine gv (yD (K-1+n-1) underlying22 sizeOf127 I I hR oM oM) I (go2 ?_);refine gv (rD (k:=.u64) I I I (by simp only[ub];omega) (by simp only[ub];omega)) I ?_;rw[cF oM oM];refine go2 ?_;refine zY (()) ?_ e7 I I
    trivial
   refine go2 ?_;refine gv (gX (k:=.u64) (s:=32) (yk:=.u64) (W:=18446744073709551616) I I I I) I (go2 ?_);refine zY (()) ?_ ⟨I,I,I,I,I,I,?_,y3i⟩ I I
   · trivial
   · exact y2e (zbi (vU .u64) (by rw[sW (xs:=zB R) (i:=K-1+n-1) oM];omega))
  rintro _u cf
  refine yW ?_;have de:V<4294967296^n:=by rw[<-ac];exact uZ V
  have dh:R<4294967296^(K+n):=zku O (by rw[zlu];exact zpu _ (ydu de));have co:∀i,K+n<=i->(zB R).getD i 0=0:=λi hi=>eY (by rw[zE];exact dh) hi;obtain⟨wr,hW,cq⟩:=zHS (j:=K-1) bz (λi hi=>co i oM) (wK R);rw[kB (wK R),zE] at hW;have cl:=zVY (R:=R) (V:=V) (k:=K-1) (by rw[zzu oM];exact O);obtain⟨top,ax⟩:∃t,t=(zB R).getD (K-1+n) 0*4294967296+(zB R).getD (K-1+n-1) 0:=⟨_,I⟩;rw[<-ax];rw[<-ax] at hW;have ek:top<18446744073709551616:=by omega
  have cd:=zTR (by rw[hW] at cl ⊢;exact zVZ cm I dd cq oM cl);have dq:0<(zB V).getD (n-1) 0:=by omega
  refine go6 ?_;replace D:=D.mono bc;refine gv (yD (n-1) underlying22 sizeOf127 I I D oM oM) I (go2 ?_);refine gv (bR (k:=.u64) (W:=18446744073709551616) I I I I oM oM) I (gv (zWD (k:=.u64) (q:=4294967295) I I) I ?_);rw[Nat.min_def];rw[<-Nat.min_def];refine go7 ?_;refine gv (vV (k:=.u64) (k':=.u32) (W:=4294967296) underlying130 underlying127 I I I oM) I (cL (ev2 I I) call142 (λw hs=>zS3 hs D oM oM) λdp h6 am bh=>?_);have eo:=yM V (min (top/(zB V).getD (n-1) 0) 4294967295);have eq:=gL (n:=min (top/(zB V).getD (n-1) 0) 4294967295) oM;refine go1 ?_;rw[show(↑K:Int)-1=↑(K-1) by omega];refine cL (ev2 I I) call141 (λw hs=>zDX hs bh oM oM) λbm h7 ak bg=>(go5 ?_);refine kQ (ι:=Value×Nat×Mem) (λ(vp,d,k2)=>MLe h7 k2/\(Us .u32 k2 vp (zB (V*d*4294967296^(K-1)))/\d<=4294967295/\R<V*(d+1)*4294967296^(K-1))) (λ(vp,d,k2)=>[(1,aq),(4,G),(5,vr),(13,vI ↑s),(14,vI ↑n),(15,vI ↑(K-1)),(17,vU .u64 d),(18,vp)]) (λ(vp,d,k2)=>[.us 127 .u32 G (fL K qs)]) (λ(vp,d,k2)=>k2) (λ(vp,d,k2)=>d) (bm,min (top/(zB V).getD (n-1) 0) 4294967295,h7) ?_ e8 I I ?_
  ·
   refine⟨MLe.refl _,?_⟩;exact⟨bg,Nat.min_le_right _ _,cd⟩
  rintro⟨vp,d,k2⟩ ⟨ab,⟨hp,er,cz⟩⟩
  refine yW ?_;refine go5 ?_;replace hR:=hR.mono ((am.trans ak).trans ab);refine cL (ev2 I I) call56 (λw hs=>oI hs hp hR) λdn h8 M bf=>?_;subst bf;refine gc3 (λZ=>?_) λZ=>?_
  ·
   have hgt:=zNI.1 Z;have ce:1<=d:=zfe λh0=>by rw[h0,z7e,zvu] at hgt;omega
   obtain⟨db,da⟩:=yAM (V:=V) (p:=4294967296^(K-1)) ce;refine go6 ?_;refine gv (aW (k:=.u64) (q:=1) (W:=18446744073709551616) I I I I oM oM) I (go7 ?_);replace D:=D.mono (((am.trans ak).trans ab).trans M);refine cL (ev2 I I) call141 (λw hs=>zDX hs D oM oM) λdm h9 ar be=>?_;have en:=zHL (V*d) (K-1);have dv:=yM V d;have du:=gL (n:=d) oM;replace hp:=hp.mono (M.trans ar);refine cL (ev2 I I) call130 (λw hs=>zCY hs hp be da oM) λbl dj ca ai=>?_;rw[db] at ai;refine go3 ?_;refine jM (bl,d-1,dj) ?_ ?_ e8 I I
   ·
    refine⟨(((ab.trans M).trans ar).trans ca),?_⟩;exact⟨ai,by omega,by rw[zzu ce];exact hgt⟩
   dsimp only;omega
  have aj:V*d*4294967296^(K-1)<=R:=ybe λhc=>Z (zNI.2 hc);refine qE ?_;refine gv (vV (k:=.u64) (k':=.u32) (W:=4294967296) underlying130 underlying127 I I I oM) I (gv (yX (A:=[]) (K-1) underlying22 sizeOf127 I I oM (by rw[jP];omega)) I (wS sizeOf127 I I (by rw[jP];omega) (go5 ?_)));replace hR:=hR.mono M;replace hp:=hp.mono M;refine cL (ev2 I I) call130 (λw hs=>zCY hs hR hp aj oM) λbk h9 ar bd=>(go9 ?_);refine jM (K-1,bk,R-V*d*4294967296^(K-1),d::qs,h9) ?_ ?_ ⟨I,I,I,I,I,?_,y3i⟩ ?_ I
  ·
   refine⟨(((((bc.trans am).trans ak).trans ab).trans M).trans ar),?_⟩;have eK:(4294967296:Nat)^K=4294967296^(K-1)*4294967296:=by rw[<-zke,Nat.succ_eq_add_one,zzu oM]
   rw[eK] at aa;have dw:=zW (yju R (V*d*4294967296^(K-1)));exact⟨bd,by omega,by simp only[lC];omega,rV.2 ⟨by omega,cc⟩,yAL aa aj,yIJ cz aj,by omega⟩
  ·
   dsimp only;omega
  · exact y2e (zbi vI oM)
  try dsimp only[List.nil_append,List.cons_append]
  rw[lJ oM]
 refine go6 ?_;have di:K=0:=by omega
 subst di;rw[bY];rw[yvi,yfi] at aa O;refine go2 ?_;refine yN (by exact cc) ?_;intro h6 am hq;refine cL (ev1 I) call91 (λw hs=>tS hs hq oM) λdl h7 ak H=>(go2 ?_);replace hR:=hR.mono (am.trans ak);refine cL (ev2 I I) call143 (λw hs=>zVU hs hR oM oM) λdk h8 M ah=>(go6 ?_);refine jZ I I I I ?_;replace H:=H.mono M;obtain⟨e1,e2⟩:=zR3 (X:=X) (Y:=Y) (s:=s) (u:=R) (q:=val qs) oM (by rw[<-hV,<-hU];exact aa) (by rw[<-hV];exact O);rw[e1] at H;rw[e2] at ah;rw[zae C,zae C];exact⟨_,_,I,H,ah⟩
theorem yAO{v v':Value}{A B:Nat}(hv:Us .u32 h0 v (zB A))(hv':Us .u32 h0 v' (zB B))(hl:(zB A).length<=549755813888)(hl':(zB B).length<=549755813888):
 Calls prog 92 #[v,v'] w0 (Ret w0 h0 (λh r=>Us .u32 h r (zB (Nat.gcd A B)))):=by
 obtain⟨G,hG⟩:∃G,G=Nat.gcd A B:=⟨_,I⟩;rw[<-hG];refine cb2 51 v v' func92 hs ?_;refine go8 ?_;refine cL (ev1 I) call91 (λw hs=>tS hs hv oM) λaj h1 au U=>?_;rw[zE] at U;refine go1 ?_;replace hv':=hv'.mono au;refine cL (ev1 I) call91 (λw hs=>tS hs hv' oM) λai h2 bf O=>?_;rw[zE] at O;refine go6 ?_;refine gcL (ι:=Value×Nat×Value×Nat×Mem) (λ(vx,X,vy,Y,k1)=>(MLe h2 k1/\(Us .u32 k1 vx (zB X)/\Us .u32 k1 vy (zB Y)/\Nat.gcd X Y=G/\(zB X).length<=549755813888/\(zB Y).length<=549755813888),[(0,vx),(1,vy)],[],k1,Y)) (aj,A,ai,B,h2) ?_ ?_
 · exact⟨mle,U.up,O,hG.symm,by omega,by omega⟩
 rintro⟨vx,X,vy,Y,k1⟩ ⟨aw,⟨ha,hb,M,be,aq⟩⟩
 refine yW ?_;refine gc8 (λah=>?_) λah=>?_
 ·
  have J:Y≠0:=yQ.1 oM;refine go6 ?_;refine cL (ev1 I) call137 (λw hs=>y7 hs ha) λba h3 ae ac=>?_;subst ac;refine qE ?_;replace hb:=hb.mono ae;refine cL (ev1 I) call137 (λw hs=>y7 hs hb) λaz h4 ad ab=>?_;subst ab;refine jI ?_;refine gU 3 32 (vB (((zB X).length<=2)/\((zB Y).length<=2))) ?_ ?_
  ·
   refine yK ((zB X).length<=2) (λM=>?_) (λM=>?_)
   ·
    refine gT M I (go4 ?_);refine gqU ?_;exact y2e (wE M)
   refine gF M I (go3 ?_);refine gqU ?_;exact y2e (wG M)
  refine gc2 (λC=>?_) λC=>?_
  ·
   rw[zau C.1,zau C.2];have an:=nF C.1;have am:=nF C.2;refine go2 ?_;refine gcL (ι:=Nat×Nat) (λ(m,n)=>(Nat.gcd m n=G/\m<18446744073709551616/\n<18446744073709551616,[(5,vU .u64 m),(7,vU .u64 n)],[],h4,n)) (X,Y) ?_ ?_
   · exact⟨M,an,am⟩
   rintro⟨m,n⟩ ⟨Z,hm,hn⟩
   refine yW ?_;refine go4 ?_;refine gv (tT (k:=.u64) (q:=0) I I) I (gc2 (λH=>?_) λH=>?_)
   ·
    refine go3 ?_;refine zK 6 _ [] (zai 0 6 []) yA nX zot nX (λr hr=>hr) (go3 ?_);refine xD I (λ_ _=>bQ (k:=.u64) I I oM) I (go4 ?_);refine gqL (n,m%n) ?_ ?_
    ·
     have bc:=zcu m (zfe H);exact⟨by rw[mU];exact Z,hn,by omega⟩
    exact zcu _ (zfe H)
   refine go8 ?_;refine cL (ev1 I) call131 (λw hs=>zAB hs oM) λay h5 ar aa=>(go9 ?_);refine zF I I ?_;have ap:n=0:=zdi H;rw[ap,yje] at Z;rw[<-Z];exact aa
  refine go6 ?_;replace ha:=ha.mono (ae.trans ad);replace hb:=hb.mono ad;refine cL (ev2 I I) call93 (λw hs=>zJK hs ha hb oM oM) λax h5 ar D=>?_;obtain⟨bb,ak,rfl,av,D⟩:=D;rw[zae J] at D;have bd:=zW (ydu (zcu X (zfe J)));refine zDD ?_;refine gqL (vy,Y,ak,X%Y,h5) ?_ ?_
  · exact⟨mle,hb.up,D,by rw[mU];exact M,aq,by omega⟩
  exact zcu _ (zfe J)
 have J:Y=0:=zdu λao=>by have:=yQ.2 ao;omega
 refine jF ?_;refine zF I I ?_;rw[J,yje] at M;rw[<-M];exact ha
theorem zQX:
 Calls prog 122 #[] w0 (Ret w0 h0 (λh r=>Us .u32 h r [1])):=by
 refine cb0 2 func122 hs ?_;refine go7 ?_;refine zH (fI (kd:=.u32) (p:=1) underlying22 vN I I I) I I I ?_;intro v1 r1 C;obtain rfl:=C;refine yN (by intro z hz;simp only[zpe] at hz;subst hz;decide) ?_;intro h1 D h1;refine go4 ?_;refine zF I I ?_;exact h1
theorem tI{sa:Bool}{vna vda:Value}{na da:List Nat}(hna:Us .u32 h0 vna na)(hda:Us .u32 h0 vda da):
 Calls prog 120 #[.agg #[.bool sa,vna,vda]] w0 (Ret w0 h0 (λh r=>Us .u32 h r (if da=[] then[1] else da))):=by
 refine cb1 10 (.agg #[.bool sa,vna,vda]) func120 hs ?_;refine go2 ?_;refine zH (xS (cs:=[_,_,_]) I I) I I I ?_;intro v1 r1 G;obtain⟨O,rfl,rfl⟩:=G;refine zKT (λD=>?_) λD=>?_
 ·
  refine go2 ?_;refine cL (vs:=[]) trivial call122 (λw hs=>zQX hs) λM h1 J C=>?_;rw[cX] at C;have H:=zB5;refine go5 ?_;refine zF I I ?_;rw[zau (zof oM),cX];exact C
 refine qE ?_;refine zF I I ?_;rw[zae (λh=>D (by rw[h];rfl))];exact hda
theorem oJ{qa:Rat}{vna vda:Value}(hna:Us .u32 h0 vna (zB qa.num.natAbs))(hda:Us .u32 h0 vda (zB (wM qa.den)))(hl:(zB qa.num.natAbs).length<=1099511627776)(hl':(zB (wM qa.den)).length<=1099511627776):
 Calls prog 185 #[.agg #[vB (qa.num<0),vna,vda]] w0 (Ret w0 h0 (λh r=>vD h r qa)):=by
 refine cb1 12 (.agg #[vB (qa.num<0),vna,vda]) func185 hs ?_;refine go2 ?_;refine zH (xS (cs:=[_,_,_]) I I) I I I ?_;intro v1 r1 aa;obtain⟨b1,rfl,rfl⟩:=aa;refine zH (wJ (cs:=[vB ((0:Rat).num<0),.slice none 0 0,.slice none 0 0]) yR I (by simp only[zb];rfl)) I I I ?_;intro v2 r2 Z;obtain⟨b2,rfl,rfl⟩:=Z;refine go3 ?_;refine zK 9 _ [] (zai 0 4 [(5,.q),(6,.q),(4,.c),(7,.c),(8,.c),(9,.t)]) yA nX zot nX (λr hr=>hr) (go6 ?_);refine w_c I ?_;refine cT (vs:=[_]) call103 ⟨I,y3i⟩ (λw hs=>bJ hs hna oM) I ?_;intro v7 h1 L7 O U;obtain rfl:=U;refine w_c I ?_;replace hda:=hda.mono O;refine cT (vs:=[_]) call103 ⟨I,y3i⟩ (λw hs=>bJ hs hda oM) I ?_;intro H h2 ad M J;obtain rfl:=J;refine w_c I ?_;replace hna:=hna.mono (O.trans M);refine bM (A:=[_]) (by exact hna.lt) (by simp only[zfi,zgi,or_false];rintro r (rfl|rfl) _<;>simp) ?_;intro h3 ac D;replace hda:=hda.mono (M.trans ac);refine bM (A:=[]) (by exact hda.lt) (by simp only[zfi,zgi,or_false];rintro r (rfl|rfl) _<;>simp) ?_;intro h4 ab G;replace D:=D.mono ab;refine zVH (λX=>yV (ps':=[(0,_),(1,_),(2,_)]) (vs:=[vB (qa.num<0),v7,H]) underlying26 yR I (uE underlying26) e6z (xN (A:=[]) (B:=[_]) (C:=[_,_]) (cs:=[_]) (off:=0) (size:=1) I I I I I (xN (A:=[_]) (B:=[_]) (C:=[_]) (cs:=[_]) (off:=1) (size:=1) I I I I D.cells (xN (A:=[_,_]) (B:=[_]) (C:=[]) (cs:=[_]) (off:=2) (size:=1) I I I I G.cells uT)))) I (gS (A:=[]) (q':=.var b2 26 [vB (qa.num<0),v7,H]) I (zJ (k:=0) (cs:=[_,_,_]) (vs:=[_,_,_]) I I I (ocr I (ocu D (ocu G oc0))) yC (bL I)) I (go3 ?_));refine yI (λE S=>zS I (xR (cs:=[_,_,_]) mh0 underlying26 I yC I) E S) ?_;exact⟨_,_,I,D,G⟩
theorem zBJ{v:Value}{xs:List Nat}(hv:Us .u32 h0 v xs)(hl:xs.length<=2):
 Calls prog 163 #[v] w0 (Ret w0 h0 (λ_ r=>r=vU .u64 (val xs))):=by
 have H:Fit xs:=hv.lt;refine cb1 21 v func163 hs ?_;refine go2 ?_;refine asg (v:=vU .u64 0) I I (go4 ?_);refine asg (v:=vU .u64 0) I I (jF ?_);have D:val (xs.drop xs.length)=0:=by rw[zle (zbe _)];rfl
 refine kQ (ι:=Nat) (λ(j:(Nat))=>j<=xs.length) (λ(j:(Nat))=>[(0,v),(3,vU .u64 (val (xs.drop j))),(4,vI (↑j-1))]) (λ(j:(Nat))=>[]) (λ(j:(Nat))=>h0) (λ(j:(Nat))=>j) xs.length ?_ ⟨?_,?_,?_,y3i⟩ I I ?_
 · exact zbe _
 · exact I
 · exact y2e (zbi (vU .u64) D.symm)
 · exact I
 rintro j J
 refine yW ?_;refine gc7 (λG=>?_) λG=>?_
 ·
  refine go6 ?_;refine gv (gX (k:=.u64) (s:=32) (yk:=.u64) (W:=18446744073709551616) I I I I) I (go2 ?_);refine gv (yD (j-1) underlying22 sizeOf127 I I hv oM oM) I (go1 ?_);have C:=hv.get32 (j-1);refine go1 ?_;refine gv (rD (k:=.u64) I I I (by simp only[ub];omega) (by simp only[ub];omega)) I ?_;rw[cF (by
   have h2:=gE (mW H j);rw[zhe] at h2;have h3:(4294967296:Nat)^(xs.length-j)<=4294967296^1:=zii oM oM;omega) C]
  refine go9 ?_;refine jM (j-1) ?_ ?_ ⟨I,?_,?_,y3i⟩ I I
  · omega
  · omega
  ·
   rw[kF xs (j-1) oM];exact y2e (zbi (vU .u64) (by rw[show j-1+1=j by omega];omega))
  · exact y2e (zbi vI oM)
 refine jF ?_;refine zF I I ?_;rw[show j=0 by omega];rfl
theorem zLU{m n:Nat}(hm0:m<18446744073709551616)(hn0:n<18446744073709551616):
 Calls prog 164 #[vU .u64 m,vU .u64 n] w0 (Ret w0 h0 (λ_ r=>r=vU .u64 (Nat.gcd m n))):=by
 refine cb2 12 (vU .u64 m) (vU .u64 n) func164 hs ?_;refine go2 ?_;refine asg (v:=vU .u64 0) I I (go4 ?_);refine gcL (ι:=Nat×Nat) (λ(x,y)=>(Nat.gcd x y=Nat.gcd m n/\x<18446744073709551616/\y<18446744073709551616,[(0,vU .u64 x),(1,vU .u64 y)],[],h0,y)) (m,n) ?_ ?_
 · exact⟨I,hm0,hn0⟩
 rintro⟨x,y⟩ ⟨D,O,J⟩
 refine yW ?_;refine go4 ?_;refine gv (tT (k:=.u64) (q:=0) I I) I (gc2 (λC=>?_) λC=>?_)
 ·
  refine go3 ?_;refine zK 6 _ [] (zai 0 6 []) yA nX zot nX (λr H=>H) (go3 ?_);refine xD I (λ_ _=>bQ (k:=.u64) I I oM) I (go4 ?_);refine gqL (y,x%y) ?_ ?_
  ·
   have M:=zcu x (zfe C);exact⟨by rw[mU];exact D,J,by omega⟩
  exact zcu _ (zfe C)
 refine jF ?_;refine zF I I ?_;have G:y=0:=zdi C;rw[G,yje] at D;rw[D]
theorem zV0{n:Int}(hn:-9223372036854775808<=n)(hn':n<9223372036854775808):
 Calls prog 121 #[vI n] w0 (Ret w0 h0 (λh r=>Us .u32 h r (zB n.natAbs))):=by
 refine cb1 12 (vI n) func121 hs ?_;refine zKT (λJ=>?_) λJ=>?_
 ·
  have G:n.natAbs=9223372036854775808:=by omega
  refine go2 ?_;refine cL (vs:=[vU .u64 9223372036854775808]) ⟨I,y3i⟩ call167 (λw hs=>nat_of hs oM) λO h1 H D=>(go5 ?_);refine zF I I ?_;rw[G];exact D
 refine go6 ?_;refine gv (mJ I oM oM) I (gv (zLY I I) I (gv (zAD (p:=n.natAbs) (k':=.u64) (W:=18446744073709551616) underlying2 underlying130 I I (y2e (zbi vI oM)) oM) I (cL (ev1 I) call167 (λw hs=>nat_of hs oM) λM h1 H C=>(go4 ?_))));refine zF I I ?_;exact C
end
theorem zH4{w0 w:World}{h0 h:Mem}{v u:Value}{xs:List Nat}{L:List Res}{lo n:Nat}(hu:u=tD 1 v lo xs.length)(hlo:lo+2<=xs.length)(hn0:n≠0)(hn:n<18446744073709551616)(hs:St w0 h0 (.us 127 .u32 v xs::L) h w):
 Calls prog 165 #[u,vU .u64 n] w (rA w0 h0 (λg r K=>g=h/\K=.us 127 .u32 v (xs.take lo++zB n++xs.drop (lo+(zB n).length))::L/\r=vI ↑(zB n).length)):=by
 refine jE (n:=17) (e:=[(0,u),(1,vU .u64 n)]) (vs:=[u,vU .u64 n]) func165 rfl rfl (bL rfl) hs e2z (qE ?_);refine gv (j6 (q:=0) mh0 hu (0) underlying22 sizeOf127 I I I oM) I (wS sizeOf127 I I oM (go7 ?_));refine gv (fU (k:=.u64) (q:=0) I I) I (gc2 (λD=>?_) λD=>?_)
 ·
  refine go7 ?_;refine qL I I ?_;have C:n<4294967296:=by omega
  refine⟨I,?_,by rw[kM hn0 C];rfl⟩;rw[zoh C,zmi,putL oM hn0 C]
 refine go8 ?_;refine gv (j6 (q:=1) mh0 (by rw[lS];exact hu) (1) underlying22 sizeOf127 I I I (by rw[lS];omega)) I (wS sizeOf127 I I (by simp;omega) (go8 ?_));refine qL I I ?_;have C:4294967296<=n:=by omega
 have G:n/2^32%4294967296=n/4294967296:=by omega
 refine⟨I,?_,?_⟩
 · rw[G,zmi,yIK hlo hn C]
 · rw[gD oM,kM (t:=n/4294967296) oM oM];rfl
section
variable{w0:World}{h0:Mem}(hs:MLe h0 (mem w0))
include hs
theorem aQ{s:Prop}{n d:Nat}(hn:n<18446744073709551616)(hd:d<18446744073709551616)(hd0:d≠0):
 Calls prog 118 #[vB s,vU .u64 n,vU .u64 d] w0 (Ret w0 h0 (λh r=>vD h r (mkRat (sg s n) d))):=by
 refine cb3 50 (vB s) (vU .u64 n) (vU .u64 d) func118 hs ?_;refine go2 ?_;refine zH (wJ (cs:=[vB ((0:Rat).num<0),.slice none 0 0,.slice none 0 0]) yR I (by simp only[zb];rfl)) I I I ?_;intro v6 r6 ai;obtain⟨b6,rfl,rfl⟩:=ai;refine go6 ?_;refine gv (fU (k:=.u64) (q:=0) I I) I (gc2 (λM=>?_) λM=>?_)
 ·
  refine go2 ?_;refine gv (yV (ps':=[]) (vs:=[vB ((0:Rat).num<0),.slice none 0 0,.slice none 0 0]) underlying26 yR I (uE underlying26) trivial (by simp only[zb];exact uT)) I (xY (A:=[]) (r':=.var b6 26 [vB ((0:Rat).num<0),.slice none 0 0,.slice none 0 0]) (zJ (k:=0) (cs:=[_,_,_]) (vs:=[_,_,_]) I I I I yC (bL I)) I I I (go4 ?_));refine yI (λE S=>zS I (xR (cs:=[_,_,_]) mh0 underlying26 I yC I) E S) ?_;rw[M,zBW];exact vD.zero _
 have ab:n≠0:=by omega
 refine go6 ?_;refine cL (ev2 I I) call164 (λw hs=>zLU hs oM oM) λay h1 be Z=>?_;subst Z;refine go1 ?_;have ac:0<Nat.gcd n d:=yhe d oM;have aj:n/Nat.gcd n d≠0:=ymi (Nat.div_pos (y0u oM (yse n d)) ac);have ao:d/Nat.gcd n d≠0:=ymi (Nat.div_pos (y0u oM (Nat.gcd_dvd_right n d)) ac);have bb:=zki n (Nat.gcd n d);have bf:=zki d (Nat.gcd n d);refine go3 ?_;refine zK 8 _ [] (zai 0 8 []) yA nX zot nX (λr hr=>hr) (go2 ?_);refine xD I (λ_ _=>bR (k:=.u64) (W:=18446744073709551616) I I I I oM oM) I (go2 ?_);refine xD I (λ_ _=>bR (k:=.u64) (W:=18446744073709551616) I I I I oM oM) I (go2 ?_);generalize hA:n/Nat.gcd n d=A at *;generalize hB:d/Nat.gcd n d=B at *;have bd:=gL (n:=A) oM;have bc:=gL (n:=B) oM;refine go4 ?_;refine jJ (kd:=.u32) (by':=4) (q:=4) (q':=4) 4 underlying22 vN I I I I I I I oM oM I ?_;intro D;refine go7 ?_;refine dL (vs:=[_,_]) I I I I call165 e2z (λw hs=>zH4 (hs.own_self (.head _)) dC aj oM hs) ?_;intro ax aq au H;obtain⟨e1,e2,H⟩:=H;rw[e1,e2]
 clear e1 e2 aq au
 subst H;rw[show List.take 0 (List.replicate 4 0)++zB A++List.drop (0+(zB A).length) (List.replicate 4 0)=zB A++List.replicate (4-(zB A).length) 0 from by rw[ymu,zge,zvi,List.drop_replicate]];have am:(zB A++List.replicate (4-(zB A).length) 0).length=4:=by simp;omega
 refine go9 ?_;refine zX4 (.head _) (λad bg U av=>?_);have J:gR 1 D 0 (zB A).length (zB A).length=.slice (if(zB A).length=0 then ad else ad.map (·.add (0*1))) ((zB A).length-0) ((zB A).length-0):=by rw[U];rfl
 refine gv (zFP mh0 _ _ underlying22 sizeOf127 I I I I I oM oM) I (gv (yV (ps':=[(0,_),(1,_)]) (vs:=[vB s,gR 1 D 0 _ _,.slice none 0 0]) underlying26 yR I (uE underlying26) e4z (xN (A:=[]) (B:=[_]) (C:=[_,_]) (cs:=[_]) (off:=0) (size:=1) I I I I I (xN (A:=[_]) (B:=[_]) (C:=[_]) (cs:=[_]) (off:=1) (size:=1) I I I I (by rw[J];rfl) uT))) I (zH (wJ (cs:=[vB ((0:Rat).num<0),.slice none 0 0,.slice none 0 0]) yR I (by simp only[zb];rfl)) I I I ?_));intro az ba aa;obtain⟨ah,rfl,rfl⟩:=aa;refine xY (A:=[]) (r':=.var ah 26 [vB s,gR 1 D 0 _ _,.slice none 0 0]) (zJ (k:=0) (cs:=[_,_,_]) (vs:=[vB s,gR 1 D 0 _ _,.slice none 0 0]) I I I (by rw[J];rfl) yC (bL I)) I I I (go6 ?_);refine gv (mL (k:=.u64) (q:=1) I I) I (gc2 (λae=>?_) λae=>?_)
 ·
  refine go5 ?_;refine gv (zFO mh1 _ underlying22 sizeOf127 I I I oM) I (go1 ?_);refine zM4 (A:=[_]) ?_;refine dL (vs:=[_,_]) I I I I call165 e2z (λw hs=>zH4 (lo:=(zB A).length) zoz oM ao oM hs) ?_;intro aw ap ar G;obtain⟨e1,e2,G⟩:=G;rw[e1,e2]
  clear e1 e2 ap ar
  subst G;rw[show List.take (zB A).length (zB A++List.replicate (4-(zB A).length) 0)++zB B++List.drop ((zB A).length+(zB B).length) (zB A++List.replicate (4-(zB A).length) 0)=zB A++zB B++List.replicate (4-(zB A).length-(zB B).length) 0 from by simp];have ak:(zB A++zB B++List.replicate (4-(zB A).length-(zB B).length) 0).length=4:=by simp;omega
  refine go9 ?_;have O:gR 1 D (zB A).length ((zB A).length+(zB B).length) ((zB A).length+(zB B).length)=.slice (if(zB A).length+(zB B).length=(zB A).length then ad else ad.map (·.add ((zB A).length*1))) ((zB A).length+(zB B).length-(zB A).length) ((zB A).length+(zB B).length-(zB A).length):=by rw[U];rfl
  refine gv (zHG mh0 ((zB A).length) ((zB A).length+(zB B).length) ((zB A).length+(zB B).length) underlying22 sizeOf127 I I I I oM oM oM oM oM oM) I (go1 ?_);refine xY (A:=[_]) (r':=.var ah 26 [vB s,gR 1 D 0 _ _,gR 1 D ((zB A).length) ((zB A).length+(zB B).length) ((zB A).length+(zB B).length)]) (zJ (k:=2) (cs:=[_,_,_]) (vs:=[gR 1 D ((zB A).length) ((zB A).length+(zB B).length) ((zB A).length+(zB B).length)]) I I (by rw[O];rfl) (by rw[O];rfl) zU5 (bL I)) I I I (go4 ?_);refine yN (by first|exact uC (uC (wK A) (wK B)) (jD _)|exact uC (wK A) (jD _)) ?_;intro h2 an hz;refine go1 ?_;refine xY (A:=[_]) (r':=.var b6 26 [vB s,gR 1 D 0 _ _,gR 1 D ((zB A).length) ((zB A).length+(zB B).length) ((zB A).length+(zB B).length)]) (zJ (k:=0) (cs:=[_,_,_]) (vs:=[vB s,gR 1 D 0 _ _,gR 1 D ((zB A).length) ((zB A).length+(zB B).length) ((zB A).length+(zB B).length)]) I I I (by rw[J,O];rfl) yC (bL I)) I I I (go3 ?_);refine yI (λE S=>zS I (xR (cs:=[_,_,_]) mh1 underlying26 I yC I) E S) ?_;have z1:=hz.sub3 (lo:=0) (hi:=(zB A).length) (mx:=(zB A).length) oM oM oM;have z2:=hz.sub3 (lo:=(zB A).length) (hi:=(zB A).length+(zB B).length) (mx:=(zB A).length+(zB B).length) oM oM oM;refine vD.make ab hd0 ?_ ?_
  · rw[hA];simpa using z1
  · rw[hB];rw[aN oM];simpa using z2
 refine go4 ?_;refine zHO (by first|exact uC (uC (wK A) (wK B)) (jD _)|exact uC (wK A) (jD _)) ?_;intro h2 an hz;refine go1 ?_;refine xY (A:=[_]) (r':=.var b6 26 [vB s,gR 1 D 0 _ _,.slice none 0 0]) (zJ (k:=0) (cs:=[_,_,_]) (vs:=[vB s,gR 1 D 0 _ _,.slice none 0 0]) I I I (by rw[J];rfl) yC (bL I)) I I I (go3 ?_);refine yI (λE S=>zS I (xR (cs:=[_,_,_]) mh1 underlying26 I yC I) E S) ?_;have z1:=hz.sub3 (lo:=0) (hi:=(zB A).length) (mx:=(zB A).length) oM oM oM;refine vD.make ab hd0 ?_ ?_
 · rw[hA];simpa using z1
 · rw[hB];rw[show B=1 by omega,bZ,yY];exact Us.nil _ _
theorem pP{qa:Rat}{vna vda:Value}(hna:Us .u32 h0 vna (zB qa.num.natAbs))(hda:Us .u32 h0 vda (zB (wM qa.den))):
 Calls prog 117 #[.agg #[vB (qa.num<0),vna,vda]] w0 (Ret w0 h0 (λ_ r=>r=.tuple #[vU .u64 (pN qa),vU .u64 (pD qa),vB (sK qa)])):=by
 refine cb1 30 (.agg #[vB (qa.num<0),vna,vda]) func117 hs ?_;refine go2 ?_;refine zH (xS (cs:=[_,_,_]) I I) I I I ?_;intro v1 r1 Z;obtain⟨b1,rfl,rfl⟩:=Z;refine asg (v:=vU .u64 0) I I (asg (v:=vU .u64 0) I I (qE ?_));refine gU 6 14 (vB (((1:Int)<(↑(zB qa.num.natAbs).length:Int))\/((1:Int)<(↑(zB (wM qa.den)).length:Int)))) ?_ ?_
 ·
  refine yK ((1:Int)<(↑(zB qa.num.natAbs).length:Int)) (λO=>?_) (λO=>?_)
  ·
   refine gT O I (go6 ?_);refine gqU ?_;exact y2e (uL O)
  refine gF O I (qE ?_);refine gqU ?_;exact y2e (uM O)
 refine gc2 (λH=>?_) λH=>?_
 ·
  have J:¬sK qa:=zN9 H;refine go2 ?_;refine asg (v:=vU .u64 0) I I (asg (v:=vU .u64 0) I I (go5 ?_));refine jZ I I I I ?_;rw[pN_f J,pD_f J,yZ J]
 have C:sK qa:=zSR H;have ab:=tG C;have ac:=tH C;refine go4 ?_;refine asg (v:=vU .u64 1) I I (zGT (λG=>?_) λG=>?_)
 ·
  have M:(zB (wM qa.den)).getD 0 0=qa.den:=zYN G;refine go3 ?_;refine gv (yD (q:=0) (0) underlying22 sizeOf127 I I hda I oM) I (go1 ?_);rw[M];refine go8 ?_;refine cL (ev1 I) call163 (λw hs=>zBJ hs hna oM) λU h1 aa D=>?_
  try simp only[zE] at D
  subst D;refine go2 ?_;refine gv (OpV.tr (by have:=qa.den_nz;omega) (tT (k:=.u64) (q:=0) I I)) I (go6 ?_);refine jZ I I I I ?_;rw[zHE C,zHF C,wB C]
 have M:qa.den=1:=zYO G C;refine go6 ?_;refine cL (ev1 I) call163 (λw hs=>zBJ hs hna oM) λU h1 aa D=>?_
 try simp only[zE] at D
 subst D;refine go2 ?_;refine gv (OpV.tr (by have:=qa.den_nz;omega) (tT (k:=.u64) (q:=0) I I)) I (go6 ?_);refine jZ I I I I ?_;rw[zHE C,zHF C,wB C,M]
theorem kT{s:Prop}{vn vd:Value}{xs ys:List Nat}(hn:Us .u32 h0 vn xs)(hd:Us .u32 h0 vd ys)(hl:xs.length<=1000000000000)(hl':ys.length<=1000000000000):
 Calls prog 119 #[vB s,vn,vd] w0 (Ret w0 h0 (λh r=>vD h r (mkRat (sg s (val xs)) (val ys)))):=by
 have cj:=fM (n:=val xs);have ci:=fM (n:=val ys);have cd:=vZ hn.lt;have cc:=vZ hd.lt;refine cb3 68 (vB s) vn vd func119 hs ?_;refine go2 ?_;refine zH (wJ (cs:=[vB ((0:Rat).num<0),.slice none 0 0,.slice none 0 0]) yR I (by simp only[zb];rfl)) I I I ?_;intro v6 r6 bj;obtain⟨b6,rfl,rfl⟩:=bj;refine go6 ?_;refine cL (ev1 I) call94 (λw hs=>bU hs hn oM) λv9 h1 am bd=>?_
 try simp only[zE] at bd
 subst bd;refine go1 ?_;refine qM (ι:=Mem) 5 (λm_=>MLe h1 m_) (λ_=>[(15,vB (((↑(wU (val (xs))):Int)=(0:Int))\/((↑(wU (val (ys))):Int)=(0:Int)))),(0,vB s),(1,vn),(2,vd),(6,vP b6 0)]) (λ_=>[.var b6 26 [vB ((0:Rat).num<0),.slice none 0 0,.slice none 0 0]]) (λm_=>m_) ?_ ?_
 ·
  refine yK ((↑(wU (val (xs))):Int)=(0:Int)) (λM=>?_) (λM=>?_)
  ·
   refine gT M I (go5 ?_);refine zY h1 (MLe.refl _) ⟨?_,I,I,I,I,y3i⟩ I I;exact y2e (uL M)
  refine gF M I (go3 ?_);replace hd:=hd.mono am;refine cL (ev1 I) call94 (λw hs=>bU hs hd oM) λbv h2 Z aw=>?_
  try simp only[zE] at aw
  subst aw;refine go4 ?_;refine zY h2 Z ⟨?_,I,I,I,I,y3i⟩ I I;exact y2e (uM M)
 intro bi H;refine rN ?_;refine gc2 (λac=>?_) λac=>?_
 ·
  refine go2 ?_;refine gv (yV (ps':=[]) (vs:=[vB ((0:Rat).num<0),.slice none 0 0,.slice none 0 0]) underlying26 yR I (uE underlying26) trivial (by simp only[zb];exact uT)) I (xY (A:=[]) (r':=.var b6 26 [vB ((0:Rat).num<0),.slice none 0 0,.slice none 0 0]) (zJ (k:=0) (cs:=[_,_,_]) (vs:=[_,_,_]) I I I I yC (bL I)) I I I (go4 ?_));refine yI (λE S=>zS I (xR (cs:=[_,_,_]) mh0 underlying26 I yC I) E S) ?_
  rcases ac with h|h
  · rw[show val xs=0 by omega,zBW];exact vD.zero _
  · rw[show val ys=0 by omega,zBV];exact vD.zero _
 have ao:val xs≠0:=λh=>ac (.inl oM);have aq:val ys≠0:=λh=>ac (.inr oM);replace hn:=hn.mono (am.trans H);refine go8 ?_;refine gU 5 24 (vB (((↑(xs).length:Int)<=(2:Int))/\((↑(ys).length:Int)<=(2:Int)))) ?_ ?_
 ·
  refine yK ((↑(xs).length:Int)<=(2:Int)) (λM=>?_) (λM=>?_)
  ·
   refine gT M I ?_;replace hd:=hd.mono (am.trans H);refine go8 ?_;refine gqU ?_;exact y2e (wE M)
  refine gF M I (go5 ?_);refine gqU ?_;exact y2e (wG M)
 refine gc2 (λbh=>?_) λbh=>?_
 ·
  have cb:=nF (n:=val xs) oM;have ch:=nF (n:=val ys) oM;refine go4 ?_;refine cL (ev1 I) call163 (λw hs=>zBJ hs hn oM) λbu h2 Z av=>?_
  try simp only[zE] at av
  subst av;refine go1 ?_;replace hd:=hd.mono ((am.trans H).trans Z);refine cL (ev1 I) call163 (λw hs=>zBJ hs hd oM) λbt h3 ad au=>?_
  try simp only[zE] at au
  subst au;refine cL (ev3 I I I) call118 (λw hs=>aQ hs oM oM oM) λbs h4 ak be=>?_;obtain⟨bb,bc,rfl,ax,ay⟩:=be;refine xY (A:=[]) (r':=.var b6 26 [vB ((mkRat (sg (s) (val (xs))) (val (ys))).num<0),bb,bc]) (zJ (k:=0) (cs:=[_,_,_]) (vs:=[_,_,_]) I I I (ocr I (ocu ax (ocu ay oc0))) yC (bL I)) I I I (go4 ?_);refine yI (λE S=>zS I (xR (cs:=[_,_,_]) mh0 underlying26 I yC I) E S) ?_;exact⟨_,_,I,ax,ay⟩
 refine go7 ?_;replace hd:=hd.mono (am.trans H);refine cL (ev2 I I) call166 (λw hs=>yA9 hs hn hd oM oM) λbr h2 Z J=>?_
 try simp only[zE] at J
 have bm:=j8 (val (xs)) (val (ys));have bg:Nat.gcd (val xs) (val ys)≠0:=ymi (yhe _ oM);have cg:=zW (y0u oM (yse (val xs) (val ys)));refine go6 ?_;refine cL (ev1 I) call94 (λw hs=>bU hs J oM) λbq h3 ad ar=>?_
 try simp only[zE] at ar
 subst ar;refine gc3 (λan=>?_) λan=>?_
 ·
  refine go4 ?_;replace hn:=hn.mono (Z.trans ad);replace J:=J.mono ad;refine cL (ev2 I I) call147 (λw hs=>w4 hs hn J oM oM) λbp h4 ak aj=>?_;obtain⟨ca,bx,rfl,ab,aj⟩:=aj
  try simp only[zE] at ab aj ⊢
  have bl:=zW (zki (val (xs)) (((Nat.gcd (val (xs)) (val (ys))))));have cf:=zW (zki (val xs) (Nat.gcd (val xs) (val ys)));refine qE ?_;replace hd:=hd.mono ((Z.trans ad).trans ak);replace J:=J.mono ak;refine cL (ev2 I I) call147 (λw hs=>w4 hs hd J oM oM) λbo h5 ap ai=>?_;obtain⟨bz,bw,rfl,aa,ai⟩:=ai
  try simp only[zE] at aa ai ⊢
  have bk:=zW (zki (val (ys)) (((Nat.gcd (val (xs)) (val (ys))))));have ce:=zW (zki (val ys) (Nat.gcd (val xs) (val ys)));refine qE ?_;replace ab:=ab.mono ap;refine cL (ev2 I I) call100 (λw hs=>nD hs ab (Us.nil _ _) zo4 zo4) λU h6 bn D=>?_
  try simp only[zE] at D
  have ba:=uW ((((val (xs))/(((Nat.gcd (val (xs)) (val (ys)))))))) (val ([]));refine go1 ?_;replace aa:=aa.mono bn;refine cL (ev2 I I) call100 (λw hs=>nD hs aa (Us.nil _ _) zo4 zo4) λah h7 bf G=>?_
  try simp only[zE] at G
  have az:=uW ((((val (ys))/(((Nat.gcd (val (xs)) (val (ys)))))))) (val ([]));refine qE ?_;refine gU 6 63 (vB (((↑(zB (((((val (ys))/(((Nat.gcd (val (xs)) (val (ys))))))))+(val ([])))).length:Int)=(1:Int))/\(((zB (((((val (ys))/(((Nat.gcd (val (xs)) (val (ys))))))))+(val ([])))).getD (0) 0)=(1:Nat)))) ?_ ?_
  ·
   refine yK ((↑(zB (((((val (ys))/(((Nat.gcd (val (xs)) (val (ys))))))))+(val ([])))).length:Int)=(1:Int)) (λM=>?_) (λM=>?_)
   ·
    refine gT M I (go3 ?_);refine gv (yD (q:=0) (0) underlying22 sizeOf127 I I G I oM) I (go3 ?_);refine gv (fU (k:=.u32) (q:=1) I I) I (go2 ?_);refine gqU ?_;exact y2e (wE M)
   refine gF M I (go6 ?_);refine gqU ?_;exact y2e (wG M)
  refine gc2 (λO=>?_) λO=>?_
  ·
   refine go9 ?_;replace D:=D.mono bf;refine gv (yV (ps':=[(0,_),(1,_),(2,_)]) (vs:=[vB s,U,.slice none 0 0]) underlying26 yR I (uE underlying26) e6z (xN (A:=[]) (B:=[_]) (C:=[_,_]) (cs:=[_]) (off:=0) (size:=1) I I I I I (xN (A:=[_]) (B:=[_]) (C:=[_]) (cs:=[_]) (off:=1) (size:=1) I I I I D.cells (xN (A:=[_,_]) (B:=[_]) (C:=[]) (cs:=[_]) (off:=2) (size:=1) I I I I I uT)))) I (xY (A:=[]) (r':=.var b6 26 [vB s,U,.slice none 0 0]) (zJ (k:=0) (cs:=[_,_,_]) (vs:=[_,_,_]) I I I (ocr I (ocu D (ocr I oc0))) yC (bL I)) I I I (go3 ?_));refine yI (λE S=>zS I (xR (cs:=[_,_,_]) mh0 underlying26 I yC I) E S) ?_;exact vD.fin1 ao aq D O
  refine go7 ?_;replace D:=D.mono bf;refine gv (yV (ps':=[(0,_),(1,_),(2,_)]) (vs:=[vB s,U,ah]) underlying26 yR I (uE underlying26) e6z (xN (A:=[]) (B:=[_]) (C:=[_,_]) (cs:=[_]) (off:=0) (size:=1) I I I I I (xN (A:=[_]) (B:=[_]) (C:=[_]) (cs:=[_]) (off:=1) (size:=1) I I I I D.cells (xN (A:=[_,_]) (B:=[_]) (C:=[]) (cs:=[_]) (off:=2) (size:=1) I I I I G.cells uT)))) I (xY (A:=[]) (r':=.var b6 26 [vB s,U,ah]) (zJ (k:=0) (cs:=[_,_,_]) (vs:=[_,_,_]) I I I (ocr I (ocu D (ocu G oc0))) yC (bL I)) I I I (go3 ?_));refine yI (λE S=>zS I (xR (cs:=[_,_,_]) mh0 underlying26 I yC I) E S) ?_;exact vD.fin ao aq D G O
 refine go5 ?_;replace hn:=hn.mono (Z.trans ad);refine cL (ev2 I I) call100 (λw hs=>nD hs hn (Us.nil _ _) zo4 zo4) λU h4 ak D=>?_
 try simp only[zE] at D
 have ba:=uW (val (xs)) (val ([]));refine go1 ?_;replace hd:=hd.mono ((Z.trans ad).trans ak);refine cL (ev2 I I) call100 (λw hs=>nD hs hd (Us.nil _ _) zo4 zo4) λah h5 ap G=>?_
 try simp only[zE] at G
 have az:=uW (val (ys)) (val ([]));refine qE ?_;refine gU 6 63 (vB (((↑(zB ((val (ys))+(val ([])))).length:Int)=(1:Int))/\(((zB ((val (ys))+(val ([])))).getD (0) 0)=(1:Nat)))) ?_ ?_
 ·
  refine yK ((↑(zB ((val (ys))+(val ([])))).length:Int)=(1:Int)) (λM=>?_) (λM=>?_)
  ·
   refine gT M I (go3 ?_);refine gv (yD (q:=0) (0) underlying22 sizeOf127 I I G I oM) I (go3 ?_);refine gv (fU (k:=.u32) (q:=1) I I) I (go2 ?_);refine gqU ?_;exact y2e (wE M)
  refine gF M I (go6 ?_);refine gqU ?_;exact y2e (wG M)
 refine gc2 (λO=>?_) λO=>?_
 ·
  refine go9 ?_;replace D:=D.mono ap;refine gv (yV (ps':=[(0,_),(1,_),(2,_)]) (vs:=[vB s,U,.slice none 0 0]) underlying26 yR I (uE underlying26) e6z (xN (A:=[]) (B:=[_]) (C:=[_,_]) (cs:=[_]) (off:=0) (size:=1) I I I I I (xN (A:=[_]) (B:=[_]) (C:=[_]) (cs:=[_]) (off:=1) (size:=1) I I I I D.cells (xN (A:=[_,_]) (B:=[_]) (C:=[]) (cs:=[_]) (off:=2) (size:=1) I I I I I uT)))) I (xY (A:=[]) (r':=.var b6 26 [vB s,U,.slice none 0 0]) (zJ (k:=0) (cs:=[_,_,_]) (vs:=[_,_,_]) I I I (ocr I (ocu D (ocr I oc0))) yC (bL I)) I I I (go3 ?_));refine yI (λE S=>zS I (xR (cs:=[_,_,_]) mh0 underlying26 I yC I) E S) ?_;have ae:=zI5 an bg;exact vD.fin1 ao aq (by rw[ae,z2e];exact D) (by rw[ae,z2e];exact O)
 refine go7 ?_;replace D:=D.mono ap;refine gv (yV (ps':=[(0,_),(1,_),(2,_)]) (vs:=[vB s,U,ah]) underlying26 yR I (uE underlying26) e6z (xN (A:=[]) (B:=[_]) (C:=[_,_]) (cs:=[_]) (off:=0) (size:=1) I I I I I (xN (A:=[_]) (B:=[_]) (C:=[_]) (cs:=[_]) (off:=1) (size:=1) I I I I D.cells (xN (A:=[_,_]) (B:=[_]) (C:=[]) (cs:=[_]) (off:=2) (size:=1) I I I I G.cells uT)))) I (xY (A:=[]) (r':=.var b6 26 [vB s,U,ah]) (zJ (k:=0) (cs:=[_,_,_]) (vs:=[_,_,_]) I I I (ocr I (ocu D (ocu G oc0))) yC (bL I)) I I I (go3 ?_));refine yI (λE S=>zS I (xR (cs:=[_,_,_]) mh0 underlying26 I yC I) E S) ?_;have ae:=zI5 an bg;exact vD.fin ao aq (by rw[ae,z2e];exact D) (by rw[ae,z2e];exact G) (by rw[ae,z2e];exact O)
theorem zLE{v v':Value}{xs ys:List Nat}(hv:Us .u32 h0 v xs)(hv':Us .u32 h0 v' ys):
 Calls prog 161 #[v,v'] w0 (Ret w0 h0 (λ_ r=>r=vB (xs=ys))):=by
 have O:=hv.lt63;have M:=hv'.lt63;refine cb2 26 v v' func161 hs ?_;refine jI ?_;refine gv (vT underlying22 I hv') I (gc3 (λD=>?_) λD=>?_)
 ·
  refine go7 ?_;refine zF I I ?_;rw[yZ (λe=>D (by rw[e]))]
 have J:xs.length=ys.length:=by omega
 refine jI ?_;refine gcL (ι:=Nat) (λ(i:(Nat))=>(i<=xs.length/\xs.take i=ys.take i,[(0,v),(1,v'),(12,vI ↑xs.length),(13,vI ↑i)],[],h0,xs.length-i)) 0 ?_ ?_
 · exact⟨by omega,by simp⟩
 rintro i ⟨hi,H⟩
 refine yW ?_;refine gc6 (λG=>?_) λG=>?_
 ·
  refine jI ?_;refine zK 9 _ [] (zai 0 9 []) yA nX zot nX (λr U=>U) (go2 ?_);refine w_q I (λh' L' hh hR=>yD (i) underlying22 sizeOf127 I I (hv.mono hh) oM oM) I (w_q I (λh' L' hh hR=>wC isAgg127 I (hv.mono hh) oM) I (go2 ?_));refine w_q I (λh' L' hh hR=>yD (i) underlying22 sizeOf127 I I (hv'.mono hh) oM oM) I (w_q I (λh' L' hh hR=>wC isAgg127 I (hv'.mono hh) oM) I (gc3 (λC=>?_) λC=>?_))
  ·
   refine jI ?_;refine zF I I ?_;rw[yZ (λe=>C (by rw[e]))]
  refine go7 ?_;refine gqL (i+1) ?_ ?_ (he:=⟨I,I,I,?_,y3i⟩)
  ·
   refine⟨by omega,?_⟩;rw[dY xs i oM,dY ys i oM,H];have e:=zdi C;rw[e]
  · omega
  · exact y2e (zbi vI oM)
 refine jI ?_;refine zF I I ?_;have Z:xs=ys:=by
  have e:i=xs.length:=by omega
  rw[e,zue,J,zue] at H;exact H
 rw[wB Z]
theorem zBK{qa:Rat}{vna vda:Value}(hna:Us .u32 h0 vna (zB qa.num.natAbs))(hda:Us .u32 h0 vda (zB (wM qa.den)))(hqa:lq qa<=100000000000):
 Calls prog 51 #[.agg #[vB (qa.num<0),vna,vda]] w0 (Ret w0 h0 (λ_ r=>r=vI (yU qa))):=by
 have J:=wT qa;have M:=vO qa;have O:=wQ qa;refine cb1 11 (.agg #[vB (qa.num<0),vna,vda]) func51 hs ?_;refine go2 ?_;refine zH (xS (cs:=[_,_,_]) I I) I I I ?_;intro v1 r1 H;obtain⟨b1,rfl,rfl⟩:=H;refine go9 ?_;refine cL (ev1 I) call94 (λw hs=>bU hs hna oM) λZ h1 U G=>?_
 try simp only[zE] at G
 subst G;refine gc4 (λD=>?_) λD=>?_
 ·
  refine go8 ?_;refine zF I I ?_;rw[mA (zHJ D)]
 refine gc7 (λC=>?_) λC=>?_
 ·
  refine go8 ?_;refine zF I I ?_;rw[zBD C]
 refine go9 ?_;refine zF I I ?_;rw[zBC (λh=>D (zHQ h)) C]
theorem zQY{qa:Rat}{vna vda:Value}(hna:Us .u32 h0 vna (zB qa.num.natAbs))(hda:Us .u32 h0 vda (zB (wM qa.den))){qb:Rat}{vnb vdb:Value}(hnb:Us .u32 h0 vnb (zB qb.num.natAbs))(hdb:Us .u32 h0 vdb (zB (wM qb.den)))(hqa:lq qa<=100000000000)(hqb:lq qb<=100000000000):
 Calls prog 184 #[.agg #[vB (qa.num<0),vna,vda],.agg #[vB (qb.num<0),vnb,vdb]] w0 (Ret w0 h0 (λ_ r=>r=vI (vH qa qb))):=by
 have bo:=wT qa;have bq:=vO qa;have bs:=wQ qa;have bn:=wT qb;have bp:=vO qb;have br:=wQ qb;refine cb2 80 (.agg #[vB (qa.num<0),vna,vda]) (.agg #[vB (qb.num<0),vnb,vdb]) func184 hs ?_;refine go2 ?_;refine zH (xS (cs:=[_,_,_]) I I) I I I ?_;intro v2 r2 bg;obtain⟨b2,rfl,rfl⟩:=bg;refine zH (xS (cs:=[_,_,_]) I I) I I I ?_;intro v3 r3 bf;obtain⟨b3,rfl,rfl⟩:=bf;refine go5 ?_;refine zK 6 _ [] [(0,.q),(2,.q),(1,.c),(3,.c),(4,.q),(5,.q)] yA nX zot nX (λr hr=>hr) (go2 ?_);refine w_c I (sC (ev1 I) call51 (λw hs=>zBK hs hna hda oM) λcf h1 ae ay=>?_);have bc:=xW qa;subst ay;refine w_c I ?_;replace hnb:=hnb.mono ae;replace hdb:=hdb.mono ae;refine sC (ev1 I) call51 (λw hs=>zBK hs hnb hdb oM) λce h2 M ax=>?_;have bb:=xW qb;subst ax;refine zGT (λJ=>?_) λJ=>?_
 ·
  refine gc8 (λZ=>?_) λZ=>?_
  ·
   refine go8 ?_;refine zF I I ?_;rw[zCC J,zau Z]
  refine go9 ?_;refine zF I I ?_;rw[zCC J,zae Z]
 have ar:=zLG J;refine go7 ?_;refine jC (ι:=Mem) (λ(mc:(Mem))=>MLe h2 mc/\(True)) (λ(mc:(Mem))=>[(2,vP b2 0),(7,vI (cN qa qb))]) (λ(mc:(Mem))=>[.var b3 26 [vB (qb.num<0),vnb,vdb],.var b2 26 [vB (qa.num<0),vna,vda]]) (λ(mc:(Mem))=>mc) ?_ ?_
 ·
  refine go3 ?_;replace hna:=hna.mono (ae.trans M);replace hda:=hda.mono (ae.trans M);refine cL (ev1 I) call117 (λw hs=>pP hs hna hda) λcd h3 D aw=>?_;subst aw;refine u5 ?_;replace hda:=hda.mono D;replace hdb:=hdb.mono (M.trans D);refine cL (ev2 I I) call161 (λw hs=>zLE hs hda hdb) λcc h4 C av=>?_;subst av;refine gc2 (λap=>?_) λap=>?_
  ·
   refine go5 ?_;replace hna:=hna.mono (D.trans C);replace hnb:=hnb.mono ((M.trans D).trans C);refine cL (ev2 I I) call98 (λw hs=>w5 hs hna hnb) λcb h5 G am=>?_
   try simp only[zE] at am
   subst am;refine go2 ?_;refine zY (h5) ?_ ⟨I,?_,y3i⟩ I I
   ·
    refine⟨((D.trans C).trans G),?_⟩
    trivial
   · exact y2e (zbi vI ((yHN ap).symm))
  refine go3 ?_;replace hnb:=hnb.mono ((M.trans D).trans C);replace hdb:=hdb.mono C;refine cL (ev1 I) call117 (λw hs=>pP hs hnb hdb) λca h5 G au=>?_;subst au;refine jF ?_;refine gU 3 49 (vB ((sK qa)/\(sK qb))) ?_ ?_
  ·
   refine yK (sK qa) (λhg=>?_) (λhg=>?_)
   ·
    refine gT hg I (go4 ?_);refine gqU ?_;exact y2e (wE hg)
   refine gF hg I (go3 ?_);refine gqU ?_;exact y2e (wG hg)
  refine gc2 (λU=>?_) λU=>?_
  ·
   have ab:=U.1;have aa:=U.2;have bi:=tG ab;have be:=tH ab;have bh:=tG aa;have bd:=tH aa;have ch:=jK bi bd;have cg:=jK bh be;rw[zHE ab,zHF ab,zHE aa,zHF aa];refine zGT (λao=>?_) λao=>?_
   ·
    refine go3 ?_;refine zY (h5) ?_ ⟨I,?_,y3i⟩ I I
    ·
     refine⟨((D.trans C).trans G),?_⟩
     trivial
    · exact y2e (zbi vI ((zCD ao).symm))
   refine zGT (λan=>?_) λan=>?_
   ·
    refine go3 ?_;refine zY (h5) ?_ ⟨I,?_,y3i⟩ I I
    ·
     refine⟨((D.trans C).trans G),?_⟩
     trivial
    · exact y2e (zbi vI ((zCE an).symm))
   refine go1 ?_;refine zY (h5) ?_ ⟨I,?_,y3i⟩ I I
   ·
    refine⟨((D.trans C).trans G),?_⟩
    trivial
   · exact y2e (zbi vI ((zDJ.2 oM).symm))
  refine zK 12 _ [] [(0,.q),(1,.q),(2,.q),(5,.q),(6,.q),(7,.q),(3,.c),(4,.c),(8,.c),(9,.c),(10,.c),(11,.q)] yA nX zot nX (λr hr=>hr) (go6 ?_);refine w_c I ?_;replace hnb:=hnb.mono G;replace hdb:=hdb.mono G;refine sC (ev1 I) call120 (λw hs=>tI hs hnb hdb) λbz h6 ad ak=>?_;rw[qB] at ak;refine w_c I ?_;replace hna:=hna.mono (((D.trans C).trans G).trans ad);refine sC (ev2 I I) call99 (λw hs=>sH hs hna ak oM oM) λbx h7 ac H=>?_
  try simp only[zE] at H
  have bk:=yM ((qa.num.natAbs)) ((qb.den));refine w_c I ?_;replace hna:=hna.mono ac;replace hda:=hda.mono (((C.trans G).trans ad).trans ac);refine sC (ev1 I) call120 (λw hs=>tI hs hna hda) λbw h8 aq aj=>?_;rw[qB] at aj;refine w_c I ?_;replace hnb:=hnb.mono ((ad.trans ac).trans aq);refine sC (ev2 I I) call99 (λw hs=>sH hs hnb aj oM oM) λbv h9 az ai=>?_
  try simp only[zE] at ai
  have bj:=yM ((qb.num.natAbs)) ((qa.den));refine w_c I ?_;replace H:=H.mono (aq.trans az);refine sC (ev2 I I) call98 (λw hs=>w5 hs H ai) λbu bl ba ah=>?_
  try simp only[zE] at ah
  subst ah;refine go2 ?_;refine zY (bl) ?_ e2z I I;refine⟨(((((((D.trans C).trans G).trans ad).trans ac).trans aq).trans az).trans ba),?_⟩
  trivial
 rintro mc ⟨bm,bt⟩
 refine yW ?_;have ci:=zNM qa qb;refine gc7 (λO=>?_) λO=>?_
 ·
  refine go3 ?_;refine gv (mJ I oM oM) I (go5 ?_);refine zF I I ?_;rw[zR5 ar O]
 refine go9 ?_;refine zF I I ?_;rw[zNH ar O]
theorem yAS{qa:Rat}{vna vda:Value}(hna:Us .u32 h0 vna (zB qa.num.natAbs))(hda:Us .u32 h0 vda (zB (wM qa.den))){qb:Rat}{vnb vdb:Value}(hnb:Us .u32 h0 vnb (zB qb.num.natAbs))(hdb:Us .u32 h0 vdb (zB (wM qb.den)))(hqa:lq qa<=100000000000)(hqb:lq qb<=100000000000):
 Calls prog 76 #[.agg #[vB (qa.num<0),vna,vda],.agg #[vB (qb.num<0),vnb,vdb]] w0 (Ret w0 h0 (λh r=>vD h r (qa*qb))):=by
 have bm:=wT qa;have bo:=vO qa;have bq:=wQ qa;have bl:=wT qb;have bn:=vO qb;have bp:=wQ qb;rw[<-zW3];refine cb2 64 (.agg #[vB (qa.num<0),vna,vda]) (.agg #[vB (qb.num<0),vnb,vdb]) func76 hs ?_;refine go2 ?_;refine zH (xS (cs:=[_,_,_]) I I) I I I ?_;intro v2 r2 bk;obtain⟨b2,rfl,rfl⟩:=bk;refine zH (xS (cs:=[_,_,_]) I I) I I I ?_;intro v3 r3 bj;obtain⟨b3,rfl,rfl⟩:=bj;refine zH (wJ (cs:=[vB ((0:Rat).num<0),.slice none 0 0,.slice none 0 0]) yR I (by simp only[zb];rfl)) I I I ?_;intro v4 r4 bi;obtain⟨b4,rfl,rfl⟩:=bi;refine go9 ?_;refine gU 6 20 (vB (((↑(zB qa.num.natAbs).length:Int)=(0:Int))\/((↑(zB qb.num.natAbs).length:Int)=(0:Int)))) ?_ ?_
 ·
  refine yK ((↑(zB qa.num.natAbs).length:Int)=(0:Int)) (λhg=>?_) (λhg=>?_)
  ·
   refine gT hg I (go6 ?_);refine gqU ?_;exact y2e (uL hg)
  refine gF hg I (qE ?_);refine gqU ?_;exact y2e (uM hg)
 refine gc2 (λao=>?_) λao=>?_
 ·
  refine go2 ?_;refine gv (yV (ps':=[]) (vs:=[vB ((0:Rat).num<0),.slice none 0 0,.slice none 0 0]) underlying26 yR I (uE underlying26) trivial (by simp only[zb];exact uT)) I (xY (A:=[]) (r':=.var b4 26 [vB ((0:Rat).num<0),.slice none 0 0,.slice none 0 0]) (zJ (k:=0) (cs:=[_,_,_]) (vs:=[_,_,_]) I I I I yC (bL I)) I I I (go4 ?_));refine yI (λE S=>zS I (xR (cs:=[_,_,_]) mh0 underlying26 I yC I) E S) ?_
  rcases ao with h|h
  · rw[bT h,show(0:Rat).num.natAbs=0 from I,zvu,zBW];exact vD.zero _
  · rw[bT h,show(0:Rat).num.natAbs=0 from I,z7e,zBW];exact vD.zero _
 refine go6 ?_;refine cL (ev1 I) call117 (λw hs=>pP hs hna hda) λbt h1 Z ba=>?_;subst ba;refine rT ?_;refine cnd (λan=>?_) λan=>?_
 ·
  have ah:=an;have bb:=tG ah;have ap:=tH ah;refine go3 ?_;replace hnb:=hnb.mono Z;replace hdb:=hdb.mono Z;refine cL (ev1 I) call117 (λw hs=>pP hs hnb hdb) λbs h2 H az=>?_;subst az;refine rT ?_;refine cnd (λam=>?_) λam=>?_
  ·
   have ae:=am;have aq:=tG ae;have ax:=tH ae;have bz:=jK bb ax;have bx:=jK aq ap;have bw:=jK ap ax;have bv:=jK bb aq;have bu:=jK ap aq;have cb:qa.den*qb.den≠0:=z4e qa.den_nz qb.den_nz;simp only[zHE ah,zHF ah,zHE ae,zHF ae];refine go6 ?_;refine gv (sQ underlying4 I I) I (go6 ?_);refine cL (ev3 I I I) call118 (λw hs=>aQ hs oM oM oM) λbr h3 G ay=>?_;obtain⟨av,aw,rfl,aj,ak⟩:=ay;refine xY (A:=[]) (r':=.var b4 26 [vB ((mkRat (sg (¬((qa.num<0)↔(qb.num<0))) (qa.num.natAbs*qb.num.natAbs)) (qa.den*qb.den)).num<0),av,aw]) (zJ (k:=0) (cs:=[_,_,_]) (vs:=[_,_,_]) I I I (ocr I (ocu aj (ocu ak oc0))) yC (bL I)) I I I (go4 ?_);refine yI (λE S=>zS I (xR (cs:=[_,_,_]) mh0 underlying26 I yC I) E S) ?_;exact⟨_,_,I,aj,ak⟩
  refine go3 ?_;refine zK 16 _ [] (zai 0 9 [(10,.q),(12,.q),(9,.c),(11,.c),(13,.c),(14,.c),(15,.c),(16,.t)]) yA nX zot nX (λr hr=>hr) (go4 ?_);refine xD I (λ_ _=>sQ underlying4 I I) I (go6 ?_);refine w_c I ?_;replace hna:=hna.mono (Z.trans H);replace hnb:=hnb.mono H;refine sC (ev2 I I) call99 (λw hs=>sH hs hna hnb oM oM) λbh h3 G D=>?_
  try simp only[zE] at D
  have au:=yM ((qa.num.natAbs)) ((qb.num.natAbs));refine w_c I ?_;replace hna:=hna.mono G;replace hda:=hda.mono ((Z.trans H).trans G);refine sC (ev1 I) call120 (λw hs=>tI hs hna hda) λbg h4 ab C=>?_;rw[qB] at C;refine w_c I ?_;replace hnb:=hnb.mono (G.trans ab);replace hdb:=hdb.mono ((H.trans G).trans ab);refine sC (ev1 I) call120 (λw hs=>tI hs hnb hdb) λbf h5 ai O=>?_;rw[qB] at O;refine w_c I ?_;replace C:=C.mono ai;refine sC (ev2 I I) call99 (λw hs=>sH hs C O oM oM) λbe h6 bc M=>?_
  try simp only[zE] at M
  have ar:=yM ((qa.den)) ((qb.den));refine w_c I ?_;replace D:=D.mono ((ab.trans ai).trans bc);refine sC (ev3 I I I) call119 (λw hs=>kT hs D M oM oM) λbd h7 ca J=>?_
  try simp only[zE] at J
  obtain⟨ac,ad,rfl,U,aa⟩:=J;refine gS (A:=[]) (q':=.var b4 26 [vB ((mkRat (sg (¬((qa.num<0)↔(qb.num<0))) (((((qa.num.natAbs))*((qb.num.natAbs)))))) (((((qa.den))*((qb.den)))))).num<0),ac,ad]) I (zJ (k:=0) (cs:=[_,_,_]) (vs:=[_,_,_]) I I I (ocr I (ocu U (ocu aa oc0))) yC (bL I)) I (go3 ?_);refine yI (λE S=>zS I (xR (cs:=[_,_,_]) mh0 underlying26 I yC I) E S) ?_;exact⟨_,_,I,U,aa⟩
 refine go3 ?_;refine zK 16 _ [] (zai 0 9 [(10,.q),(12,.q),(9,.c),(11,.c),(13,.c),(14,.c),(15,.c),(16,.t)]) yA nX zot nX (λr hr=>hr) (go4 ?_);refine xD I (λ_ _=>sQ underlying4 I I) I (go6 ?_);refine w_c I ?_;replace hna:=hna.mono Z;replace hnb:=hnb.mono Z;refine sC (ev2 I I) call99 (λw hs=>sH hs hna hnb oM oM) λbh h2 H D=>?_
 try simp only[zE] at D
 have au:=yM ((qa.num.natAbs)) ((qb.num.natAbs));refine w_c I ?_;replace hna:=hna.mono H;replace hda:=hda.mono (Z.trans H);refine sC (ev1 I) call120 (λw hs=>tI hs hna hda) λbg h3 G C=>?_;rw[qB] at C;refine w_c I ?_;replace hnb:=hnb.mono (H.trans G);replace hdb:=hdb.mono ((Z.trans H).trans G);refine sC (ev1 I) call120 (λw hs=>tI hs hnb hdb) λbf h4 ab O=>?_;rw[qB] at O;refine w_c I ?_;replace C:=C.mono ab;refine sC (ev2 I I) call99 (λw hs=>sH hs C O oM oM) λbe h5 ai M=>?_
 try simp only[zE] at M
 have ar:=yM ((qa.den)) ((qb.den));refine w_c I ?_;replace D:=D.mono ((G.trans ab).trans ai);refine sC (ev3 I I I) call119 (λw hs=>kT hs D M oM oM) λbd h6 bc J=>?_
 try simp only[zE] at J
 obtain⟨ac,ad,rfl,U,aa⟩:=J;refine gS (A:=[]) (q':=.var b4 26 [vB ((mkRat (sg (¬((qa.num<0)↔(qb.num<0))) (((((qa.num.natAbs))*((qb.num.natAbs)))))) (((((qa.den))*((qb.den)))))).num<0),ac,ad]) I (zJ (k:=0) (cs:=[_,_,_]) (vs:=[_,_,_]) I I I (ocr I (ocu U (ocu aa oc0))) yC (bL I)) I (go3 ?_);refine yI (λE S=>zS I (xR (cs:=[_,_,_]) mh0 underlying26 I yC I) E S) ?_;exact⟨_,_,I,U,aa⟩
theorem yAR{qa:Rat}{vna vda:Value}(hna:Us .u32 h0 vna (zB qa.num.natAbs))(hda:Us .u32 h0 vda (zB (wM qa.den))){qb:Rat}{vnb vdb:Value}(hnb:Us .u32 h0 vnb (zB qb.num.natAbs))(hdb:Us .u32 h0 vdb (zB (wM qb.den)))(hqa:lq qa<=100000000000)(hqb:lq qb<=100000000000):
 Calls prog 74 #[.agg #[vB (qa.num<0),vna,vda],.agg #[vB (qb.num<0),vnb,vdb]] w0 (Ret w0 h0 (λh r=>∃u,r=.tuple #[u,vI (if qb=0 then 3 else 0)]/\vD h u (if qb=0 then 0 else qa/qb))):=by
 have br:=wT qa;have bt:=vO qa;have bv:=wQ qa;have bq:=wT qb;have bs:=vO qb;have bu:=wQ qb;refine cb2 58 (.agg #[vB (qa.num<0),vna,vda]) (.agg #[vB (qb.num<0),vnb,vdb]) func74 hs ?_;refine go2 ?_;refine zH (xS (cs:=[_,_,_]) I I) I I I ?_;intro v2 r2 bo;obtain⟨b2,rfl,rfl⟩:=bo;refine zH (xS (cs:=[_,_,_]) I I) I I I ?_;intro v3 r3 bn;obtain⟨b3,rfl,rfl⟩:=bn;refine zH (wJ (cs:=[vB ((0:Rat).num<0),.slice none 0 0,.slice none 0 0]) yR I (by simp only[zb];rfl)) I I I ?_;intro v4 r4 bm;obtain⟨b4,rfl,rfl⟩:=bm;refine go7 ?_;refine cL (ev1 I) call51 (λw hs=>zBK hs hnb hdb oM) λca h1 ad bd=>?_;have bl:=xW qb;subst bd;refine gc3 (λai=>?_) λai=>?_
 ·
  have ab:=uJ.1 ai;rw[zau ab,zau ab];refine go2 ?_;refine gv (yV (ps':=[]) (vs:=[vB ((0:Rat).num<0),.slice none 0 0,.slice none 0 0]) underlying26 yR I (uE underlying26) trivial (by simp only[zb];exact uT)) I (xY (A:=[]) (r':=.var b4 26 [vB ((0:Rat).num<0),.slice none 0 0,.slice none 0 0]) (zJ (k:=0) (cs:=[_,_,_]) (vs:=[_,_,_]) I I I I yC (bL I)) I I I (go5 ?_));refine yI (λE S=>vG I (xR (cs:=[_,_,_]) mh0 underlying26 I yC I) (qQ I) E S) ?_;exact⟨_,I,vD.zero _⟩
 have ab:qb≠0:=λh=>ai (uJ.2 h);rw[zae ab,zae ab,<-zV1 qa ab];have bp:=zF4.2 ab;refine go6 ?_;replace hna:=hna.mono ad;replace hda:=hda.mono ad;refine cL (ev1 I) call117 (λw hs=>pP hs hna hda) λbz h2 Z bc=>?_;subst bc;refine rT ?_;refine cnd (λaq=>?_) λaq=>?_
 ·
  have ak:=aq;have be:=tG ak;have ar:=tH ak;refine go3 ?_;replace hnb:=hnb.mono (ad.trans Z);replace hdb:=hdb.mono (ad.trans Z);refine cL (ev1 I) call117 (λw hs=>pP hs hnb hdb) λbx h3 U bb=>?_;subst bb;refine rT ?_;refine cnd (λap=>?_) λap=>?_
  ·
   have aj:=ap;have au:=tG aj;have az:=tH aj;have cf:=jK be az;have ce:=jK au ar;have cd:=jK ar az;have cc:=jK be au;have cb:=jK ar au;have ch:qa.den*qb.num.natAbs≠0:=z4e qa.den_nz bp;simp only[zHE ak,zHF ak,zHE aj,zHF aj];refine go6 ?_;refine gv (sQ underlying4 I I) I (go6 ?_);refine cL (ev3 I I I) call118 (λw hs=>aQ hs oM oM oM) λbw h4 O ba=>?_;obtain⟨ax,ay,rfl,an,ao⟩:=ba;refine xY (A:=[]) (r':=.var b4 26 [vB ((mkRat (sg (¬((qa.num<0)↔(qb.num<0))) (qa.num.natAbs*qb.den)) (qa.den*qb.num.natAbs)).num<0),ax,ay]) (zJ (k:=0) (cs:=[_,_,_]) (vs:=[_,_,_]) I I I (ocr I (ocu an (ocu ao oc0))) yC (bL I)) I I I (go5 ?_);refine yI (λE S=>vG I (xR (cs:=[_,_,_]) mh0 underlying26 I yC I) (qQ I) E S) ?_;exact⟨_,I,_,_,I,an,ao⟩
  refine go3 ?_;refine zK 16 _ [] (zai 0 8 [(10,.q),(12,.q),(13,.q),(8,.c),(9,.c),(11,.c),(14,.c),(15,.c),(16,.t),(17,.t)]) yA nX zot nX (λr hr=>hr) (go4 ?_);refine xD I (λ_ _=>sQ underlying4 I I) I (go6 ?_);refine w_c I ?_;replace hnb:=hnb.mono U;replace hdb:=hdb.mono U;refine sC (ev1 I) call120 (λw hs=>tI hs hnb hdb) λbk h4 O J=>?_;rw[qB] at J;refine w_c I ?_;replace hna:=hna.mono ((Z.trans U).trans O);refine sC (ev2 I I) call99 (λw hs=>sH hs hna J oM oM) λbj h5 ac C=>?_
  try simp only[zE] at C
  have aw:=yM ((qa.num.natAbs)) ((qb.den));refine w_c I ?_;replace hna:=hna.mono ac;replace hda:=hda.mono (((Z.trans U).trans O).trans ac);refine sC (ev1 I) call120 (λw hs=>tI hs hna hda) λbi h6 am H=>?_;rw[qB] at H;refine w_c I ?_;replace hnb:=hnb.mono ((O.trans ac).trans am);refine sC (ev2 I I) call99 (λw hs=>sH hs H hnb oM oM) λbh h7 bf G=>?_
  try simp only[zE] at G
  have av:=yM ((qa.den)) ((qb.num.natAbs));refine w_c I ?_;replace C:=C.mono (am.trans bf);refine sC (ev3 I I I) call119 (λw hs=>kT hs C G oM oM) λbg h8 cg D=>?_
  try simp only[zE] at D
  obtain⟨ae,ah,rfl,M,aa⟩:=D;refine gS (A:=[]) (q':=.var b4 26 [vB ((mkRat (sg (¬((qa.num<0)↔(qb.num<0))) (((((qa.num.natAbs))*((qb.den)))))) (((((qa.den))*((qb.num.natAbs)))))).num<0),ae,ah]) I (zJ (k:=0) (cs:=[_,_,_]) (vs:=[_,_,_]) I I I (ocr I (ocu M (ocu aa oc0))) yC (bL I)) I (dT I (tX (v:=vI (0)) I) I (go3 ?_));refine yI (λE S=>vG I (xR (cs:=[_,_,_]) mh0 underlying26 I yC I) (qQ I) E S) ?_;exact⟨_,I,_,_,I,M,aa⟩
 refine go3 ?_;refine zK 16 _ [] (zai 0 8 [(10,.q),(12,.q),(13,.q),(8,.c),(9,.c),(11,.c),(14,.c),(15,.c),(16,.t),(17,.t)]) yA nX zot nX (λr hr=>hr) (go4 ?_);refine xD I (λ_ _=>sQ underlying4 I I) I (go6 ?_);refine w_c I ?_;replace hnb:=hnb.mono (ad.trans Z);replace hdb:=hdb.mono (ad.trans Z);refine sC (ev1 I) call120 (λw hs=>tI hs hnb hdb) λbk h3 U J=>?_;rw[qB] at J;refine w_c I ?_;replace hna:=hna.mono (Z.trans U);refine sC (ev2 I I) call99 (λw hs=>sH hs hna J oM oM) λbj h4 O C=>?_
 try simp only[zE] at C
 have aw:=yM ((qa.num.natAbs)) ((qb.den));refine w_c I ?_;replace hna:=hna.mono O;replace hda:=hda.mono ((Z.trans U).trans O);refine sC (ev1 I) call120 (λw hs=>tI hs hna hda) λbi h5 ac H=>?_;rw[qB] at H;refine w_c I ?_;replace hnb:=hnb.mono ((U.trans O).trans ac);refine sC (ev2 I I) call99 (λw hs=>sH hs H hnb oM oM) λbh h6 am G=>?_
 try simp only[zE] at G
 have av:=yM ((qa.den)) ((qb.num.natAbs));refine w_c I ?_;replace C:=C.mono (ac.trans am);refine sC (ev3 I I I) call119 (λw hs=>kT hs C G oM oM) λbg h7 bf D=>?_
 try simp only[zE] at D
 obtain⟨ae,ah,rfl,M,aa⟩:=D;refine gS (A:=[]) (q':=.var b4 26 [vB ((mkRat (sg (¬((qa.num<0)↔(qb.num<0))) (((((qa.num.natAbs))*((qb.den)))))) (((((qa.den))*((qb.num.natAbs)))))).num<0),ae,ah]) I (zJ (k:=0) (cs:=[_,_,_]) (vs:=[_,_,_]) I I I (ocr I (ocu M (ocu aa oc0))) yC (bL I)) I (dT I (tX (v:=vI (0)) I) I (go3 ?_));refine yI (λE S=>vG I (xR (cs:=[_,_,_]) mh0 underlying26 I yC I) (qQ I) E S) ?_;exact⟨_,I,_,_,I,M,aa⟩
theorem zLV{qa:Rat}{vna vda:Value}(hna:Us .u32 h0 vna (zB qa.num.natAbs))(hda:Us .u32 h0 vda (zB (wM qa.den))){qb:Rat}{vnb vdb:Value}(hnb:Us .u32 h0 vnb (zB qb.num.natAbs))(hdb:Us .u32 h0 vdb (zB (wM qb.den)))(hqa:lq qa<=100000000000)(hqb:lq qb<=100000000000){s:Prop}:
 Calls prog 115 #[.agg #[vB (qa.num<0),vna,vda],.agg #[vB (qb.num<0),vnb,vdb],vB s] w0 (Ret w0 h0 (λh r=>vD h r (qa+sgd s qb))):=by
 have ea:=wT qa;have ec:=vO qa;have ee:=wQ qa;have dz:=wT qb;have eb:=vO qb;have ed:=wQ qb;refine cb3 152 (.agg #[vB (qa.num<0),vna,vda]) (.agg #[vB (qb.num<0),vnb,vdb]) (vB s) func115 hs ?_;refine go2 ?_;refine zH (xS (cs:=[_,_,_]) I I) I I I ?_;intro v3 r3 dp;obtain⟨b3,rfl,rfl⟩:=dp;refine zH (xS (cs:=[_,_,_]) I I) I I I ?_;intro v4 r4 dn;obtain⟨b4,rfl,rfl⟩:=dn;refine zH (wJ (cs:=[vB ((0:Rat).num<0),.slice none 0 0,.slice none 0 0]) yR I (by simp only[zb];rfl)) I I I ?_;intro v6 r6 dm;obtain⟨b6,rfl,rfl⟩:=dm;refine go2 ?_;refine jC (ι:=Mem) (λ(mc:(Mem))=>MLe h0 mc/\(True)) (λ(mc:(Mem))=>[(2,vB s),(3,vP b3 0),(4,vP b4 0),(6,vP b6 0)]) (λ(mc:(Mem))=>[.var b6 26 [vB ((0:Rat).num<0),.slice none 0 0,.slice none 0 0],.var b4 26 [vB (qb.num<0),vnb,vdb],.var b3 26 [vB (qa.num<0),vna,vda]]) (λ(mc:(Mem))=>mc) ?_ ?_
 ·
  refine go3 ?_;refine cL (ev1 I) call117 (λw hs=>pP hs hna hda) λel h1 Z df=>?_;subst df;refine rT ?_;refine cnd (λcd=>?_) λcd=>?_
  ·
   have bq:=cd;have dh:=tG bq;have cf:=tH bq;refine go3 ?_;replace hnb:=hnb.mono Z;replace hdb:=hdb.mono Z;refine cL (ev1 I) call117 (λw hs=>pP hs hnb hdb) λek h2 O de=>?_;subst de;refine rT ?_;refine cnd (λcc=>?_) λcc=>?_
   ·
    have bp:=cc;have ch:=tG bp;have da:=tH bp;have eq:=jK dh da;have ep:=jK ch cf;have eo:=jK cf da;have en:=jK dh ch;have em:=jK cf ch;have er:qa.den*qb.den≠0:=z4e qa.den_nz qb.den_nz;simp only[zHE bq,zHF bq,zHE bp,zHF bp];refine zDD ?_;refine gv (zWH (vs:=[_,_,vU .u64 0]) (yJS _ _) e3z) I (pV ?_);refine gv (iV underlying4 I I) I ?_;refine gU 4 56 (vB (((qa.num<0)↔(s))/\((((qa.num.natAbs*qb.den)+(qb.num.natAbs*qa.den))/18446744073709551616)=(0:Nat)))) ?_ ?_
    ·
     refine yK ((qa.num<0)↔(s)) (λhg=>?_) (λhg=>?_)
     ·
      refine gT hg I (go3 ?_);refine gv (fU (k:=.u64) (q:=0) I I) I (go2 ?_);refine gqU ?_;exact y2e (wE hg)
     refine gF hg I (go4 ?_);refine gqU ?_;exact y2e (wG hg)
    refine gc3 (λcb=>?_) λcb=>?_
    ·
     obtain⟨ce,es⟩:=cb;refine go7 ?_;refine cL (ev3 I I I) call118 (λw hs=>aQ hs oM oM oM) λej h3 M dd=>?_;obtain⟨cl,co,rfl,bg,bl⟩:=dd;refine xY (A:=[]) (r':=.var b6 26 [vB ((mkRat (sg (s) (((qa.num.natAbs*qb.den)+(qb.num.natAbs*qa.den))%18446744073709551616)) (qa.den*qb.den)).num<0),cl,co]) (zJ (k:=0) (cs:=[_,_,_]) (vs:=[_,_,_]) I I I (ocr I (ocu bg (ocu bl oc0))) yC (bL I)) I I I (go5 ?_);refine yI (λE S=>zS I (xR (cs:=[_,_,_]) mh0 underlying26 I yC I) E S) ?_;have e:=zoh (a:=qa.num.natAbs*qb.den+qb.num.natAbs*qa.den) (b:=18446744073709551616) oM;rw[e] at bg bl ⊢;rw[zE0 ce];exact⟨_,_,I,bg,bl⟩
    refine go5 ?_;refine gv (sQ underlying4 I I) I ?_;refine gU 5 72 (vB ((¬((qa.num<0)↔(s)))/\((qb.num.natAbs*qa.den)<=(qa.num.natAbs*qb.den)))) ?_ ?_
    ·
     refine yK (¬((qa.num<0)↔(s))) (λhg=>?_) (λhg=>?_)
     ·
      refine gT hg I (go8 ?_);refine gqU ?_;exact y2e (wE hg)
     refine gF hg I (go5 ?_);refine gqU ?_;exact y2e (wG hg)
    refine gc3 (λbn=>?_) λbn=>?_
    ·
     obtain⟨ce,bk⟩:=bn;refine go6 ?_;refine gv (aW (k:=.u64) (W:=18446744073709551616) I I I I oM oM) I (go3 ?_);refine cL (ev3 I I I) call118 (λw hs=>aQ hs oM oM oM) λei h3 M dc=>?_;obtain⟨ck,cn,rfl,bx,ca⟩:=dc;refine xY (A:=[]) (r':=.var b6 26 [vB ((mkRat (sg (qa.num<0) ((qa.num.natAbs*qb.den)-(qb.num.natAbs*qa.den))) (qa.den*qb.den)).num<0),ck,cn]) (zJ (k:=0) (cs:=[_,_,_]) (vs:=[_,_,_]) I I I (ocr I (ocu bx (ocu ca oc0))) yC (bL I)) I I I (go5 ?_);refine yI (λE S=>zS I (xR (cs:=[_,_,_]) mh0 underlying26 I yC I) E S) ?_;rw[zEJ ce bk];exact⟨_,_,I,bx,ca⟩
    refine go5 ?_;refine gv (sQ underlying4 I I) I (gc3 (λbm=>?_) λbm=>?_)
    ·
     have br:¬qb.num.natAbs*qa.den<=qa.num.natAbs*qb.den:=λh=>bn ⟨bm,h⟩;refine go5 ?_;refine gv (aW (k:=.u64) (W:=18446744073709551616) I I I I oM oM) I (go3 ?_);refine cL (ev3 I I I) call118 (λw hs=>aQ hs oM oM oM) λeh h3 M db=>?_;obtain⟨cj,cm,rfl,bw,bz⟩:=db;refine xY (A:=[]) (r':=.var b6 26 [vB ((mkRat (sg (s) ((qb.num.natAbs*qa.den)-(qa.num.natAbs*qb.den))) (qa.den*qb.den)).num<0),cj,cm]) (zJ (k:=0) (cs:=[_,_,_]) (vs:=[_,_,_]) I I I (ocr I (ocu bw (ocu bz oc0))) yC (bL I)) I I I (go5 ?_);refine yI (λE S=>zS I (xR (cs:=[_,_,_]) mh0 underlying26 I yC I) E S) ?_;rw[zA8 bm oM];exact⟨_,_,I,bw,bz⟩
    refine go2 ?_;refine zY (h2) ?_ e4z I I;refine⟨(Z.trans O),?_⟩
    trivial
   refine go1 ?_;refine zY (h2) ?_ e4z I I;refine⟨(Z.trans O),?_⟩
   trivial
  refine go1 ?_;refine zY (h1) ?_ e4z I I;refine⟨Z,?_⟩
  trivial
 rintro mc ⟨ap,eg⟩
 refine yW ?_;refine go1 ?_;refine zK 9 _ [] (zai 0 5 [(5,.c),(6,.q),(7,.q),(8,.q)]) yA nX zot nX (λr hr=>hr) (go5 ?_);refine w_c I ?_;replace hna:=hna.mono ap;replace hda:=hda.mono ap;refine sC (ev1 I) call120 (λw hs=>tI hs hna hda) λdy h1 Z C=>?_;rw[qB] at C;refine jF ?_;replace hda:=hda.mono Z;replace hdb:=hdb.mono (ap.trans Z);refine cL (ev2 I I) call161 (λw hs=>zLE hs hda hdb) λdx h2 O cg=>?_;subst cg;refine gc3 (λbo=>?_) λbo=>?_
 ·
  refine zK 15 _ [] [(0,.q),(1,.q),(4,.q),(5,.q),(8,.q),(9,.q),(2,.c),(3,.c),(6,.c),(7,.c),(10,.c),(11,.c),(12,.q),(13,.q),(14,.q)] yA nX zot nX (λr hr=>hr) (go6 ?_);refine w_c I ?_;replace hnb:=hnb.mono ((ap.trans Z).trans O);replace hdb:=hdb.mono O;refine sC (ev1 I) call120 (λw hs=>tI hs hnb hdb) λdw h3 M bf=>?_;rw[qB] at bf;refine w_c I ?_;replace hna:=hna.mono ((Z.trans O).trans M);refine sC (ev2 I I) call99 (λw hs=>sH hs hna bf oM oM) λdv h4 aq H=>?_
  try simp only[zE] at H
  have dl:=yM ((qa.num.natAbs)) ((qb.den));refine w_c I ?_;replace hna:=hna.mono aq;replace hda:=hda.mono ((O.trans M).trans aq);refine sC (ev1 I) call120 (λw hs=>tI hs hna hda) λdu h5 bc be=>?_;rw[qB] at be;refine w_c I ?_;replace hnb:=hnb.mono ((M.trans aq).trans bc);refine sC (ev2 I I) call99 (λw hs=>sH hs hnb be oM oM) λdt h6 bi G=>?_
  try simp only[zE] at G
  have dk:=yM ((qb.num.natAbs)) ((qa.den));refine w_c I ?_;replace hnb:=hnb.mono bi;replace hdb:=hdb.mono (((M.trans aq).trans bc).trans bi);refine sC (ev1 I) call120 (λw hs=>tI hs hnb hdb) λdr h7 bh bd=>?_;rw[qB] at bd;refine w_c I ?_;replace C:=C.mono (((((O.trans M).trans aq).trans bc).trans bi).trans bh);refine sC (ev2 I I) call99 (λw hs=>sH hs C bd oM oM) λdq h8 bv D=>?_
  try simp only[zE] at D
  have dj:=yM ((qa.den)) ((qb.den));refine jI ?_;refine gv (iV underlying4 I I) I (gc2 (λJ=>?_) λJ=>?_)
  ·
   refine go5 ?_;replace H:=H.mono (((bc.trans bi).trans bh).trans bv);replace G:=G.mono (bh.trans bv);refine cL (ev2 I I) call100 (λw hs=>nD hs H G oM oM) λcw h9 bb ah=>?_
   try simp only[zE] at ah
   have bu:=uW (((((qa.num.natAbs))*((qb.den))))) (((((qb.num.natAbs))*((qa.den)))));refine go1 ?_;replace D:=D.mono bb;refine cL (ev3 I I I) call119 (λw hs=>kT hs ah D oM oM) λcv di bj ae=>?_
   try simp only[zE] at ae
   obtain⟨av,ay,rfl,ak,ao⟩:=ae;refine xY (A:=[]) (r':=.var b6 26 [vB ((mkRat (sg (s) ((((((((qa.num.natAbs))*((qb.den)))))+(((((qb.num.natAbs))*((qa.den))))))))) (((((qa.den))*((qb.den)))))).num<0),av,ay]) (zJ (k:=0) (cs:=[_,_,_]) (vs:=[_,_,_]) I I I (ocr I (ocu ak (ocu ao oc0))) yC (bL I)) I I I (go4 ?_);refine yI (λE S=>zS I (xR (cs:=[_,_,_]) mh0 underlying26 I yC I) E S) ?_;rw[zE0 J];exact⟨_,_,I,ak,ao⟩
  refine go7 ?_;replace H:=H.mono (((bc.trans bi).trans bh).trans bv);replace G:=G.mono (bh.trans bv);refine cL (ev2 I I) call162 (λw hs=>zEP hs H G oM) λcu h9 bb ba=>?_;obtain⟨cz,rfl,ab⟩:=ba
  try simp only[zE] at ab ⊢
  have bt:=zW (yju (((((qa.num.natAbs))*((qb.den))))) (((((qb.num.natAbs))*((qa.den))))));refine pV ?_;refine cnd (λU=>?_) λU=>?_
  ·
   have bk:=zUZ U;rw[zae bk];refine go6 ?_;replace D:=D.mono bb;refine cL (ev3 I I I) call119 (λw hs=>kT hs ab D oM oM) λct di bj ad=>?_
   try simp only[zE] at ad
   obtain⟨au,ax,rfl,aj,an⟩:=ad;refine xY (A:=[]) (r':=.var b6 26 [vB ((mkRat (sg (qa.num<0) ((((((((qa.num.natAbs))*((qb.den)))))-(((((qb.num.natAbs))*((qa.den))))))))) (((((qa.den))*((qb.den)))))).num<0),au,ax]) (zJ (k:=0) (cs:=[_,_,_]) (vs:=[_,_,_]) I I I (ocr I (ocu aj (ocu an oc0))) yC (bL I)) I I I (go4 ?_);refine yI (λE S=>zS I (xR (cs:=[_,_,_]) mh0 underlying26 I yC I) E S) ?_;rw[zEJ J oM];exact⟨_,_,I,aj,an⟩
  have br:=zU0 U;rw[zau br];refine go6 ?_;replace H:=H.mono bb;replace G:=G.mono bb;refine cL (ev2 I I) call162 (λw hs=>zEP hs G H oM) λcq di bj az=>?_;obtain⟨cy,rfl,aa⟩:=az
  try simp only[zE] at aa ⊢
  have bs:=zW (yju (((((qb.num.natAbs))*((qa.den))))) (((((qa.num.natAbs))*((qb.den))))));refine jF ?_;replace D:=D.mono (bb.trans bj);refine cL (ev3 I I I) call119 (λw hs=>kT hs aa D oM oM) λcp eu ef ac=>?_
  try simp only[zE] at ac
  obtain⟨ar,aw,rfl,ai,am⟩:=ac;refine xY (A:=[]) (r':=.var b6 26 [vB ((mkRat (sg (s) ((((((((qb.num.natAbs))*((qa.den)))))-(((((qa.num.natAbs))*((qb.den))))))))) (((((qa.den))*((qb.den)))))).num<0),ar,aw]) (zJ (k:=0) (cs:=[_,_,_]) (vs:=[_,_,_]) I I I (ocr I (ocu ai (ocu am oc0))) yC (bL I)) I I I (go3 ?_);refine yI (λE S=>zS I (xR (cs:=[_,_,_]) mh0 underlying26 I yC I) E S) ?_;rw[zA8 J oM];exact⟨_,_,I,ai,am⟩
 have ci:=zP9.1 (zdi bo);refine go8 ?_;refine gv (iV underlying4 I I) I (gc2 (λJ=>?_) λJ=>?_)
 ·
  refine go5 ?_;replace hna:=hna.mono (Z.trans O);replace hnb:=hnb.mono ((ap.trans Z).trans O);refine cL (ev2 I I) call100 (λw hs=>nD hs hna hnb oM oM) λcw h3 M ah=>?_
  try simp only[zE] at ah
  have bu:=uW ((qa.num.natAbs)) ((qb.num.natAbs));refine go1 ?_;replace C:=C.mono (O.trans M);refine cL (ev3 I I I) call119 (λw hs=>kT hs ah C oM oM) λcv h4 aq ae=>?_
  try simp only[zE] at ae
  obtain⟨av,ay,rfl,ak,ao⟩:=ae;refine xY (A:=[]) (r':=.var b6 26 [vB ((mkRat (sg (s) (((((qa.num.natAbs))+((qb.num.natAbs)))))) ((qa.den))).num<0),av,ay]) (zJ (k:=0) (cs:=[_,_,_]) (vs:=[_,_,_]) I I I (ocr I (ocu ak (ocu ao oc0))) yC (bL I)) I I I (go4 ?_);refine yI (λE S=>zS I (xR (cs:=[_,_,_]) mh0 underlying26 I yC I) E S) ?_;rw[zZM J ci];exact⟨_,_,I,ak,ao⟩
 refine go7 ?_;replace hna:=hna.mono (Z.trans O);replace hnb:=hnb.mono ((ap.trans Z).trans O);refine cL (ev2 I I) call162 (λw hs=>zEP hs hna hnb oM) λcu h3 M ba=>?_;obtain⟨cz,rfl,ab⟩:=ba
 try simp only[zE] at ab ⊢
 have bt:=zW (yju ((qa.num.natAbs)) ((qb.num.natAbs)));refine pV ?_;refine cnd (λU=>?_) λU=>?_
 ·
  have bk:=zUZ U;rw[zae bk];refine go6 ?_;replace C:=C.mono (O.trans M);refine cL (ev3 I I I) call119 (λw hs=>kT hs ab C oM oM) λct h4 aq ad=>?_
  try simp only[zE] at ad
  obtain⟨au,ax,rfl,aj,an⟩:=ad;refine xY (A:=[]) (r':=.var b6 26 [vB ((mkRat (sg (qa.num<0) (((((qa.num.natAbs))-((qb.num.natAbs)))))) ((qa.den))).num<0),au,ax]) (zJ (k:=0) (cs:=[_,_,_]) (vs:=[_,_,_]) I I I (ocr I (ocu aj (ocu an oc0))) yC (bL I)) I I I (go4 ?_);refine yI (λE S=>zS I (xR (cs:=[_,_,_]) mh0 underlying26 I yC I) E S) ?_;rw[zUY J ci oM];exact⟨_,_,I,aj,an⟩
 have br:=zU0 U;rw[zau br];refine go6 ?_;replace hna:=hna.mono M;replace hnb:=hnb.mono M;refine cL (ev2 I I) call162 (λw hs=>zEP hs hnb hna oM) λcq h4 aq az=>?_;obtain⟨cy,rfl,aa⟩:=az
 try simp only[zE] at aa ⊢
 have bs:=zW (yju ((qb.num.natAbs)) ((qa.num.natAbs)));refine jF ?_;replace C:=C.mono ((O.trans M).trans aq);refine cL (ev3 I I I) call119 (λw hs=>kT hs aa C oM oM) λcp h5 bc ac=>?_
 try simp only[zE] at ac
 obtain⟨ar,aw,rfl,ai,am⟩:=ac;refine xY (A:=[]) (r':=.var b6 26 [vB ((mkRat (sg (s) (((((qb.num.natAbs))-((qa.num.natAbs)))))) ((qa.den))).num<0),ar,aw]) (zJ (k:=0) (cs:=[_,_,_]) (vs:=[_,_,_]) I I I (ocr I (ocu ai (ocu am oc0))) yC (bL I)) I I I (go3 ?_);refine yI (λE S=>zS I (xR (cs:=[_,_,_]) mh0 underlying26 I yC I) E S) ?_;rw[zSO J ci oM];exact⟨_,_,I,ai,am⟩
theorem zJL{qa:Rat}{vna vda:Value}(hna:Us .u32 h0 vna (zB qa.num.natAbs))(hda:Us .u32 h0 vda (zB (wM qa.den))){qb:Rat}{vnb vdb:Value}(hnb:Us .u32 h0 vnb (zB qb.num.natAbs))(hdb:Us .u32 h0 vdb (zB (wM qb.den)))(hqa:lq qa<=100000000000)(hqb:lq qb<=100000000000):
 Calls prog 70 #[.agg #[vB (qa.num<0),vna,vda],.agg #[vB (qb.num<0),vnb,vdb]] w0 (Ret w0 h0 (λh r=>vD h r (qa+qb))):=by
 have ac:=wT qa;have ae:=vO qa;have ai:=wQ qa;have ab:=wT qb;have ad:=vO qb;have ah:=wQ qb;refine cb2 10 (.agg #[vB (qa.num<0),vna,vda]) (.agg #[vB (qb.num<0),vnb,vdb]) func70 hs ?_;refine go2 ?_;refine zH (xS (cs:=[_,_,_]) I I) I I I ?_;intro v2 r2 U;obtain⟨b2,rfl,rfl⟩:=U;refine zH (xS (cs:=[_,_,_]) I I) I I I ?_;intro v3 r3 O;obtain⟨b3,rfl,rfl⟩:=O;refine zH (wJ (cs:=[vB ((0:Rat).num<0),.slice none 0 0,.slice none 0 0]) yR I (by simp only[zb];rfl)) I I I ?_;intro v4 r4 M;obtain⟨b4,rfl,rfl⟩:=M;refine go8 ?_;refine cL (ev3 I I I) call115 (λw hs=>zLV hs hna hda hnb hdb oM oM) λv9 h1 aj J=>?_;obtain⟨G,H,rfl,C,D⟩:=J;have aa:=kW qa (sgd (qb.num<0) qb);have Z:=zXH (qb.num<0) qb;refine xY (A:=[]) (r':=.var b4 26 [vB ((qa+sgd (qb.num<0) qb).num<0),G,H]) (zJ (k:=0) (cs:=[_,_,_]) (vs:=[_,_,_]) I I I (ocr I (ocu C (ocu D oc0))) yC (bL I)) I I I (go3 ?_);refine yI (λE S=>zS I (xR (cs:=[_,_,_]) mh0 underlying26 I yC I) E S) ?_;rw[zBE] at C D ⊢;exact⟨_,_,I,C,D⟩
theorem yAQ{qa:Rat}{vna vda:Value}(hna:Us .u32 h0 vna (zB qa.num.natAbs))(hda:Us .u32 h0 vda (zB (wM qa.den))){qb:Rat}{vnb vdb:Value}(hnb:Us .u32 h0 vnb (zB qb.num.natAbs))(hdb:Us .u32 h0 vdb (zB (wM qb.den)))(hqa:lq qa<=100000000000)(hqb:lq qb<=100000000000):
 Calls prog 179 #[.agg #[vB (qa.num<0),vna,vda],.agg #[vB (qb.num<0),vnb,vdb]] w0 (Ret w0 h0 (λh r=>vD h r (qa-qb))):=by
 have ac:=wT qa;have ae:=vO qa;have ai:=wQ qa;have ab:=wT qb;have ad:=vO qb;have ah:=wQ qb;refine cb2 11 (.agg #[vB (qa.num<0),vna,vda]) (.agg #[vB (qb.num<0),vnb,vdb]) func179 hs ?_;refine go2 ?_;refine zH (xS (cs:=[_,_,_]) I I) I I I ?_;intro v2 r2 U;obtain⟨b2,rfl,rfl⟩:=U;refine zH (xS (cs:=[_,_,_]) I I) I I I ?_;intro v3 r3 O;obtain⟨b3,rfl,rfl⟩:=O;refine zH (wJ (cs:=[vB ((0:Rat).num<0),.slice none 0 0,.slice none 0 0]) yR I (by simp only[zb];rfl)) I I I ?_;intro v4 r4 M;obtain⟨b4,rfl,rfl⟩:=M;refine go9 ?_;refine cL (ev3 I I I) call115 (λw hs=>zLV hs hna hda hnb hdb oM oM) λaj h1 ak J=>?_;obtain⟨G,H,rfl,C,D⟩:=J;have aa:=kW qa (sgd (¬(qb.num<0)) qb);have Z:=zXH (¬(qb.num<0)) qb;refine xY (A:=[]) (r':=.var b4 26 [vB ((qa+sgd (¬(qb.num<0)) qb).num<0),G,H]) (zJ (k:=0) (cs:=[_,_,_]) (vs:=[_,_,_]) I I I (ocr I (ocu C (ocu D oc0))) yC (bL I)) I I I (go3 ?_);refine yI (λE S=>zS I (xR (cs:=[_,_,_]) mh0 underlying26 I yC I) E S) ?_;rw[yAG,<-yze] at C D ⊢;exact⟨_,_,I,C,D⟩
theorem yAT{qa:Rat}{vna vda:Value}(hna:Us .u32 h0 vna (zB qa.num.natAbs))(hda:Us .u32 h0 vda (zB (wM qa.den))){qb:Rat}{vnb vdb:Value}(hnb:Us .u32 h0 vnb (zB qb.num.natAbs))(hdb:Us .u32 h0 vdb (zB (wM qb.den)))(hqa:lq qa<=100000000000)(hqb:lq qb<=100000000000):
 Calls prog 148 #[.agg #[vB (qa.num<0),vna,vda],.agg #[vB (qb.num<0),vnb,vdb]] w0 (Ret w0 h0 (λh r=>vD h r (zGE qa qb))):=by
 have ah:=wT qa;have aj:=vO qa;have am:=wQ qa;have ae:=wT qb;have ai:=vO qb;have ak:=wQ qb;refine cb2 12 (.agg #[vB (qa.num<0),vna,vda]) (.agg #[vB (qb.num<0),vnb,vdb]) func148 hs ?_;refine go2 ?_;refine zH (xS (cs:=[_,_,_]) I I) I I I ?_;intro v2 r2 ac;obtain⟨b2,rfl,rfl⟩:=ac;refine zH (xS (cs:=[_,_,_]) I I) I I I ?_;intro v3 r3 ab;obtain⟨b3,rfl,rfl⟩:=ab;refine zH (wJ (cs:=[vB ((0:Rat).num<0),.slice none 0 0,.slice none 0 0]) yR I (by simp only[zb];rfl)) I I I ?_;intro v4 r4 aa;obtain⟨b4,rfl,rfl⟩:=aa;refine go7 ?_;refine cL (ev2 I I) call184 (λw hs=>zQY hs hnb hdb hna hda oM oM) λv7 h1 M Z=>?_;have an:=gQ qb qa;subst Z;refine gc3 (λO=>?_) λO=>?_
 ·
  refine go2 ?_;replace hnb:=hnb.mono M;replace hdb:=hdb.mono M;refine xY (A:=[_,_]) (r':=.var b2 26 [vB (qb.num<0),vnb,vdb]) (zJ (k:=0) (cs:=[_,_,_]) (vs:=[_,_,_]) I I I (ocr I (ocu hnb (ocu hdb oc0))) yC (bL I)) I I I (go5 ?_);refine cL (ev1 I) call185 (λw hs=>oJ hs hnb hdb (by first|omega|exact zci (wT _) oM) (by first|omega|exact zci (wQ _) oM)) λU h2 ad J=>?_;obtain⟨G,H,rfl,C,D⟩:=J;refine xY (A:=[]) (r':=.var b4 26 [vB ((qb).num<0),G,H]) (zJ (k:=0) (cs:=[_,_,_]) (vs:=[_,_,_]) I I I (ocr I (ocu C (ocu D oc0))) yC (bL I)) I I I (go3 ?_);refine yI (λE S=>zS I (xR (cs:=[_,_,_]) mh0 underlying26 I yC I) E S) ?_;rw[yFZ O];exact⟨_,_,I,C,D⟩
 refine go5 ?_;replace hna:=hna.mono M;replace hda:=hda.mono M;refine cL (ev1 I) call185 (λw hs=>oJ hs hna hda (by first|omega|exact zci (wT _) oM) (by first|omega|exact zci (wQ _) oM)) λU h2 ad J=>?_;obtain⟨G,H,rfl,C,D⟩:=J;refine xY (A:=[]) (r':=.var b4 26 [vB ((qa).num<0),G,H]) (zJ (k:=0) (cs:=[_,_,_]) (vs:=[_,_,_]) I I I (ocr I (ocu C (ocu D oc0))) yC (bL I)) I I I (go3 ?_);refine yI (λE S=>zS I (xR (cs:=[_,_,_]) mh0 underlying26 I yC I) E S) ?_;rw[yF0 O];exact⟨_,_,I,C,D⟩
theorem yAU{qa:Rat}{vna vda:Value}(hna:Us .u32 h0 vna (zB qa.num.natAbs))(hda:Us .u32 h0 vda (zB (wM qa.den))){qb:Rat}{vnb vdb:Value}(hnb:Us .u32 h0 vnb (zB qb.num.natAbs))(hdb:Us .u32 h0 vdb (zB (wM qb.den)))(hqa:lq qa<=100000000000)(hqb:lq qb<=100000000000):
 Calls prog 149 #[.agg #[vB (qa.num<0),vna,vda],.agg #[vB (qb.num<0),vnb,vdb]] w0 (Ret w0 h0 (λh r=>vD h r (mQ qa qb))):=by
 have ah:=wT qa;have aj:=vO qa;have am:=wQ qa;have ae:=wT qb;have ai:=vO qb;have ak:=wQ qb;refine cb2 12 (.agg #[vB (qa.num<0),vna,vda]) (.agg #[vB (qb.num<0),vnb,vdb]) func149 hs ?_;refine go2 ?_;refine zH (xS (cs:=[_,_,_]) I I) I I I ?_;intro v2 r2 ac;obtain⟨b2,rfl,rfl⟩:=ac;refine zH (xS (cs:=[_,_,_]) I I) I I I ?_;intro v3 r3 ab;obtain⟨b3,rfl,rfl⟩:=ab;refine zH (wJ (cs:=[vB ((0:Rat).num<0),.slice none 0 0,.slice none 0 0]) yR I (by simp only[zb];rfl)) I I I ?_;intro v4 r4 aa;obtain⟨b4,rfl,rfl⟩:=aa;refine go7 ?_;refine cL (ev2 I I) call184 (λw hs=>zQY hs hnb hdb hna hda oM oM) λv7 h1 M Z=>?_;have an:=gQ qb qa;subst Z;refine gc3 (λO=>?_) λO=>?_
 ·
  refine go2 ?_;replace hnb:=hnb.mono M;replace hdb:=hdb.mono M;refine xY (A:=[_,_]) (r':=.var b2 26 [vB (qb.num<0),vnb,vdb]) (zJ (k:=0) (cs:=[_,_,_]) (vs:=[_,_,_]) I I I (ocr I (ocu hnb (ocu hdb oc0))) yC (bL I)) I I I (go5 ?_);refine cL (ev1 I) call185 (λw hs=>oJ hs hnb hdb (by first|omega|exact zci (wT _) oM) (by first|omega|exact zci (wQ _) oM)) λU h2 ad J=>?_;obtain⟨G,H,rfl,C,D⟩:=J;refine xY (A:=[]) (r':=.var b4 26 [vB ((qb).num<0),G,H]) (zJ (k:=0) (cs:=[_,_,_]) (vs:=[_,_,_]) I I I (ocr I (ocu C (ocu D oc0))) yC (bL I)) I I I (go3 ?_);refine yI (λE S=>zS I (xR (cs:=[_,_,_]) mh0 underlying26 I yC I) E S) ?_;rw[yF1 O];exact⟨_,_,I,C,D⟩
 refine go5 ?_;replace hna:=hna.mono M;replace hda:=hda.mono M;refine cL (ev1 I) call185 (λw hs=>oJ hs hna hda (by first|omega|exact zci (wT _) oM) (by first|omega|exact zci (wQ _) oM)) λU h2 ad J=>?_;obtain⟨G,H,rfl,C,D⟩:=J;refine xY (A:=[]) (r':=.var b4 26 [vB ((qa).num<0),G,H]) (zJ (k:=0) (cs:=[_,_,_]) (vs:=[_,_,_]) I I I (ocr I (ocu C (ocu D oc0))) yC (bL I)) I I I (go3 ?_);refine yI (λE S=>zS I (xR (cs:=[_,_,_]) mh0 underlying26 I yC I) E S) ?_;rw[yF2 O];exact⟨_,_,I,C,D⟩
theorem yAV{n:Int}(hn1:-9223372036854775808<=n)(hn2:n<9223372036854775808):
 Calls prog 75 #[vI n] w0 (Ret w0 h0 (λh r=>vD h r (n:Rat))):=by
 refine cb1 9 (vI n) func75 hs ?_;refine go2 ?_;refine zH (wJ (cs:=[vB ((0:Rat).num<0),.slice none 0 0,.slice none 0 0]) yR I (by simp only[zb];rfl)) I I I ?_;intro v2 r2 U;obtain⟨b2,rfl,rfl⟩:=U;refine go7 ?_;refine cL (ev1 I) call121 (λw hs=>zV0 hs oM oM) λv6 h1 ad C=>?_;have ab:=fJ (n:=n) oM oM;refine cL (vs:=[]) trivial call122 (λw hs=>zQX hs) λv7 h2 Z J=>?_;rw[cX] at J;have aa:=zB5;replace C:=C.mono Z;refine cL (ev3 I I I) call119 (λw hs=>kT hs C J oM oM) λv8 h3 ac H=>?_
 try simp only[zE] at H
 obtain⟨M,O,rfl,D,G⟩:=H;refine xY (A:=[]) (r':=.var b2 26 [vB ((mkRat (sg (n<(0:Int)) (((n).natAbs))) ((1))).num<0),M,O]) (zJ (k:=0) (cs:=[_,_,_]) (vs:=[_,_,_]) I I I (ocr I (ocu D (ocu G oc0))) yC (bL I)) I I I (go3 ?_);refine yI (λE S=>zS I (xR (cs:=[_,_,_]) mh0 underlying26 I yC I) E S) ?_;rw[zKO] at D G ⊢;exact⟨_,_,I,D,G⟩
theorem zLT{sa:Prop}{ba vna vda:Value}{xa ya:List Nat}(hba:ba=vB sa)(hna:Us .u32 h0 vna xa)(hda:Us .u32 h0 vda ya)(hlx:xa.length<=100000000000)(hly:ya.length<=100000000000):
 Calls prog 101 #[.agg #[ba,vna,vda]] w0 (Ret w0 h0 (λh r=>∃u,r=.tuple #[u,vI (if dV ya=0 then 3 else 0)]/\vD h u (mkRat (sg sa (val xa)) (dV ya)))):=by
 subst hba;have ai:=vZ hna.lt;have ah:=vZ hda.lt;refine cb1 22 (.agg #[vB sa,vna,vda]) func101 hs ?_;refine go2 ?_;refine zH (xS (cs:=[_,_,_]) I I) I I I ?_;intro v1 r1 ad;obtain⟨b1,rfl,rfl⟩:=ad;refine zH (wJ (cs:=[vB ((0:Rat).num<0),.slice none 0 0,.slice none 0 0]) yR I (by simp only[zb];rfl)) I I I ?_;intro v2 r2 ac;obtain⟨b2,rfl,rfl⟩:=ac;refine qE ?_;refine qM (ι:=Mem) 6 (λm_=>MLe h0 m_) (λ_=>[(13,vB (((0:Int)<(↑(ya).length:Int))/\((↑(wU (val (ya))):Int)=(0:Int)))),(1,vP b1 0),(2,vP b2 0)]) (λ_=>[.var b2 26 [vB ((0:Rat).num<0),.slice none 0 0,.slice none 0 0],.var b1 26 [vB sa,vna,vda]]) (λm_=>m_) ?_ ?_
 ·
  refine yK ((0:Int)<(↑(ya).length:Int)) (λhg=>?_) (λhg=>?_)
  ·
   refine gT hg I (go5 ?_);refine cL (ev1 I) call94 (λw hs=>bU hs hda oM) λam h1 O M=>?_
   try simp only[zE] at M
   subst M;refine go4 ?_;refine zY h1 O ⟨?_,I,I,y3i⟩ I I;exact y2e (wE hg)
  refine gF hg I (go6 ?_);refine zY h0 (MLe.refl _) ⟨?_,I,I,y3i⟩ I I;exact y2e (wG hg)
 intro ab C;refine rN ?_;refine gc2 (λH=>?_) λH=>?_
 ·
  refine go2 ?_;refine gv (yV (ps':=[]) (vs:=[vB ((0:Rat).num<0),.slice none 0 0,.slice none 0 0]) underlying26 yR I (uE underlying26) trivial (by simp only[zb];exact uT)) I (xY (A:=[]) (r':=.var b2 26 [vB ((0:Rat).num<0),.slice none 0 0,.slice none 0 0]) (zJ (k:=0) (cs:=[_,_,_]) (vs:=[_,_,_]) I I I I yC (bL I)) I I I (go5 ?_));refine yI (λE S=>vG I (xR (cs:=[_,_,_]) mh0 underlying26 I yC I) (qQ I) E S) ?_;have e:=yB8 H;rw[e,zau I,zBV];exact⟨_,I,vD.zero _⟩
 refine go3 ?_;refine zK 7 _ [] (zai 0 5 [(5,.c),(6,.c),(7,.t),(8,.t)]) yA nX zot nX (λr hr=>hr) (go5 ?_);refine w_c I ?_;replace hna:=hna.mono C;replace hda:=hda.mono C;refine sC (ev1 I) call120 (λw hs=>tI hs hna hda) λak h1 O aa=>?_;have ae:=yG6 (ya);refine w_c I ?_;replace hna:=hna.mono O;refine sC (ev3 I I I) call119 (λw hs=>kT hs hna aa oM oM) λaj h2 an J=>?_
 try simp only[zE] at J
 obtain⟨U,Z,rfl,D,G⟩:=J;refine gS (A:=[]) (q':=.var b2 26 [vB ((mkRat (sg (sa) (val (xa))) (val (if(ya)=[] then[1] else(ya)))).num<0),U,Z]) I (zJ (k:=0) (cs:=[_,_,_]) (vs:=[_,_,_]) I I I (ocr I (ocu D (ocu G oc0))) yC (bL I)) I (dT I (tX (v:=vI (0)) I) I (go3 ?_));refine yI (λE S=>vG I (xR (cs:=[_,_,_]) mh0 underlying26 I yC I) (qQ I) E S) ?_;rw[zae (yJI H)];rw[yDP] at D G ⊢;exact⟨_,I,_,_,I,D,G⟩
theorem rR{sa:Prop}{ba vna vda:Value}{xa ya:List Nat}(hba:ba=vB sa)(hna:Us .u32 h0 vna xa)(hda:Us .u32 h0 vda ya):
 Calls prog 48 #[.agg #[ba,vna,vda]] w0 (Ret w0 h0 (λh r=>Us .u32 h r (if ya=[] then[1] else ya))):=by
 subst hba;have J:=vZ hna.lt;have H:=vZ hda.lt;refine cb1 10 (.agg #[vB sa,vna,vda]) func48 hs ?_;refine go2 ?_;refine zH (xS (cs:=[_,_,_]) I I) I I I ?_;intro v1 r1 G;obtain⟨b1,rfl,rfl⟩:=G;refine zKT (λC=>?_) λC=>?_
 ·
  refine go2 ?_;refine zH (fI (kd:=.u32) (p:=1) underlying22 vN I I I) I I I ?_;intro U Z D;obtain rfl:=D;refine yN (by intro z hz;simp only[zpe] at hz;subst hz;decide) ?_;intro h1 M O;refine go5 ?_;refine zF I I ?_;rw[zau (zGK.1 C)];exact O
 refine qE ?_;refine zF I I ?_;rw[zae (λh=>C (zGK.2 h))];exact hda
end
end Go.Proofs.YtboaboflnckgoaaGreat
