/- Texts that the proof needs, part 3. -/
import Derived.Test.YtlpflnindligbaaGreatKA2
set_option linter.unusedVariables false
set_option linter.unusedSimpArgs false
set_option linter.defProp false
open List renaming length→A1,getD→A0
open Int renaming natAbs→AH
open Go renaming World→AP,Value→A2
namespace Go.Proofs.YtlpflnindligbaaGreat
open Bk Go Tryz
abbrev Ae(f:FuncId)(v:Array A2)(w:AP)(h:A4)(Q:A4->A2->Prop):Prop:=Calls Tryz.prog f v w (Bh w h Q)
end Go.Proofs.YtlpflnindligbaaGreat
namespace Bk
def AA:=@Pc.here
def AO:=@Pc.arr
def AT:=@Pc.fst
def AQ:=@Pc.snd
def BL:=@Pc.tx
def BC:=@Pc.ty
def Bi:=@Pc.tz
end Bk
namespace Go.Proofs.YtlpflnindligbaaGreat
open Bk Go Tryz
set_option maxRecDepth 10000
set_option maxHeartbeats 1000000
attribute [local irreducible] GL GC GQ W OpV
section
variable{w0:AP}{h0:A4}(hs:MLe h0 (BE w0))
include hs
theorem jX{v:A2}{xs:List Nat}(hv:Us .u32 h0 v xs):
 Ae 213 #[v] w0 h0 (λh r=>r=tA 1 v 0 (A1 (zB (val xs)))/\Us .u32 h r (zB (val xs))):=by
 have J:=hv.lt63;refine BI 21 v func213 hs ?_;refine fJ ?_;refine An (ι:=Nat) (λ(k:(Nat))=>(k<=A1 xs/\∀i,k<=i->A0 xs i 0=0,[(0,v),(3,vI ↑k)],[],h0,k)) (A1 xs) ?_ ?_
 · exact⟨B1 _,λi hi=>by rw[Au,F0 hi];rfl⟩
 rintro k ⟨M,hz⟩
 refine yO ?_;refine AR ?_;refine gU 8 15 (vB (((0:Int)<↑k)/\(A0 xs (k-1) 0=0))) ?_ ?_
 ·
  refine zY ((0:Int)<↑k) (λH=>?_) (λH=>?_)
  ·
   refine gT H I (Af ?_);refine gv (yB (k-1) underlying39 sizeOf176 I I hv O O) I (AN ?_);refine gv (fS (k:=.u32) (q:=0) I I) I (A5 ?_);refine Ay ?_;exact AV (xE H)
  refine gF H I (AX ?_);refine Ay ?_;exact AV (xG H)
 refine BB (λC=>?_) λC=>?_
 ·
  refine Ak ?_;refine Ad (k-1) ?_ ?_ (he:=⟨I,?_,AW⟩)
  ·
   exact⟨A3,λi hi=>by
    by_cases e:i=k-1
    · rw[e];exact C.2
    · exact hz i O⟩
  · have:=C.1;omega
  · exact AV (AJ vI (by have:=C.1;omega))
 refine Ak ?_;refine gv (T9 _ underlying39 sizeOf176 I I hv.shape I O) I ?_;have D:=hv.sub (lo:=0) (hi:=_) O O;refine AF ?_;refine zC I I ?_;have e:(xs.drop 0).take (k-0)=zB (val xs):=Yf hv.lt M hz (by
  by_cases h0:k=0
  · exact .inl h0
  · exact .inr λh1=>C ⟨A3,h1⟩)
 rw[e] at D;have U:A1 (zB (val xs))=k:=by
  rw[<-e,By,Cn];omega
 refine⟨?_,D⟩;rw[U]
theorem E9{n:Nat}(hn:n<18446744073709551616):
 Ae 217 #[vU .u64 n] w0 h0 (λh r=>Us .u32 h r (zB n)):=by
 refine BI 10 (vU .u64 n) func217 hs ?_;refine uF ?_;refine zE (W0 (kd:=.u32) underlying39 uW I I I I) I I I ?_;intro Z r8 D;obtain rfl:=D;refine yR (by intro x hx;simp only[BY,Bv,or_false] at hx;simp only[ub];omega) ?_;intro h1 J M;refine cL (AU I) call213 (λw hs=>jX hs M) λU h2 H C=>?_;replace C:=C.2;refine AF ?_;refine zC I I ?_;have e:val [n%4294967296,n/2^32%4294967296]=n:=by simp only[val];omega
 rw[e] at C;exact C
theorem MN{v v':A2}{xs ys:List Nat}(hv:Us .u32 h0 v xs)(hv':Us .u32 h0 v' ys):
 Ae 161 #[v,v'] w0 h0 (λ_ r=>r=vI (cD (val xs) (val ys))):=by
 refine B0 45 v v' func161 hs ?_;refine AX ?_;refine cL (AU I) call213 (λw hs=>jX hs hv) λv7 h1 ad C=>?_;replace C:=C.2;refine A7 ?_;replace hv':=hv'.mono ad;refine cL (AU I) call213 (λw hs=>jX hs hv') λv9 h2 ac D=>?_;replace D:=D.2;replace C:=C.mono ac;generalize hA:zB (val xs)=AA at *;generalize hB:zB (val ys)=BB at *;have vA:val AA=val xs:=by rw[<-hA,zF]
 have M:val BB=val ys:=by rw[<-hB,zF]
 have fA:BD AA:=C.lt;have fB:BD BB:=D.lt;have lA:=C.lt63;have lB:=D.lt63;refine fJ ?_;refine Bq (λab=>?_) λab=>?_
 ·
  refine iY (λaa=>?_) λaa=>?_
  ·
   refine AX ?_;refine zC I I ?_;rw[Lv (pS (by rw[hA,hB];omega))]
  refine Ak ?_;refine zC I I ?_;rw[LL (pS (by rw[hA,hB];omega))]
 have hl:A1 AA=A1 BB:=by omega
 refine uF ?_;refine An (ι:=Nat) (λ(j:(Nat))=>(j<=A1 AA/\AA.drop j=BB.drop j,[(0,v7),(1,v9),(5,vI (↑j-1))],[],h2,j)) (A1 AA) ?_ ?_
 · exact⟨B1 _,by rw[EB (B1 _),EB O]⟩
 rintro j ⟨hj,U⟩
 refine yO ?_;refine DV (λZ=>?_) λZ=>?_
 ·
  refine AR ?_;refine zG 9 _ [] (Ah 0 9 []) zX nX Ac nX (λr hr=>hr) (A5 ?_);refine B3 I (λh' L' hh hR=>yB (j-1) underlying39 sizeOf176 I I (C.mono hh) O O) I (B3 I (λh' L' hh hR=>wN isAgg176 I (C.mono hh) O) I (A5 ?_));refine B3 I (λh' L' hh hR=>yB (j-1) underlying39 sizeOf176 I I (D.mono hh) O O) I (B3 I (λh' L' hh hR=>wN isAgg176 I (D.mono hh) O) I (B4 (λJ=>?_) λJ=>?_))
  ·
   refine A5 ?_;refine zG 9 _ [] (Ah 0 9 []) zX nX Ac nX (λr hr=>hr) (A5 ?_);refine B3 I (λh' L' hh hR=>yB (j-1) underlying39 sizeOf176 I I (C.mono hh) O O) I (B3 I (λh' L' hh hR=>wN isAgg176 I (C.mono hh) O) I (A5 ?_));refine B3 I (λh' L' hh hR=>yB (j-1) underlying39 sizeOf176 I I (D.mono hh) O O) I (B3 I (λh' L' hh hR=>wN isAgg176 I (D.mono hh) O) I (B4 (λH=>?_) λH=>?_))
   ·
    refine uF ?_;refine zC I I ?_;rw[<-vA,<-M,Lv (O7 fA hl O hj U H)]
   refine tQ ?_;refine zC I I ?_;rw[<-vA,<-M,LL (O7 fB hl.symm O O U.symm O)]
  refine AX ?_;refine Ad (j-1) ?_ ?_ (he:=⟨I,I,?_,AW⟩)
  ·
   refine⟨A3,?_⟩;rw[tR AA (j-1) O,tR BB (j-1) O];have e:j-1+1=j:=by omega
   rw[e,U,Br J]
  · omega
  · exact AV (AJ vI O)
 refine uG ?_;refine zC I I ?_;have h0:j=0:=by omega
 subst h0;simp only[Ha] at U;rw[<-vA,<-M,U,YQ]
theorem lY{v:A2}{xs:List Nat}(hv:Us .u32 h0 v xs)(hl:A1 xs<=1099511627776):
 Calls prog 176 #[v] w0 (gV w0 h0 (λ_ r L=>L=[.us 176 .u32 r xs])):=by
 refine BI 8 v func176 hs ?_;refine Ak ?_;refine gv (eM underlying39 I (let ⟨a,c,hv⟩:=hv.one;⟨a,_,c,hv⟩)) I (BB (λC=>?_) λC=>?_)
 ·
  refine AN ?_;refine t7 (E:=176) (k:=.u32) (AF ?_);refine qU I I ?_;obtain⟨m,J,rfl⟩:=C;have hx:xs=[]:=hv.nil_of;subst hx
  rfl
 refine AF ?_;refine zE (UK (kd:=.u32) underlying39 uW I I) I I I ?_;intro U r5 H;obtain rfl:=H;refine A7 ?_;refine yY (A:=[]) (gD (kd:=.u32) (bytes:=4) underlying39 uW I I I I I hv (by simp only[lN];omega) (by simp only[lN];omega)) I I I ?_;intro M Z D;obtain rfl:=D;refine AF ?_;refine qU I I ?_
 rfl
theorem j5{v v':A2}{xs ys:List Nat}(hv:Us .u32 h0 v xs)(hv':Us .u32 h0 v' ys)(hl:A1 xs<=1099511627776)(hl':A1 ys<=1099511627776):
 Ae 212 #[v,v'] w0 h0 (λh r=>Us .u32 h r (zB (val xs+val ys))):=by
 refine B0 58 v v' func212 hs ?_;refine AR ?_;refine jD (ι:=A2×List Nat×A2×List Nat) (λ(M,D,Z,H)=>Us .u32 h0 M D/\Us .u32 h0 Z H/\A1 H<=A1 D/\val D+val H=val xs+val ys/\A1 D<=1099511627776) (λ(M,D,Z,H)=>[(0,M),(1,Z)]) (λ(M,D,Z,H)=>[]) (λ(M,D,Z,H)=>h0) ?_ ?_
 ·
  refine AR ?_;refine gv (uA underlying39 I hv') I (B4 (λah=>?_) λah=>?_)
  ·
   refine AZ ?_;refine zV (v',ys,v,xs) ?_ Al I I;exact⟨hv',hv,A3,A3,hl'⟩
  refine A7 ?_;refine zV (v,xs,v',ys) ?_ Al I I;exact⟨hv,hv',A3,I,hl⟩
 rintro⟨M,D,Z,H⟩ ⟨ha,hb,ap,K0,aq⟩
 refine yO ?_;refine AR ?_;refine jI (kd:=.u32) (by':=4) (A1 D+1) underlying39 uW I I I I I O O O O I ?_;intro U;refine AR ?_;refine BF (v:=vU .u64 0) I I (uG ?_);refine gB (ι:=List Nat×Nat) (λ(C,c)=>A1 C<=A1 D/\BD C/\c<=1/\val C+4294967296^A1 C*c=val (D.take (A1 C))+val (H.take (A1 C))) (λ(C,c)=>[(0,M),(1,Z),(5,U),(6,vU .u64 c),(20,M),(21,vI ↑(A1 D)),(22,vI ↑(A1 C))]) (λ(C,c)=>[.us 176 .u32 U (sM C (A1 D+1))]) (λ(C,c)=>h0) (λ(C,c)=>A1 D-A1 C) ([],0) ?_ e7 I I ?_
 · exact⟨B9,λx hx=>by simp at hx,A3,by simp[val]⟩
 rintro⟨C,c⟩ ⟨ao,ac,av,ab⟩
 refine yO ?_;refine Ba (λae=>?_) λae=>?_
 ·
  refine Af ?_;refine gv (yB _ underlying39 sizeOf176 I I ha I O) I (A7 ?_);have an:=ha.get32 (A1 C);have am:=hb.get32 (A1 C);refine tQ ?_;refine jD (ι:=Unit) (λ(_u:(Unit))=>True) (λ(_u:(Unit))=>[(0,M),(1,Z),(5,U),(6,vU .u64 (c+A0 D (A1 C) 0+A0 H (A1 C) 0)),(7,vI ↑(A1 C)),(20,M),(21,vI ↑(A1 D)),(22,vI ↑(A1 C))]) (λ(_u:(Unit))=>[.us 176 .u32 U (sM C (A1 D+1))]) (λ(_u:(Unit))=>h0) ?_ ?_
  ·
   refine DU (λad=>?_) λad=>?_
   ·
    refine AF ?_;refine gv (yB _ underlying39 sizeOf176 I I hb I O) I (AR ?_);refine zV (()) ?_ e8 I I
    trivial
   refine A7 ?_;refine zV (()) ?_ ⟨I,I,I,?_,I,I,I,I,AW⟩ I I
   · trivial
   · exact AV (AJ (vU .u64) (by rw[rH (xs:=H) O];omega))
  rintro _u aj
  refine yO ?_;refine AZ ?_;refine gv (xM (A:=[]) _ underlying39 sizeOf176 I I I (by rw[uQ O];omega)) I (vS sizeOf176 I I (by rw[uQ O];omega) (tQ ?_));refine qL (C++[(c+A0 D (A1 C) 0+A0 H (A1 C) 0)%4294967296],(c+A0 D (A1 C) 0+A0 H (A1 C) 0)/2^32) ?_ ?_ ⟨I,I,I,I,I,I,?_,AW⟩ ?_ I
  ·
   have ai:A1 C<A1 D:=by omega
   refine⟨by simp;omega,uX ac (aZ O),A3,?_⟩;rw[BJ,E5,uZ D _ ai,uP H,rZ,CT];have e:=Gm (c+A0 D (A1 C) 0+A0 H (A1 C) 0) 4294967296;have e2:(2:Nat)^32=4294967296:=I;rw[e2];generalize (c+A0 D (A1 C) 0+A0 H (A1 C) 0)/4294967296=q at *;generalize (c+A0 D (A1 C) 0+A0 H (A1 C) 0)%4294967296=r at *;grind
  ·
   dsimp only;simp;omega
  · exact AV (AJ vI B9)
  try dsimp only[List.nil_append,List.cons_append]
  rw[cC O]
 refine uF ?_;refine gv (xM (A:=[]) (A1 D) underlying39 sizeOf176 I I B5 (by rw[uQ O];omega)) I (vS sizeOf176 I I (by rw[uQ O];omega) (AR ?_));have hk:A1 C=A1 D:=by omega
 have aa:(sM C (A1 D+1)).set (A1 D) (c%4294967296)=C++[c%4294967296]:=by
  rw[<-hk,cC O,aL B9]
 refine yR (by rw[aa];exact uX ac (aZ O)) ?_;intro h1 au ho;refine cL (AU I) call213 (λw hs=>jX hs ho) λak h2 ar J=>?_;replace J:=J.2;refine AF ?_;refine zC I I ?_;have e:val (C++[c%4294967296])=val xs+val ys:=by
  rw[rZ,CG O,ab,wR O,wR O];exact K0
 rw[aa,e] at J;exact J
theorem NJ{v v':A2}{xs ys:List Nat}(hv:Us .u32 h0 v xs)(hv':Us .u32 h0 v' ys)(hl:A1 xs<=1099511627776):
 Ae 215 #[v,v'] w0 h0 (λh r=>∃u,r=.tuple #[u,vI (if val xs<val ys then 7 else 0)]/\Us .u32 h u (zB (val xs-val ys))):=by
 refine B0 54 v v' func215 hs ?_;refine uG ?_;refine cL (AK I I) call161 (λw hs=>MN hs hv hv') λap h1 ad ac=>?_;subst ac;refine B4 (λJ=>?_) λJ=>?_
 ·
  have U:=pO.1 J;refine AX ?_;refine wS I I I ?_;rw[AC U,Nat.sub_eq_zero_of_le (Ib U),xT];exact⟨_,I,Us.nil _ _⟩
 have am:val ys<=val xs:=Jd λhc=>J (pO.2 hc);refine AR ?_;replace hv':=hv'.mono ad;refine cL (AU I) call213 (λw hs=>jX hs hv') λaa h2 ak H=>?_;replace H:=H.2;replace hv:=hv.mono (ad.trans ak);refine Af ?_;refine jI (kd:=.u32) (by':=4) _ underlying39 uW I I I I I I I O O I ?_;intro M;refine AR ?_;refine BF (v:=vU .u64 0) I I (uG ?_);refine gB (ι:=List Nat×Nat) (λ(C,c)=>A1 C<=A1 xs/\BD C/\c<=1/\val C+val ((zB (val ys)).take (A1 C))=val (xs.take (A1 C))+4294967296^A1 C*c) (λ(C,c)=>[(1,aa),(6,M),(7,vU .u64 c),(21,v),(22,vI ↑(A1 xs)),(23,vI ↑(A1 C))]) (λ(C,c)=>[.us 176 .u32 M (sM C (A1 xs))]) (λ(C,c)=>h2) (λ(C,c)=>A1 xs-A1 C) ([],0) ?_ e6 I I ?_
 · exact⟨B9,λx hx=>by simp at hx,A3,by simp[val]⟩
 rintro⟨C,c⟩ ⟨au,Z,ax,ab⟩
 refine yO ?_;refine Ba (λah=>?_) λah=>?_
 ·
  refine Af ?_;refine gv (yB _ underlying39 sizeOf176 I I hv I O) I (A7 ?_);have ar:=hv.get32 (A1 C);have aq:=H.get32 (A1 C);refine vV ?_;refine jD (ι:=Unit) (λ(_u:(Unit))=>True) (λ(_u:(Unit))=>[(1,aa),(6,M),(8,vI ↑(A1 C)),(9,vU .u32 (A0 xs (A1 C) 0)),(10,vU .u64 (c+A0 (zB (val ys)) (A1 C) 0)),(21,v),(22,vI ↑(A1 xs)),(23,vI ↑(A1 C))]) (λ(_u:(Unit))=>[.us 176 .u32 M (sM C (A1 xs))]) (λ(_u:(Unit))=>h2) ?_ ?_
  ·
   refine DU (λae=>?_) λae=>?_
   ·
    refine AF ?_;refine gv (yB _ underlying39 sizeOf176 I I H I O) I (AR ?_);refine zV (()) ?_ e8 I I
    trivial
   refine A7 ?_;refine zV (()) ?_ ⟨I,I,I,I,?_,I,I,I,AW⟩ I I
   · trivial
   · exact AV (AJ (vU .u64) (by rw[rH (xs:=zB (val ys)) O];omega))
  rintro _u an
  refine yO ?_;refine AR ?_;refine gv (mZ (k:=.u64) (W:=18446744073709551616) I I I I O) I (Ak ?_);refine gv (xM (A:=[]) _ underlying39 sizeOf176 I I I (by rw[uQ O];omega)) I (vS sizeOf176 I I (by rw[uQ O];omega) (AF ?_));refine gv (fQ (k:=.u64) (s:=63) (yk:=.u64) I I I (by simp only[ub];omega)) I (AX ?_);generalize hX:A0 xs (A1 C) 0=X at *;generalize hY:A0 (zB (val ys)) (A1 C) 0=Y at *;refine qL (C++[(X+18446744073709551616-(c+Y))%18446744073709551616%4294967296],(X+18446744073709551616-(c+Y))%18446744073709551616/2^63) ?_ ?_ ⟨I,I,I,I,I,?_,AW⟩ ?_ I
  ·
   have U:A1 C<A1 xs:=by omega
   refine⟨by simp;omega,uX Z (aZ O),A3,?_⟩;rw[BJ,E5,uZ xs _ U,uP (zB (val ys)),rZ,CT,hX,hY];have e:(X+18446744073709551616-(c+Y))%18446744073709551616%4294967296+c+Y=X+4294967296*((X+18446744073709551616-(c+Y))%18446744073709551616/2^63):=by omega
   generalize (X+18446744073709551616-(c+Y))%18446744073709551616/2^63=q at *;generalize (X+18446744073709551616-(c+Y))%18446744073709551616%4294967296=r at *;grind
  ·
   dsimp only;simp;omega
  · exact AV (AJ vI B9)
  try dsimp only[List.nil_append,List.cons_append]
  rw[cC O]
 refine AX ?_;have hk:A1 C=A1 xs:=by omega
 rw[aL hk];refine yR (by exact Z) ?_;intro h3 aj ho;refine cL (AU I) call213 (λw hs=>jX hs ho) λao h4 ai D=>?_;replace D:=D.2;refine AR ?_;refine wS I I I ?_;replace hv:=hv.mono (aj.trans ai);rw[A8 O];refine⟨_,I,?_⟩;have e:val C=val xs-val ys:=by
  have aw:A1 (zB (val ys))<=A1 xs:=Ao (yL am) (uU hv.lt);rw[wR O,zF,wR O] at ab;have h1:=gL Z;have h2:c=0:=C7 λav=>by
   have:c=1:=by omega
   subst this;omega
  subst h2;omega
 rw[e] at D;exact D
theorem rQ{v v':A2}{xs ys:List Nat}(hv:Us .u32 h0 v xs)(hv':Us .u32 h0 v' ys)(hl:A1 xs<=1099511627776)(hl':A1 ys<=1099511627776):
 Ae 153 #[v,v'] w0 h0 (λh r=>Us .u32 h r (zB (val xs*val ys))):=by
 have ax:BD xs:=hv.lt;have aw:BD ys:=hv'.lt;refine B0 69 v v' func153 hs ?_;refine vV ?_;refine gv (uA underlying39 I hv') I (A7 ?_);refine jI (kd:=.u32) (by':=4) (A1 xs+A1 ys) underlying39 uW I I I I I O O O O I ?_;intro J;refine uF ?_;refine An (ι:=Nat×List Nat) (λ(k,M)=>(k<=A1 xs/\A1 M=A1 xs+A1 ys/\BD M/\val M=val (xs.take k)*val ys/\∀i,k+A1 ys<=i->A0 M i 0=0,[(1,v'),(5,J),(17,v),(18,vI ↑(A1 xs)),(19,vI ↑k)],[.us 176 .u32 J M],h0,A1 xs-k)) (0,List.replicate (A1 xs+A1 ys) 0) ?_ ?_
 · exact⟨Ci _,B9,kK _,by rw[bS];simp[val],λi _=>y9 _ _⟩
 rintro⟨k,M⟩ ⟨hk,ah,ab,U,hz⟩
 refine yO ?_;refine Ba (λaj=>?_) λaj=>?_
 ·
  refine Af ?_;refine gv (yB _ underlying39 sizeOf176 I I hv I O) I (A7 ?_);have ar:=hv.get32 k;refine AX ?_;refine gv (fS (k:=.u32) (q:=0) I I) I (BB (λH=>?_) λH=>?_)
  ·
   have ac:A0 xs k 0=0:=H;refine AX ?_;refine Ad (k+1,M) ?_ ?_
   · exact⟨A3,ah,ab,by rw[U,uZ xs k O,ac];simp,λi hi=>hz i O⟩
   omega
  have ac:A0 xs k 0≠0:=H;refine AF ?_;refine BF (v:=vU .u64 0) I I (AZ ?_);refine gv (uA underlying39 I hv') I (AF ?_);refine An (ι:=Nat×List Nat×Nat) (λ(j,C,c)=>(j<=A1 ys/\A1 C=A1 xs+A1 ys/\BD C/\c<4294967296/\val C+4294967296^(k+j)*c=val M+4294967296^k*(A0 xs k 0*val (ys.take j))/\∀i,k+A1 ys<=i->A0 C i 0=0,[(1,v'),(5,J),(6,vI ↑k),(7,vU .u32 (A0 xs k 0)),(8,vU .u64 c),(17,v),(18,vI ↑(A1 xs)),(19,vI ↑k),(26,v'),(27,vI ↑(A1 ys)),(28,vI ↑j)],[.us 176 .u32 J C],h0,A1 ys-j)) (0,M,0) ?_ ?_
  · exact⟨Ci _,ah,ab,A3,by simp[val],hz⟩
  rintro⟨j,C,c⟩ ⟨hj,ae,aa,am,ad,Z⟩
  refine yO ?_;refine Ba (λai=>?_) λai=>?_
  ·
   refine Af ?_;refine gv (yB _ underlying39 sizeOf176 I I hv' I O) I (gv (wN isAgg176 I hv' O) I ?_);have aq:=hv'.get32 j;have ap:=jF aa (k+j);have ao:A0 xs k 0*A0 ys j 0<=4294967295*4294967295:=Fl O O;refine y7 ?_;refine gv (xM (A:=[]) (k+j) underlying39 sizeOf176 I I O O) I (gv (tB (A:=[]) isAgg176 I O) I (fJ ?_));refine gv (xM (A:=[]) (k+j) underlying39 sizeOf176 I I O O) I (vS sizeOf176 I I O (tQ ?_));refine Ad (j+1,C.set (k+j) ((c+(A0 xs k 0*A0 ys j 0+A0 C (k+j) 0))%4294967296),(c+(A0 xs k 0*A0 ys j 0+A0 C (k+j) 0))/2^32) ?_ ?_
   ·
    refine⟨A3,by simp[ae],mK aa _ O,A3,?_,λi hi=>?_⟩
    · have h1:=nZ (xs:=C) (i:=k+j) O ((c+(A0 xs k 0*A0 ys j 0+A0 C (k+j) 0))%4294967296)
      have e:=Gm (c+(A0 xs k 0*A0 ys j 0+A0 C (k+j) 0)) 4294967296;have e2:(2:Nat)^32=4294967296:=I;rw[uZ ys j O,e2];have ep:(4294967296:Nat)^(k+(j+1))=4294967296^k*4294967296^j*4294967296:=by rw[<-FP,CT,CX]
      rw[ep];rw[CX] at h1 ad;generalize (c+(A0 xs k 0*A0 ys j 0+A0 C (k+j) 0))/4294967296=q at *;generalize (c+(A0 xs k 0*A0 ys j 0+A0 C (k+j) 0))%4294967296=r at *;grind
    · rw[jY O];exact Z i hi
   omega
  refine Ak ?_;refine gv (uA underlying39 I hv') I (AN ?_);refine gv (xM (A:=[]) (k+A1 ys) underlying39 sizeOf176 I I O O) I (vS sizeOf176 I I O (Af ?_));refine Ad (k+1,C.set (k+A1 ys) (c%4294967296)) ?_ ?_
  ·
   have hj:j=A1 ys:=by omega
   subst hj;refine⟨A3,by simp[ae],mK aa _ O,?_,λi hi=>?_⟩
   · have h1:=nZ (xs:=C) (i:=k+A1 ys) O (c%4294967296)
     rw[Z _ (B1 _)] at h1;rw[wR (B1 _)] at ad;rw[CG am] at h1 ⊢;rw[uZ xs k O];grind
   · rw[jY O];exact Z i O
  omega
 refine AX ?_;refine yR (by exact ab) ?_;intro h1 av ho;refine cL (AU I) call213 (λw hs=>jX hs ho) λan h2 au D=>?_;replace D:=D.2;refine AF ?_;refine zC I I ?_;have ak:k=A1 xs:=by omega
 rw[U,ak,wR (B1 _)] at D;exact D
end
set_option maxRecDepth 100000 in
section
variable{w0:AP}{h0:A4}(hs:MLe h0 (BE w0))
include hs
theorem VL{x:Nat}(hx:x<4294967296):
 Ae 216 #[vU .u32 x] w0 h0 (λ_ r=>r=vI ↑(uO x)):=by
 refine BI 19 (vU .u32 x) func216 hs ?_;refine AR ?_;refine jD (ι:=Nat×Nat) (λ(D,H)=>D<65536/\H<=16/\uO x=uO D+H) (λ(D,H)=>[(0,vU .u32 D),(2,vI ↑H)]) (λ(D,H)=>[]) (λ(D,H)=>h0) ?_ ?_
 ·
  refine AN ?_;refine gv (cW (k:=.u32) (q:=65536) I I) I (BB (λU=>?_) λU=>?_)
  ·
   refine AN ?_;refine gv (fQ (k:=.u32) (s:=16) (yk:=.u64) I I I (by simp only[ub];omega)) I (AZ ?_);refine zV (x/2^16,16) ?_ Al I I;exact⟨A3,A3,RQ U⟩
  refine A7 ?_;refine zV (x,0) ?_ Al I I;exact⟨A3,A3,I⟩
 rintro⟨D,H⟩ ⟨ab,ad,Z⟩
 refine yO ?_;refine jD (ι:=Nat×Nat) (λ(C,J)=>C<256/\J<=24/\uO x=uO C+J) (λ(C,J)=>[(0,vU .u32 C),(2,vI ↑J)]) (λ(C,J)=>[]) (λ(C,J)=>h0) ?_ ?_
 ·
  refine AN ?_;refine gv (cW (k:=.u32) (q:=256) I I) I (BB (λM=>?_) λM=>?_)
  ·
   refine AN ?_;refine gv (fQ (k:=.u32) (s:=8) (yk:=.u64) I I I (by simp only[ub];omega)) I (AX ?_);refine zV (D/2^8,H+8) ?_ ⟨I,?_,AW⟩ I I
   · exact⟨A3,A3,by rw[Z,RQ (k:=8) M];omega⟩
   · exact AV (AJ vI O)
  refine A7 ?_;refine zV (D,H) ?_ Al I I;exact⟨A3,A3,Z⟩
 rintro⟨C,J⟩ ⟨aa,ac,ah⟩
 refine yO ?_;refine AF ?_;refine gv (tI (k:=.u32) (k':=.u8) (W:=256) underlying176 underlying5 I I I) I ?_;have ae:uO C<=8:=nO (k:=8) O;refine mQ (he (λi=>uO i) (C%256) underlying9 I I I (by decide +kernel) (by show C%256<256;omega)) I I I ?_;rw[CG aa];refine gv (VQ (k:=.u8) underlying5 underlying3 I O) I (AR ?_);refine zC I I ?_;exact AJ vI O
theorem eA{x:Nat}(hx:x<4294967296):
 Ae 248 #[vU .u32 x] w0 h0 (λ_ r=>r=vI ↑(32-uO x)):=by
 refine BI 6 (vU .u32 x) func248 hs ?_;refine AX ?_;refine cL (AU I) call216 (λw hs=>VL hs O) λv4 h1 D C=>?_;subst C;have H:uO x<=32:=nO (k:=32) O;refine gv (jA (p:=32) I I O O) I (AF ?_);refine zC I I ?_;exact AJ vI O
theorem Na{v:A2}{xs:List Nat}(hv:Us .u32 h0 v xs)(hl:A1 xs<=1099511627776):
 Ae 158 #[v] w0 h0 (λ_ r=>r=vI ↑(uO (val xs))):=by
 refine BI 20 v func158 hs ?_;refine AX ?_;refine cL (AU I) call213 (λw hs=>jX hs hv) λv4 h1 J C=>?_;replace C:=C.2;replace hv:=hv.mono J;have ac:=uU hv.lt;generalize U:zB (val xs)=AA at *;have Z:val AA=val xs:=by rw[<-U,zF]
 have fA:BD AA:=C.lt;refine EI (λM=>?_) λM=>?_
 ·
  refine Af ?_;refine zC I I ?_;have h0:AA=[]:=DG O;rw[<-Z,h0];rfl
 refine AZ ?_;have H:0<A1 AA:=by omega
 refine A7 ?_;refine gv (gM (p:=32) I I O O) I (AF ?_);refine gv (yB (A1 AA-1) underlying39 sizeOf176 I I C O O) I (A7 ?_);have ab:=jF fA (A1 AA-1);have hb:=nO (n:=A0 AA (A1 AA-1) 0) (k:=32) O;refine cL (AU I) call216 (λw hs=>VL hs O) λaa h2 ad D=>?_;subst D;refine AR ?_;refine zC I I ?_;rw[<-Z,Qq fA (k:=A1 AA-1) O (by rw[<-U];exact rS (by rw[U];exact H))];exact AJ vI O
theorem U4{v:A2}{xs:List Nat}(hv:Us .u32 h0 v xs)(hl:A1 xs<=2):
 Ae 247 #[v] w0 h0 (λ_ r=>r=vU .u64 (val xs)):=by
 have J:BD xs:=hv.lt;refine BI 21 v func247 hs ?_;refine A5 ?_;refine BF (v:=vU .u64 0) I I (AF ?_);refine BF (v:=vU .u64 0) I I (uF ?_);have D:val (xs.drop (A1 xs))=0:=by rw[EB (B1 _)];rfl
 refine gB (ι:=Nat) (λ(j:(Nat))=>j<=A1 xs) (λ(j:(Nat))=>[(0,v),(3,vU .u64 (val (xs.drop j))),(4,vI (↑j-1))]) (λ(j:(Nat))=>[]) (λ(j:(Nat))=>h0) (λ(j:(Nat))=>j) (A1 xs) ?_ ⟨?_,?_,?_,AW⟩ I I ?_
 · exact B1 _
 · exact I
 · exact AV (AJ (vU .u64) D.symm)
 · exact I
 rintro j M
 refine yO ?_;refine DV (λH=>?_) λH=>?_
 ·
  refine AZ ?_;refine gv (fR (k:=.u64) (s:=32) (yk:=.u64) (W:=18446744073709551616) I I I I) I (A5 ?_);refine gv (yB (j-1) underlying39 sizeOf176 I I hv O O) I (A7 ?_);have C:=hv.get32 (j-1);refine A7 ?_;refine gv (pR (k:=.u64) I I I (by simp only[ub];omega) (by simp only[ub];omega)) I ?_;rw[cX (by
   have h2:=gL (x4 J j);rw[Cn] at h2;have h3:(4294967296:Nat)^(A1 xs-j)<=4294967296^1:=D0 O O;omega) C]
  refine Ak ?_;refine qL (j-1) ?_ ?_ ⟨I,?_,?_,AW⟩ I I
  · omega
  · omega
  ·
   rw[kL xs (j-1) O];exact AV (AJ (vU .u64) (by rw[show j-1+1=j by omega];omega))
  · exact AV (AJ vI O)
 refine uF ?_;refine zC I I ?_;rw[show j=0 by omega];rfl
theorem UY{v:A2}{xs:List Nat}{b:Nat}(hv:Us .u32 h0 v xs)(hb:0<b)(hb':b<4294967296)(hl:A1 xs<=1099511627776):
 Ae 226 #[v,vU .u32 b] w0 h0 (λh r=>∃u,r=.tuple #[u,vU .u32 (val xs%b)]/\Us .u32 h u (zB (val xs/b))):=by
 have hf:BD xs:=hv.lt;refine B0 43 v (vU .u32 b) func226 hs ?_;refine AN ?_;refine BF (v:=vU .u32 0) I I (AZ ?_);refine jI (kd:=.u32) (by':=4) _ underlying39 uW I I I I I I I O O I ?_;intro J;refine AR ?_;refine BF (v:=vU .u64 0) I I (uF ?_);refine gB (ι:=Nat×List Nat×Nat) (λ(j,D,r)=>j<=A1 xs/\A1 D=A1 xs-j/\BD D/\r<b/\val (xs.drop j)=b*val D+r) (λ(j,D,r)=>[(0,v),(1,vU .u32 b),(6,J),(7,vU .u64 r),(8,vI (↑j-1))]) (λ(j,D,r)=>[.us 176 .u32 J (fK j D)]) (λ(j,D,r)=>h0) (λ(j,D,r)=>j) (A1 xs,[],0) ?_ e5 ?_ I ?_
 · exact⟨B1 _,B9,λx hx=>by simp at hx,hb,by rw[EB (B1 _)];rfl⟩
 ·
  try dsimp only[List.nil_append,List.cons_append]
  exact AJ (λz=>[AG.us 176 .u32 J z]) (nK _)
 rintro⟨j,D,r⟩ ⟨hj,ac,M,hr,C⟩
 refine yO ?_;refine DV (λU=>?_) λU=>?_
 ·
  refine Af ?_;refine gv (fR (k:=.u64) (s:=32) (yk:=.u64) (W:=18446744073709551616) I I I I) I (A5 ?_);refine gv (yB (j-1) underlying39 sizeOf176 I I hv O O) I (A7 ?_);have Z:=hv.get32 (j-1);refine A7 ?_;refine gv (pR (k:=.u64) I I I (by simp only[ub];omega) (by simp only[ub];omega)) I ?_;rw[cX O Z];generalize ht:r*4294967296+A0 xs (j-1) 0=t at *;have hq:t/b<4294967296:=Hv (by rw[<-ht];have h1:(r+1)*4294967296<=b*4294967296:=CP _ hr;omega);refine vV ?_;refine gv (cV (k:=.u64) (W:=18446744073709551616) I I I I O O) I (gv (vY (k:=.u64) (k':=.u32) (W:=4294967296) underlying169 underlying176 I I I O) I (gv (xM (A:=[]) (j-1) underlying39 sizeOf176 I I O (by rw[jT];omega)) I (vS sizeOf176 I I (by rw[jT];omega) (AZ ?_))));refine gv (cT (k:=.u64) I I O) I (Ak ?_);refine qL (j-1,t/b::D,t%b) ?_ ?_ ⟨I,I,I,I,?_,AW⟩ ?_ I
  ·
   refine⟨A3,by simp only[lC];omega,pM.2 ⟨hq,M⟩,BQ _ hb,?_⟩;rw[kL xs (j-1) O,show j-1+1=j by omega,val];exact VM C ht.symm I I
  ·
   dsimp only;omega
  · exact AV (AJ vI O)
  try dsimp only[List.nil_append,List.cons_append]
  rw[nJ O]
 refine AX ?_;have aa:j=0:=by omega
 subst aa;rw[aM];refine yR (by exact M) ?_;intro h1 ae ho;refine cL (AU I) call213 (λw hs=>jX hs ho) λab h2 ad H=>?_;replace H:=H.2;refine A7 ?_;refine gv (vY (k:=.u64) (k':=.u32) (W:=4294967296) underlying169 underlying176 I I I O) I (AR ?_);refine wS I I I ?_;simp only[Ha] at C;have e1:val xs/b=val D:=by rw[C,Nat.mul_add_div hb,Fu hr];omega
 have e2:val xs%b=r:=by rw[C,Nat.mul_add_mod,CG hr]
 rw[e1,e2];exact⟨_,I,H⟩
theorem Z0{v:A2}{xs:List Nat}{s:Nat}(hv:Us .u32 h0 v xs)(hs32:s<32)(hl:A1 xs<=1099511627776):
 Calls prog 249 #[v,vI ↑s] w0 (gV w0 h0 (λ_ r L=>∃us,L=[.us 176 .u32 r us]/\A1 us=A1 xs+1/\BD us/\val us=val xs*2^s)):=by
 have hf:BD xs:=hv.lt;have hp:2^s<=2147483648:=D0 (n:=2) O (show s<=31 by omega);have U:0<2^s:=DX O;refine B0 41 v (vI ↑s) func249 hs ?_;refine vV ?_;refine jI (kd:=.u32) (by':=4) (A1 xs+1) underlying39 uW I I I I I O O O O I ?_;intro D;refine AR ?_;refine BF (v:=vU .u64 0) I I (uG ?_);refine gB (ι:=List Nat×Nat) (λ(C,c)=>A1 C<=A1 xs/\BD C/\c<2^s/\val C+4294967296^A1 C*c=val (xs.take (A1 C))*2^s) (λ(C,c)=>[(0,v),(1,vI ↑s),(5,D),(6,vU .u64 c),(13,v),(14,vI ↑(A1 xs)),(15,vI ↑(A1 C))]) (λ(C,c)=>[.us 176 .u32 D (sM C (A1 xs+1))]) (λ(C,c)=>h0) (λ(C,c)=>A1 xs-A1 C) ([],0) ?_ e7 I I ?_
 · exact⟨B9,λx hx=>by simp at hx,U,by simp[val]⟩
 rintro⟨C,c⟩ ⟨ac,J,hc,H⟩
 refine yO ?_;refine Ba (λM=>?_) λM=>?_
 ·
  refine Af ?_;refine gv (yB _ underlying39 sizeOf176 I I hv I O) I (A7 ?_);have ab:=hv.get32 (A1 C);have aa:A0 xs (A1 C) 0*2^s<18446744073709551616-4294967296:=by
   have:=Fl (show A0 xs (A1 C) 0<=4294967295 by omega) hp;omega
  refine vV ?_;refine gv (fR (k:=.u64) (s:=s) (yk:=.i64) (W:=18446744073709551616) I I I I) I ?_;rw[CG O];refine gv (pR (k:=.u64) I I I (by simp only[ub];omega) (by simp only[ub];omega)) I ?_;rw[Sn hc];refine Ak ?_;refine gv (xM (A:=[]) _ underlying39 sizeOf176 I I I (by rw[uQ O];omega)) I (vS sizeOf176 I I (by rw[uQ O];omega) (tQ ?_));refine qL (C++[(A0 xs (A1 C) 0*2^s+c)%4294967296],(A0 xs (A1 C) 0*2^s+c)/2^32) ?_ ?_ ⟨I,I,I,I,I,I,?_,AW⟩ ?_ I
  ·
   refine⟨by simp;omega,uX J (aZ O),?_,?_⟩
   · refine Hv ?_
     have:=CP (2^s) (show A0 xs (A1 C) 0+1<=2^32 by omega);rw[EP] at this;omega
   · have e:=Gm (A0 xs (A1 C) 0*2^s+c) 4294967296
     have e2:(2:Nat)^32=4294967296:=I;rw[BJ,E5,uZ xs _ O,rZ,CT,e2];generalize (A0 xs (A1 C) 0*2^s+c)/4294967296=q at *;generalize (A0 xs (A1 C) 0*2^s+c)%4294967296=r at *;grind
  ·
   dsimp only;simp;omega
  · exact AV (AJ vI B9)
  try dsimp only[List.nil_append,List.cons_append]
  rw[cC O]
 refine uF ?_;refine gv (xM (A:=[]) (A1 xs) underlying39 sizeOf176 I I B5 (by rw[uQ O];omega)) I (vS sizeOf176 I I (by rw[uQ O];omega) (Ak ?_));refine qU I I ?_;have Z:A1 C=A1 xs:=by omega
 refine⟨C++[c],?_,by simp[Z],uX J (aZ O),?_⟩
 · rw[<-Z,cC O,aL B9,CG O]
 · rw[rZ,H,wR O]
end
theorem qr{w0 w:AP}{h0 h:A4}{v:A2}{xs:List Nat}{L:List AG}(hl:A1 xs<4611686018427387904)(hs:St w0 h0 (.us 5 .u8 v xs::L) h w):
 Calls prog 227 #[v] w (gV w0 h0 (λg _ K=>g=h/\K=.us 5 .u8 v xs.reverse::L)):=by
 refine jZ (n:=28) (e:=[(0,v)]) (vs:=[v]) func227 rfl rfl (bL rfl) hs ⟨rfl,AW⟩ (AN ?_);refine gv (sZ (A:=[]) underlying232 I) I (AZ ?_);refine An (ι:=Nat×List Nat) (λ(k,D)=>(A1 D=A1 xs/\(k=0\/2*k<=A1 xs+1)/\∀i,i<A1 xs->A0 D i 0=if i<k\/A1 xs<=i+k then A0 xs (A1 xs-1-i) 0 else A0 xs i 0,[(0,v),(2,vI ↑k),(3,vI (↑(A1 xs)-1-↑k))],(.us 5 .u8 v D::L),h,A1 xs-2*k)) (0,xs) ?_ ?_ (he:=⟨I,I,AV (AJ vI O),AW⟩)
 · exact⟨I,.inl I,λi hi=>by rw[A8 O]⟩
 rintro⟨k,D⟩ ⟨H,U,C⟩
 refine yO ?_;refine DU (λJ=>?_) λJ=>?_
 ·
  refine AF ?_;refine zG 13 _ [] ((0,.q)::(1,.q)::(2,.p)::(3,.p)::Ah 4 9 [(13,.t),(14,.t),(15,.t)]) zX nX Ac nX (λr M=>M) (A5 ?_);refine L5 (⟨.inl I,I⟩) I I (L5 (⟨.inl I,I⟩) I I (A5 ?_));refine B3 I (λh' L' hh hR=>jS (hR _ Ar) (A1 xs-1-k) underlying232 sizeOf5 I I O O) I (B3 I (λh' L' hh hR=>gY (hR _ Ar) isAgg5 I O) I (A5 ?_));refine B3 I (λh' L' hh hR=>jS (hR _ Ar) _ underlying232 sizeOf5 I I I O) I (B3 I (λh' L' hh hR=>gY (hR _ Ar) isAgg5 I O) I (B3 I (λh' L' hh hR=>jS (hR _ Ar) _ underlying232 sizeOf5 I I I O) I (tC (A:=[]) I (bT sizeOf5 I I O) I (nW I (xM (A:=[]) (A1 xs-1-k) underlying232 sizeOf5 I I O Gl) I (tC (A:=[]) I (bT sizeOf5 I I Gl) I (uG ?_))))));refine Ad (k+1,(D.set k (A0 D (A1 xs-1-k) 0)).set (A1 xs-1-k) (A0 D k 0)) ?_ ?_ (he:=⟨I,I,AV (AJ vI O),AW⟩)
  ·
   refine⟨by simp[H],.inr O,λi hi=>?_⟩
   by_cases e1:i=A1 xs-1-k
   · subst e1
     rw[Au,ND Gl,L8,C k O,A8 O,AC O];exact AJ (λz=>A0 xs z 0) O
   · rw[Au,Lk O,<-Au]
     by_cases e2:i=k
     · subst e2
       rw[Au,ND O,L8,C _ O,A8 O,AC O]
     · rw[Au,Lk O,<-Au,C i hi]
       by_cases h3:i<k\/A1 xs<=i+k
       · rw[AC h3,AC O]
       · rw[A8 h3,A8 O]
  omega
 refine AF ?_;refine Ug I ?_;refine⟨I,?_⟩;have e:D=xs.reverse:=cy H λi hi=>by
  rw[C i hi]
  by_cases h3:i<k\/A1 xs<=i+k
  · rw[AC h3]
  · rw[A8 h3]
    exact AJ (λz=>A0 xs z 0) O
 rw[e]
theorem Qa{w0:AP}{h0:A4}(hs:MLe h0 (BE w0)){v:A2}{xs:List Nat}(hv:Us .u32 h0 v xs)(hl:A1 xs<=1099511627776):
 Ae 175 #[v] w0 h0 (λ_ r=>r=.string (uR (BZ (val xs)))):=by
 have hf:BD xs:=hv.lt;have ba:=Qk hf;refine BI 45 v func175 hs ?_;refine AX ?_;refine cL (AU I) call213 (λw hs=>jX hs hv) λv7 h1 bq ai=>?_;replace ai:=ai.2;have ay:=uU hf;refine EI (λav=>?_) λav=>?_
 ·
  have bm:A1 (zB (val xs))=0:=by omega
  refine Af ?_;refine zC I I ?_;have e:val xs=0:=C7 λM=>by have:=yJ.2 M;omega
  rw[e];rfl
 have bo:A1 (zB (val xs))≠0:=by omega
 refine AF ?_;refine mQ (rN (v:=.slice none 0 0) I) I I I (t7 (E:=5) (k:=.u8) (AF ?_));refine An (ι:=A2×Nat×A2×List Nat×A4) (λ(va,n,vo,ds,ad)=>(MLe h1 ad/\(Us .u32 ad va (zB n)/\n<=val xs/\ds++nL n=nL (val xs)),[(0,va),(3,vo)],[.us 5 .u8 vo ds],ad,n)) (v7,val xs,.slice none 0 0,[],h1) ?_ ?_
 · exact⟨AM,ai,B1 _,I⟩
 rintro⟨va,n,vo,ds,ad⟩ ⟨aj,⟨ha,aq,Z⟩⟩
 refine yO ?_;have be:A1 (zB n)<=A1 xs:=Ao (yL aq) ay;refine DU (λae=>?_) λae=>?_
 ·
  refine AR ?_;refine BF (v:=vU .u32 0) I I (AR ?_);refine cL (vs:=[_,vU .u32 1000000000]) Al call226 (λw hs=>UY hs ha O O O) λbj h2 ar ap=>?_;obtain⟨ak,rfl,C⟩:=ap;rw[zF] at C ⊢;refine tQ ?_;refine An (ι:=Nat×Nat×A2×List Nat×A4) (λ(i,x,ab,J,ac)=>(MLe h2 ac/\(i<=9/\x<10^(9-i)/\J++nL (x+10^(9-i)*(n/1000000000))=nL (val xs)),[(0,ak),(3,ab),(4,vU .u32 x),(5,vI ↑i)],[.us 5 .u8 ab J],ac,9-i)) (0,n%1000000000,vo,ds,h2) ?_ ?_
  · exact⟨AM,A3,A3,by rw[<-Z];congr 2;omega⟩
  rintro⟨i,x,ab,J,ac⟩ ⟨D,⟨hi,ah,H⟩⟩
  refine yO ?_;have bn:x<4294967296:=DO ah (Ao (D0 O (show 9-i<=9 by omega)) dC);refine AR ?_;refine gU 9 29 (vB (((i:Int)<9)/\(0<x\/(0:Int)<↑(A1 (zB (n/1000000000)))))) ?_ ?_
  ·
   refine zY ((i:Int)<9) (λU=>?_) (λU=>?_)
   ·
    refine gT U I (AN ?_);refine gv (nC (k:=.u32) (q:=0) I I) I ?_;refine gU 5 28 (vB ((0<x)\/((0:Int)<↑(A1 (zB (n/1000000000)))))) ?_ ?_
    ·
     refine zY (0<x) (λU=>?_) (λU=>?_)
     ·
      refine A7 ?_;refine gT U I (AZ ?_);refine Ay ?_;exact AV (vN U)
     refine A7 ?_;refine gF U I ?_;replace C:=C.mono D;refine Ak ?_;refine Ay ?_;exact AV (vO U)
    refine A5 ?_;refine Ay ?_;exact AV (xE U)
   refine gF U I (Ak ?_);refine Ay ?_;exact AV (xG U)
  refine BB (λaa=>?_) λaa=>?_
  ·
   have bf:A1 J<=A1 (nL (val xs)):=by rw[<-H];simp
   refine AX ?_;refine gv (cT (k:=.u32) (q:=10) I I O) I (gv (tZ (k:=.u32) (p:=48) (W:=4294967296) I I I I O) I (gv (vY (k:=.u32) (k':=.u8) (W:=256) underlying176 underlying5 I I I O) I (zE (tN (kd:=.u8) underlying232 KU I I I) I I I ?_)));intro bi bl ao;obtain rfl:=ao;refine yR (by intro z hz;simp only[DP] at hz;subst hz;simp only[ub];omega) ?_;intro h3 az bb;refine yY (A:=[]) (gD (kd:=.u8) (bytes:=1) underlying232 KU I I I I I bb KG KG) I I I ?_;intro aw bk an;obtain rfl:=an;refine AR ?_;refine gv (cV (k:=.u32) (q:=10) (W:=4294967296) I I I I O O) I (Ak ?_);refine Ad (i+1,x/10,aw,J++[48+x%10],h3) ?_ ?_
   ·
    refine⟨(D.trans az),?_⟩;obtain⟨h9,DQ⟩:=aa;obtain⟨k,hk⟩:∃k,9-i=k+1:=⟨8-i,A3⟩;have bp:=yJ (n:=n/1000000000);refine⟨A3,?_,?_⟩
    · rw[show 9-(i+1)=k by omega]
      rw[hk,CT] at ah;omega
    · rw[show 9-(i+1)=k by omega]
      rw[hk,Wz O] at H;rw[Ck];exact H
   omega
  refine AR ?_;refine Ad (ak,n/1000000000,ab,J,ac) ?_ ?_
  ·
   refine⟨((aj.trans ar).trans D),?_⟩;replace C:=C.mono D;refine⟨C,A3,?_⟩;rw[<-H]
   congr 2
   by_cases h9:i=9
   · subst h9;simp at ah ⊢;omega
   · have h1:¬(0<x\/(0:Int)<↑(A1 (zB (n/1000000000)))):=λh=>aa ⟨A3,h⟩
     have h2:n/1000000000=0:=C7 λM=>h1 (.inr (by have:=yJ.2 M;omega));rw[h2,show x=0 by omega,FT]
  have:=yJ (n:=n);omega
 have ax:n=0:=C7 λM=>ae (by have:=yJ.2 M;omega);subst ax;rw[s0,Ce] at Z;have bg:A1 ds<=10*A1 xs:=by rw[Z];exact ba
 refine AX ?_;refine aK (vs:=[_]) I I I I call227 ⟨I,AW⟩ (λw hs=>qr O hs) ?_;intro bh bc bd am;obtain⟨e1,e2⟩:=am;rw[e1,e2]
 clear e1 e2 bc bd
 refine AF ?_;refine yR (by intro z hz;rw[Z] at hz;exact Rx _ z (Ol.1 hz)) ?_;intro h2 ar au;refine A7 ?_;refine gv (V0 underlying232 underlying5 underlying9 I au) I (AF ?_);refine zC I I ?_;have e:val xs≠0:=yJ.1 O;rw[BZ,A8 e,<-Z]
set_option maxHeartbeats 2000000 in
section
variable{w0:AP}{h0:A4}(hs:MLe h0 (BE w0))
include hs
theorem M6{v v':A2}{xs ys:List Nat}(hv:Us .u32 h0 v xs)(hv':Us .u32 h0 v' ys)(hl:A1 xs<=1099511627776)(hl':A1 ys<=1099511627776):
 Ae 211 #[v,v'] w0 h0 (λh z=>∃q r,z=.tuple #[q,r,vI (if val ys=0 then 3 else 0)]/\Us .u32 h q (zB (val xs/val ys))/\Us .u32 h r (zB (if val ys=0 then 0 else val xs%val ys))):=by
 have es:BD xs:=hv.lt;have er:BD ys:=hv'.lt;have gg:=uU es;have gf:=uU er;refine B0 300 v v' func211 hs ?_;refine wD (yM (BF I I (BF I I (BF (v:=vI (0)) I I (wU (xH (wD (yM (mv I I (cL (AU I) call213 (λw hs=>jX hs hv) λfv h1 eo H=>?_))))))))));replace H:=H.2;refine mv I I ?_;replace hv':=hv'.mono eo;refine cL (AU I) call213 (λw hs=>jX hs hv') λfu h2 en D=>?_;replace D:=D.2;refine BF I I (BF I I (wU (xH (wD (fX (wD (yM (mv I I (gv (uA underlying39 I D) I (gv (nD (q:=0) I I) I (BF I I (wU (gQ (e':=[(0,_),(1,_),(30,_)]) EQ ?_)))))))))))));refine xH ?_;refine Bq (λdv=>?_) λdv=>?_
 ·
  have eb:val ys=0:=C7 λek=>by have:=yJ.2 ek;omega
  refine wD (yM (BF I I (BF I I (BF (v:=vI (3)) I I (wU (xH (LJ (NI (OL (jC I I I I ?_))))))))));rw[eb,Nat.div_zero,AC I,AC I,xT];exact⟨_,_,I,Us.nil _ _,Us.nil _ _⟩
 have az:val ys≠0:=yJ.1 O;refine wD (yM (mv I I (mv I I ?_)));replace H:=H.mono en;refine cL (AK I I) call161 (λw hs=>MN hs H D) λft h3 bl df=>?_;subst df;rw[zF,zF];refine gv (yW (q:=0) I I) I (BF I I (wU (xH ?_)));refine Bq (λbg=>?_) λbg=>?_
 ·
  have dj:=pO.1 bg;refine wD (yM (mv I I ?_));replace H:=H.mono bl;refine uS (vs:=[_]) I I I I call176 ⟨I,AW⟩ (λw hs=>lY hs H O) ?_;intro fs h4 gy bk de;obtain rfl:=de;refine BF I I (BF I I (yR (by exact wY _) ?_));intro h5 bj ho;refine BF (v:=vI (0)) I I (wU (gQ (e':=[(4,_),(5,_),(6,_)]) EQ (xH (LJ (NI (OL (jC I I I I ?_)))))));rw[Fu dj,CG dj,A8 O,A8 O,xT];exact⟨_,_,I,Us.nil _ _,ho⟩
 have eq:val ys<=val xs:=Jd λhc=>bg (pO.2 hc);refine wD (yM (mv I I ?_));replace D:=D.mono bl;refine gv (uA underlying39 I D) I (gv (nD (q:=1) I I) I (BF I I (wU (xH ?_))));refine Bq (λdu=>?_) λdu=>?_
 ·
  have br:A1 (zB (val ys))=1:=by omega
  have dw:A0 (zB (val ys)) 0 0≠0:=by have:=rS (n:=val ys) O;rwa [br] at this
  have bt:=L9 br;rw[zF] at bt;refine Th (e':=[(0,_),(1,_)]) Al (wD (yM (mv I I (mv I I (gv (yB (q:=0) (0) underlying39 sizeOf176 I I D I O) I (gv (wN isAgg176 I D O) I ?_))))));have ch:=D.get32 0;replace H:=H.mono bl;refine cL (AK I I) call226 (λw hs=>UY hs H O O O) λfr h4 bk dd=>?_;obtain⟨fw,rfl,ar⟩:=dd;refine mv I I (gv (rA (vs:=[_,_]) I I) I (gv (rA (vs:=[_,_]) I I) I (BF I I (BF I I (wU (gQ (e':=[(7,_),(8,_)]) Al (xH (wD (yM (mv I I (mv I I (zE (tN (kd:=.u32) underlying39 uW I I I) I I I ?_))))))))))));intro fq fx dc;obtain rfl:=dc;refine yR (by intro z hz;simp only[DP] at hz;subst hz;exact Nat.lt_trans (BQ _ O) ch) ?_;intro h5 bj dq;refine cL (AU I) call213 (λw hs=>jX hs dq) λfp h6 dm au=>?_;replace au:=au.2;refine BF I I (BF I I (BF (v:=vI (0)) I I (wU (xH (LJ (NI (OL (jC I I I I ?_))))))));replace ar:=ar.mono (bj.trans dm);rw[zF,<-bt] at ar;rw[L9 I,List.getD_cons_zero,zF,<-bt] at au;rw[A8 O,A8 O];exact⟨_,_,I,ar,au⟩
 have dh:2<=A1 (zB (val ys)):=by omega
 refine Th (e':=[(0,_),(1,_)]) Al (pT (Gn (xH (wD (yM (mv I I (mv I I (gv (uA underlying39 I D) I (gv (jA (q:=1) I I O O) I (gv (yB (A1 (zB (val ys))-1) underlying39 sizeOf176 I I D O O) I (gv (wN isAgg176 I D O) I ?_)))))))))));have Cr:=D.get32 (A1 (zB (val ys))-1);refine cL (AU I) call248 (λw hs=>eA hs O) λfo h4 bk db=>?_;subst db;obtain⟨s,cv⟩:∃s,s=32-uO (A0 (zB (val ys)) (A1 (zB (val ys))-1) 0):=⟨_,I⟩;rw[<-cv];obtain⟨fg,aw,ef⟩:=YN (k:=A1 (zB (val ys))-1) az O cv;refine BF I I (wU (xH (wD (yM (mv I I (mv I I ?_))))));replace H:=H.mono (bl.trans bk);refine uS (vs:=[_,_]) I I I I call249 Al (λw hs=>Z0 hs H O O) ?_;intro Z h5 gx bj da;obtain⟨bo,rfl,bc,bd,ai⟩:=da;refine mv I I (mv I I ?_);replace D:=D.mono (bk.trans bj);refine uS (vs:=[_,_]) I I I I call249 Al (λw hs=>Z0 hs D O O) ?_;intro fm h6 gw dm cz;obtain⟨fe,rfl,eg,bw,bv⟩:=cz;refine yR (by exact bw) ?_;intro h7 gj ee;refine cL (AU I) call213 (λw hs=>jX hs ee) λaj h8 gi C=>?_;replace C:=C.2;rw[bv,zF] at C;refine BF I I (BF I I ?_);rw[zF] at ai;have fh:=yL eq;have bs:=gL (wY (val xs));rw[zF] at bs;have ew:=rV (n:=val ys) (k:=A1 (zB (val ys))-1) O;have bz:=d6 bd bs ai (k:=A1 (zB (val ys))-1) O ew;rw[show(A1 (zB (val xs)))-(A1 (zB (val ys))-1)=A1 (zB (val xs))+1-A1 (zB (val ys)) by omega] at bz;have ba:=zF (val ys*2^s);have bm:BD (zB (val ys*2^s)):=wY _;replace aw:A1 (zB (val ys*2^s))=A1 (zB (val ys)):=by omega
 generalize zB (val ys*2^s)=vs at *;generalize ge:A1 (zB (val ys))=n at *;generalize fi:A1 (zB (val xs))=la at *;obtain⟨V,hV⟩:∃V,V=val ys*2^s:=⟨_,I⟩;obtain⟨U,hU⟩:∃U,U=val xs*2^s:=⟨_,I⟩;rw[<-hV] at ba bz;rw[<-hU] at ai;have ey:V<4294967296^n:=by rw[<-ba,<-aw];exact gL bm
 have ap:=a5 dh aw;rw[ba] at ap;have bb:=gL (fY bm (n-2));rw[By,Dy O] at bb;have bu:=jF bm (n-2);have cq:=jF bm (n-1);refine wU (gQ (e':=[(9,_),(10,_),(11,_)]) EQ (xH (wD (yM (mv I I (gv (uA underlying39 I C) I ?_))))));rw[aw];refine BF I I (wU (xH (wD (yM (mv I I (gv (sZ (A:=[]) underlying39 I) I ?_))))));rw[bc];refine mv I I (gv (jA I I O O) I (jI (kd:=.u32) (by':=4) (la+1-n) underlying39 uW I I I I I O O O O I ?_));intro M;refine BF I I (wU (xH (wD (wD (yM (mv I I (gv (sZ (A:=[]) underlying39 I) I ?_)))))));rw[lR];refine gv (jA (q:=1) I I O O) I (BF I I (wU (gQ (e':=[(9,_),(10,_),(11,_),(12,_),(4,_),(13,_)]) e6 (xH (fX ?_)))));refine gB (ι:=Nat×List Nat×List Nat) (λ(J,us,qs)=>J<=la+1-n/\A1 qs=la+1-n-J/\BD qs/\A1 us=la+1/\BD us/\val us+4294967296^J*(val qs*V)=U/\val (us.drop J)<V) (λ(J,us,qs)=>[(4,M),(9,vI ↑s),(10,Z),(11,aj),(12,vI ↑n),(13,vI (↑J-1))]) (λ(J,us,qs)=>[.us 176 .u32 M (fK J qs),.us 176 .u32 Z us]) (λ(J,us,qs)=>h8) (λ(J,us,qs)=>J) (la+1-n,bo,[]) ?_ e6 ?_ I ?_
 · exact⟨B1 _,B9,λx hx=>by simp at hx,bc,bd,by rw[ai];simp[val],bz⟩
 ·
  try dsimp only[List.nil_append,List.cons_append]
  exact AJ (λz=>[AG.us 176 .u32 M z,AG.us 176 .u32 Z bo]) (nK _)
 rintro⟨J,us,qs⟩ ⟨fl,gb,dr,eh,ab,aq,cb⟩
 refine yO ?_;refine wD (wD (yM (mv I I (gv (aD (q:=0) I I) I (wU (xH ?_))))));refine Bq (λdt=>?_) λdt=>?_
 ·
  refine pT (xH (wD (fX (wD ?_))));have hJ:1<=J:=by omega
  have cj:∀i,J+n<=i->A0 us i 0=0:=λi hi=>iT (g0 ab (Nat.lt_trans cb ey)) hi;obtain⟨wr,hW,co⟩:=b3 (j:=J-1) dh (λi hi=>cj i O) ab;have gq:=jF ab (J-1+n);have go:=jF ab (J-1+n-1);have ev:=jF ab (J-1+n-2);have gr:=jF ab (J-1);have dx:val (us.drop (J-1))<4294967296*V:=by
   rw[kL us (J-1) O,GS hJ];omega
  refine zG 18 _ [] (Ah 0 18 []) zX nX Ac nX (λr hr=>hr) (lV I I I (lV I I I (lV I I I (wK I (λ_ _=>yF I I O O) I (B3 I (λh' L' hh hR=>jS (hR _ Ax) (J-1+n) underlying39 sizeOf176 I I O O) I (B3 I (λh' L' hh hR=>gY (hR _ Ax) isAgg176 I O) I (wK I (λ_ _=>vY (k:=.u32) (k':=.u64) (W:=18446744073709551616) underlying176 underlying169 I I I O) I (wK I (λ_ _=>fR (k:=.u64) (s:=32) (yk:=.u64) (W:=18446744073709551616) I I I I) I (lV I I I (lV I I I (lV I I I (wK I (λ_ _=>yF I I O O) I (wK I (λ_ _=>jA (q:=1) I I O O) I ?_)))))))))))));refine B3 I (λh' L' hh hR=>jS (hR _ Ax) (J-1+n-1) underlying39 sizeOf176 I I O O) I (B3 I (λh' L' hh hR=>gY (hR _ Ax) isAgg176 I O) I (wK I (λ_ _=>vY (k:=.u32) (k':=.u64) (W:=18446744073709551616) underlying176 underlying169 I I I O) I (wK I (λ_ _=>pR (k:=.u64) I I I (by simp only[ub];omega) (by simp only[ub];omega)) I ?_)));rw[cX O O];obtain⟨top,bp⟩:∃t,t=A0 us (J-1+n) 0*4294967296+A0 us (J-1+n-1) 0:=⟨_,I⟩;rw[<-bp];rw[<-bp] at hW;have an:=c1 ap hW bb bu dx;refine Kz I I I (Ic (gQ (e':=[(4,_),(9,_),(10,_),(11,_),(12,_),(13,_),(14,_)]) e7 (xH (wD ?_))));refine zG 18 _ [] (Ah 0 18 []) zX nX Ac nX (λr hr=>hr) (lV I I I (lV I I I (lV I I I (wK I (λ_ _=>jA (q:=1) I I O O) I (B3 I (λh' L' hh hR=>yB (n-1) underlying39 sizeOf176 I I (C.mono hh) O O) I (B3 I (λh' L' hh hR=>wN isAgg176 I (C.mono hh) O) I (wK I (λ_ _=>vY (k:=.u32) (k':=.u64) (W:=18446744073709551616) underlying176 underlying169 I I I O) I (wK I (λ_ _=>cV (k:=.u64) (W:=18446744073709551616) I I I I O O) I (lV I I I (lV I I I (lV I I I (wK I (λ_ _=>jA (q:=1) I I O O) I (B3 I (λh' L' hh hR=>yB (n-1) underlying39 sizeOf176 I I (C.mono hh) O O) I ?_)))))))))))));refine B3 I (λh' L' hh hR=>wN isAgg176 I (C.mono hh) O) I (wK I (λ_ _=>vY (k:=.u32) (k':=.u64) (W:=18446744073709551616) underlying176 underlying169 I I I O) I (wK I (λ_ _=>cT (k:=.u64) I I O) I (Kz I I I (Kz I I I (Ic (gQ (e':=[(4,_),(9,_),(10,_),(11,_),(12,_),(13,_),(15,_),(16,_)]) e8 (xH ?_)))))));refine jD (ι:=Nat) (λ(x1:(Nat))=>x1<4294967296/\val (us.drop (J-1))<(x1+1)*V/\x1*V<val (us.drop (J-1))+V) (λ(x1:(Nat))=>[(4,M),(9,vI ↑s),(10,Z),(11,aj),(12,vI ↑n),(13,vI (↑J-1)),(15,vU .u64 x1)]) (λ(x1:(Nat))=>[.us 176 .u32 M (fK J qs),.us 176 .u32 Z us]) (λ(x1:(Nat))=>h8) ?_ ?_
  ·
   refine fX ?_;refine An (ι:=Nat×Nat) (λ(x,r)=>(x*vs.getD (n-1) 0+r=top/\val (us.drop (J-1))<(x+1)*V/\r<4294967296,[(4,M),(9,vI ↑s),(10,Z),(11,aj),(12,vI ↑n),(13,vI (↑J-1)),(15,vU .u64 x),(16,vU .u64 r)],[.us 176 .u32 M (fK J qs),.us 176 .u32 Z us],h8,x)) (top/vs.getD (n-1) 0,top%vs.getD (n-1) 0) ?_ ?_
   · exact⟨by rw[Dw];exact Gm _ _,Vr ap hW ev co O,Nat.lt_trans (BQ _ O) cq⟩
   rintro⟨x,r⟩ ⟨am,ec,ga⟩
   refine yO ?_;have ed:=hP am an ef;have fz:x*vs.getD (n-2) 0<=4294967297*4294967295:=Fl ed O;refine wD (wD ?_);refine rk (4294967296<=x) (λhg=>?_) (λhg=>?_)
   ·
    have ah:1<=x:=by omega
    have ak:val (us.drop (J-1))<x*V:=DO dx (CP _ hg);refine zG 24 _ [] (Ah 0 24 []) zX nX Ac nX (λr hr=>hr) (lV I I I (wK I (λ_ _=>cW (k:=.u64) (q:=4294967296) I I) I (wK I (λ_ _=>xK (v:=.bool true) (AV (yU hg))) I (kG I I I I I (kG I I I I I (kG I I I I I (kG I I I I I (kG I I I I I (kG I I I I I (kG I I I I I (kG I I I I I (kG I I I I I (kG I I I I I ?_)))))))))))));refine kG I I I I I (kG I I I I I (kG I I I I I (kG I I I I I (kG I I I I I (kG I I I I I (kG I I I I I (kG I I I I I (kG I I I I I (kG I I I I I (wK I (λ_ _=>lI I I) I (Ic (gQ (e':=[(4,_),(9,_),(10,_),(11,_),(12,_),(13,_),(15,_),(16,_),(141,_)]) ⟨I,I,I,I,I,I,I,I,I,AW⟩ (xH ?_)))))))))))));refine WC I (pT (xH (fX (wD (yM (mv I I (gv (lZ (k:=.u64) (q:=1) (W:=18446744073709551616) I I I I O O) I (BF I I (wU (xH (wD (yM (mv I I ?_)))))))))))));refine mv I I (mv I I (gv (jA (q:=1) I I O O) I (gv (yB (n-1) underlying39 sizeOf176 I I C O O) I (gv (wN isAgg176 I C O) I (gv (vY (k:=.u32) (k':=.u64) (W:=18446744073709551616) underlying176 underlying169 I I I O) I (gv (tZ (k:=.u64) (W:=18446744073709551616) I I I I O) I (BF I I (wU (gQ (e':=[(4,_),(9,_),(10,_),(11,_),(12,_),(13,_),(15,_),(16,_)]) e8 (xH (wD (yM (mv I I ?_)))))))))))));refine gv (cW (k:=.u64) (q:=4294967296) I I) I (wU (xH ?_));refine Bq (λae=>?_) λae=>?_
    ·
     refine mJ (T4 I (rT (mI ?_)));refine zV (x-1) ?_ e7 I I;obtain⟨b1,b2⟩:=Zn (x:=x-1) ap hW bb bu (NR am ah) ae an O;exact⟨b1,by rw[GS ah];exact ak,A3⟩
    refine pT (Gn ?_);refine Ad (x-1,r+vs.getD (n-1) 0) ?_ ?_
    · exact⟨NR am ah,by rw[GS ah];exact ak,A3⟩
    omega
   refine zG 24 _ [] (Ah 0 24 []) zX nX Ac nX (λr hr=>hr) (lV I I I (wK I (λ_ _=>cW (k:=.u64) (q:=4294967296) I I) I (wK I (λ_ _=>xK (v:=.bool false) (AV (yH hg))) I (yS I I I (λh' L' hh hR=>xK I) I (yS I I I (λh' L' hh hR=>xK I) I (yS I I I (λh' L' hh hR=>xK I) I (yS I I I (λh' L' hh hR=>jA (q:=2) I I O O) I (yS I I I (λh' L' hh hR=>yB (n-2) underlying39 sizeOf176 I I (C.mono hh) O O) I (yS I I I (λh' L' hh hR=>wN isAgg176 I (C.mono hh) O) I (yS I I I (λh' L' hh hR=>vY (k:=.u32) (k':=.u64) (W:=18446744073709551616) underlying176 underlying169 I I I O) I (yS I I I (λh' L' hh hR=>dT (k:=.u64) (W:=18446744073709551616) I I I I O) I (yS I I I (λh' L' hh hR=>xK I) I (yS I I I (λh' L' hh hR=>fR (k:=.u64) (s:=32) (yk:=.u64) (W:=18446744073709551616) I I I I) I ?_)))))))))))));refine yS I I I (λh' L' hh hR=>xK I) I (yS I I I (λh' L' hh hR=>xK I) I (yS I I I (λh' L' hh hR=>xK I) I (yS I I I (λh' L' hh hR=>yF I I O O) I (yS I I I (λh' L' hh hR=>jA (q:=2) I I O O) I (yS I I I (λh' L' hh hR=>jS (hR _ Ax) (J-1+n-2) underlying39 sizeOf176 I I O O) I (yS I I I (λh' L' hh hR=>gY (hR _ Ax) isAgg176 I O) I (yS I I I (λh' L' hh hR=>vY (k:=.u32) (k':=.u64) (W:=18446744073709551616) underlying176 underlying169 I I I O) I (yS I I I (λh' L' hh hR=>pR (k:=.u64) I I I (by simp only[ub];omega) (by simp only[ub];omega)) I ?_))))))));rw[cX O O];refine yS I I I (λh' L' hh hR=>nC (k:=.u64) I I) I (wK I (λ_ _=>oA I I) I (Ic (gQ (e':=[(4,_),(9,_),(10,_),(11,_),(12,_),(13,_),(15,_),(16,_),(141,_)]) ⟨I,I,I,I,I,I,I,I,I,AW⟩ (xH ?_))));refine Bq (λao=>?_) λao=>?_
   ·
    have ah:1<=x:=Cu λh0=>by rw[h0,E2] at ao;omega
    have ak:val (us.drop (J-1))<x*V:=jm ap hW co am ao;refine pT (xH (fX (wD (yM (mv I I (gv (lZ (k:=.u64) (q:=1) (W:=18446744073709551616) I I I I O O) I (BF I I (wU (xH (wD (yM (mv I I (mv I I ?_)))))))))))));refine mv I I (gv (jA (q:=1) I I O O) I (gv (yB (n-1) underlying39 sizeOf176 I I C O O) I (gv (wN isAgg176 I C O) I (gv (vY (k:=.u32) (k':=.u64) (W:=18446744073709551616) underlying176 underlying169 I I I O) I (gv (tZ (k:=.u64) (W:=18446744073709551616) I I I I O) I (BF I I (wU (gQ (e':=[(4,_),(9,_),(10,_),(11,_),(12,_),(13,_),(15,_),(16,_)]) e8 (xH (wD (yM (mv I I (gv (cW (k:=.u64) (q:=4294967296) I I) I ?_)))))))))))));refine wU (xH ?_);refine Bq (λae=>?_) λae=>?_
    ·
     refine mJ (T4 I (rT (mI ?_)));refine zV (x-1) ?_ e7 I I;obtain⟨b1,b2⟩:=Zn (x:=x-1) ap hW bb bu (NR am ah) ae an O;exact⟨b1,by rw[GS ah];exact ak,A3⟩
    refine pT (Gn ?_);refine Ad (x-1,r+vs.getD (n-1) 0) ?_ ?_
    · exact⟨NR am ah,by rw[GS ah];exact ak,A3⟩
    omega
   refine mJ (rT (rT (mI ?_)));refine zV (x) ?_ e7 I I;exact⟨A3,ec,mo ap hW bb O am O O⟩
  rintro x1 ⟨cn,ck,cl⟩
  refine yO ?_;refine wD (yM (BF (v:=vU .u64 0) I I (BF (v:=vU .u64 0) I I (wU (xH (wD (wD (yM (mv I I (gv (uA underlying39 I C) I ?_))))))))));rw[aw];refine mv (v:=vI (0)) I I (wU (xH (fX ?_)));refine gB (ι:=Nat×List Nat×Nat×Nat) (λ(i,ts,b,c)=>i<=n/\A1 ts=la+1/\BD ts/\c<4294967296/\b<=1/\val ts+4294967296^(J-1)*(x1*val (vs.take i))=val us+4294967296^(J-1+i)*(c+b)/\∀k,J-1+i<=k->A0 ts k 0=A0 us k 0) (λ(i,ts,b,c)=>[(4,M),(9,vI ↑s),(10,Z),(11,aj),(12,vI ↑n),(13,vI (↑J-1)),(15,vU .u64 x1),(17,vU .u64 b),(18,vU .u64 c),(154,aj),(155,vI ↑n),(156,vI ↑i)]) (λ(i,ts,b,c)=>[.us 176 .u32 M (fK J qs),.us 176 .u32 Z ts]) (λ(i,ts,b,c)=>h8) (λ(i,ts,b,c)=>n-i) (0,us,0,0) ?_ JP I I ?_
  · exact⟨A3,eh,ab,A3,A3,by simp[val],λ_ _=>I⟩
  rintro⟨i,ts,b,c⟩ ⟨dl,ct,bn,gk,gn,be,cu⟩
  refine yO ?_;refine wD (yM (gv (yW I I) I (wU (xH (wD ?_)))));refine Bq (λcg=>?_) λcg=>?_
  ·
   refine pT (xH (wD (fX (wD (yM (mv I I (gv (yB _ underlying39 sizeOf176 I I C I O) I (gv (wN isAgg176 I C O) I ?_))))))));have ea:=C.get32 i;have fy:x1*vs.getD i 0<=4294967295*4294967295:=Fl O O;refine BF I I (BF I I (wU (xH (wD (yM (mv I I (mv I I (mv I I (gv (vY (k:=.u32) (k':=.u64) (W:=18446744073709551616) underlying176 underlying169 I I I O) I (gv (dT (k:=.u64) (W:=18446744073709551616) I I I I O) I (gv (tZ (k:=.u64) (W:=18446744073709551616) I I I I O) I (BF I I (wU ?_)))))))))))));refine gQ (e':=[(4,_),(9,_),(10,_),(11,_),(12,_),(13,_),(15,_),(17,_),(154,_),(155,_),(156,_),(19,_),(18,_)]) ⟨I,I,I,I,I,I,I,I,I,I,I,I,I,AW⟩ (xH (wD (yM (mv I I (mv I I (mv I I (gv (yF I I O O) I (gv (xM (A:=[_]) (J-1+i) underlying39 sizeOf176 I I O O) I (gv (tB (A:=[_]) isAgg176 I O) I ?_)))))))));have bx:=jF bn (J-1+i);refine gv (vY (k:=.u32) (k':=.u64) (W:=18446744073709551616) underlying176 underlying169 I I I O) I (mv I I (gv (g2 (k:=.u64) (q:=4294967295) I I I (by simp only[ub];omega) (by simp only[ub];omega)) I ?_));rw[g1];refine gv (mZ (k:=.u64) (W:=18446744073709551616) I I I I O) I (mv I I (gv (mZ (k:=.u64) (W:=18446744073709551616) I I I I O) I (BF I I (wU (gQ (e':=[(4,_),(9,_),(10,_),(11,_),(12,_),(13,_),(15,_),(154,_),(155,_),(156,_),(19,_),(18,_),(21,_)]) ⟨I,I,I,I,I,I,I,I,I,I,I,I,I,AW⟩ (xH (wD (yM (mv I I (mv I I (mv I I (gv (yF I I O O) I (mv I I ?_)))))))))))));refine gv (tI (k:=.u64) (k':=.u32) (W:=4294967296) underlying169 underlying176 I I I) I (gv (xM (A:=[_]) (J-1+i) underlying39 sizeOf176 I I O O) I (pL sizeOf176 I I O (wU (xH (wD (yM (mv I I (gv (fQ (k:=.u64) (s:=63) (yk:=.u64) I I I (by simp only[ub];omega)) I (BF I I (wU (gQ (e':=[(4,_),(9,_),(10,_),(11,_),(12,_),(13,_),(15,_),(154,_),(155,_),(156,_),(18,_),(17,_)]) JP (xH (yM ?_)))))))))))));refine mv I I (gv (fQ (k:=.u64) (s:=32) (yk:=.u64) I I I (by simp only[ub];omega)) I (BF I I (wU (Gn (xH (yM (gv (yF (q:=1) I I O O) I (mv I I (wU ?_)))))))));generalize hX:A0 ts (J-1+i) 0=X at *;generalize hY:vs.getD i 0=Y at *;refine qL (i+1,ts.set (J-1+i) (((X+18446744073709551616-(c+x1*Y)%4294967296)%18446744073709551616+18446744073709551616-b)%18446744073709551616%4294967296),((X+18446744073709551616-(c+x1*Y)%4294967296)%18446744073709551616+18446744073709551616-b)%18446744073709551616/2^63,(c+x1*Y)/2^32) ?_ ?_ JP I I
   ·
    refine⟨A3,by simp[ct],mK bn _ O,A3,A3,?_,λk hk=>?_⟩
    · have h1:=nZ (xs:=ts) (i:=J-1+i) O (((X+18446744073709551616-(c+x1*Y)%4294967296)%18446744073709551616+18446744073709551616-b)%18446744073709551616%4294967296)
      rw[hX] at h1;rw[uZ vs i O,hY,<-FP (J-1),CT,CX];rw[CX] at h1 be;exact tj (l:=(c+x1*Y)%4294967296) be h1 O O
    · rw[jY O];exact cu k O
   dsimp only;omega
  refine mJ (rT (rT (mI (xH (wD (yM (mv I I (mv I I (mv I I (gv (yF I I O O) I (gv (xM (A:=[_]) (J-1+n) underlying39 sizeOf176 I I O O) I (gv (tB (A:=[_]) isAgg176 I O) I ?_))))))))))));have bx:=jF bn (J-1+n);refine gv (vY (k:=.u32) (k':=.u64) (W:=18446744073709551616) underlying176 underlying169 I I I O) I (mv I I (gv (mZ (k:=.u64) (W:=18446744073709551616) I I I I O) I (mv I I (gv (mZ (k:=.u64) (W:=18446744073709551616) I I I I O) I ?_))));obtain⟨d2,eu⟩:∃d,d=((A0 ts (J-1+n) 0+18446744073709551616-c)%18446744073709551616+18446744073709551616-b)%18446744073709551616:=⟨_,I⟩;rw[<-eu];refine BF I I (wU (gQ (e':=[(4,_),(9,_),(10,_),(11,_),(12,_),(13,_),(15,_),(22,_)]) e8 (xH (wD (yM (mv I I (mv I I (mv I I (gv (yF I I O O) I (mv I I (gv (tI (k:=.u64) (k':=.u32) (W:=4294967296) underlying169 underlying176 I I I) I (gv (xM (A:=[_]) (J-1+n) underlying39 sizeOf176 I I O O) I (pL sizeOf176 I I O ?_)))))))))))));have dl:i=n:=by omega
  rw[dl,wR O,ba] at be;have cp:=nZ (xs:=ts) (i:=J-1+n) O (d2%4294967296);have bq:A1 (ts.set (J-1+n) (d2%4294967296))=la+1:=by simp[ct]
  have av:BD (ts.set (J-1+n) (d2%4294967296)):=mK bn _ O;have ci:∀k,J-1+n+1<=k->A0 (ts.set (J-1+n) (d2%4294967296)) k 0=0:=λk hk=>by rw[jY O,cu k O];exact cj k O
  generalize ts.set (J-1+n) (d2%4294967296)=ts2 at *;have ac:val ts2+4294967296^(J-1)*(x1*V)=val us+4294967296^(J-1+n+1)*(d2/2^63):=by
   rw[CT,CX];rw[CX] at cp be;exact kf be cp O
  have di:=dE av ci;refine wU (xH ?_);refine jD (ι:=Nat×List Nat) (λ(x2,rs)=>x2<4294967296/\A1 rs=la+1/\BD rs/\val rs+4294967296^(J-1)*(x2*V)=val us/\val (rs.drop (J-1))<V) (λ(x2,rs)=>[(4,M),(9,vI ↑s),(10,Z),(11,aj),(12,vI ↑n),(13,vI (↑J-1)),(15,vU .u64 x2)]) (λ(x2,rs)=>[.us 176 .u32 M (fK J qs),.us 176 .u32 Z rs]) (λ(x2,rs)=>h8) ?_ ?_
  ·
   refine wD (yM (mv I I (gv (fQ (k:=.u64) (s:=63) (yk:=.u64) I I I (by simp only[ub];omega)) I (gv (tX (k:=.u64) (q:=0) I I) I (wU (gQ (e':=[(4,_),(9,_),(10,_),(11,_),(12,_),(13,_),(15,_),(211,_)]) e8 (xH ?_)))))));refine Bq (λcf=>?_) λcf=>?_
   ·
    have ff:1<=x1:=Cu λh0=>by
     have ch:d2/2^63=1:=by omega
     rw[h0,ch,E2,FT,F9] at ac;omega
    refine wD (yM (mv I I (gv (lZ (k:=.u64) (q:=1) (W:=18446744073709551616) I I I I O O) I (BF I I (wU (xH (wD (yM (BF (v:=vU .u64 0) I I (wU (xH (wD (wD ?_)))))))))))));refine yM (mv I I (gv (uA underlying39 I C) I ?_));rw[aw];refine mv (v:=vI (0)) I I (wU (xH (fX ?_)));refine An (ι:=Nat×List Nat×Nat) (λ(i2,rs,c2)=>(i2<=n/\A1 rs=la+1/\BD rs/\c2<=1/\val rs+4294967296^(J-1+i2)*c2=val ts2+4294967296^(J-1)*val (vs.take i2)/\∀k,J-1+i2<=k->A0 rs k 0=A0 ts2 k 0,[(4,M),(9,vI ↑s),(10,Z),(11,aj),(12,vI ↑n),(13,vI (↑J-1)),(15,vU .u64 (x1-1)),(18,vU .u64 c2),(214,aj),(215,vI ↑n),(216,vI ↑i2)],[.us 176 .u32 M (fK J qs),.us 176 .u32 Z rs],h8,n-i2)) (0,ts2,0) ?_ ?_
    · exact⟨A3,bq,av,A3,by simp[val],λ_ _=>I⟩
    rintro⟨i2,rs,c2⟩ ⟨BA,bi,ax,gm,bh,cw⟩
    refine yO ?_;refine wD (yM (gv (yW I I) I (wU (xH (wD ?_)))));refine Bq (λce=>?_) λce=>?_
    ·
     refine pT (xH (wD (fX (wD (yM (mv I I (gv (yB _ underlying39 sizeOf176 I I C I O) I (gv (wN isAgg176 I C O) I ?_))))))));have ea:=C.get32 i2;refine BF I I (BF I I (wU (xH (wD (yM (mv I I (mv I I (mv I I (mv I I (gv (yF I I O O) I (gv (xM (A:=[_]) (J-1+i2) underlying39 sizeOf176 I I O O) I (gv (tB (A:=[_]) isAgg176 I O) I ?_))))))))))));have bx:=jF ax (J-1+i2);refine gv (vY (k:=.u32) (k':=.u64) (W:=18446744073709551616) underlying176 underlying169 I I I O) I (mv I I (gv (vY (k:=.u32) (k':=.u64) (W:=18446744073709551616) underlying176 underlying169 I I I O) I (gv (tZ (k:=.u64) (W:=18446744073709551616) I I I I O) I (gv (tZ (k:=.u64) (W:=18446744073709551616) I I I I O) I (BF I I (wU (gQ (e':=[(4,_),(9,_),(10,_),(11,_),(12,_),(13,_),(15,_),(214,_),(215,_),(216,_),(23,_),(18,_)]) JP (xH (wD (yM (mv I I (mv I I (mv I I ?_)))))))))))));refine gv (yF I I O O) I (mv I I (gv (tI (k:=.u64) (k':=.u32) (W:=4294967296) underlying169 underlying176 I I I) I (gv (xM (A:=[_]) (J-1+i2) underlying39 sizeOf176 I I O O) I (pL sizeOf176 I I O (wU (xH (yM (mv I I (gv (fQ (k:=.u64) (s:=32) (yk:=.u64) I I I (by simp only[ub];omega)) I (BF I I (wU (Gn (gQ (e':=[(4,_),(9,_),(10,_),(11,_),(12,_),(13,_),(15,_),(214,_),(215,_),(216,_),(18,_)]) ⟨I,I,I,I,I,I,I,I,I,I,I,AW⟩ ?_)))))))))))));refine xH (yM (gv (yF (q:=1) I I O O) I (mv I I (wU ?_))));generalize hX:A0 rs (J-1+i2) 0=X at *;generalize hY:vs.getD i2 0=Y at *;refine Ad (i2+1,rs.set (J-1+i2) ((c2+(X+Y))%4294967296),(c2+(X+Y))/2^32) ?_ ?_
     ·
      refine⟨A3,by simp[bi],mK ax _ O,A3,?_,λk hk=>?_⟩
      · have h1:=nZ (xs:=rs) (i:=J-1+i2) O ((c2+(X+Y))%4294967296)
        rw[hX] at h1;rw[uZ vs i2 O,hY,<-FP (J-1),CT,CX];rw[CX] at h1 bh;exact oa bh h1 O
      · rw[jY O];exact cw k O
     omega
    refine mJ (rT (rT (mI (xH (yM (mv I I (mv I I (mv I I (gv (yF I I O O) I (gv (xM (A:=[_]) (J-1+n) underlying39 sizeOf176 I I O O) I (gv (tB (A:=[_]) isAgg176 I O) I (mv I I (gv (tI (k:=.u64) (k':=.u32) (W:=4294967296) underlying169 underlying176 I I I) I ?_)))))))))))));have bx:=jF ax (J-1+n);refine gv (si (k:=.u32) (W:=4294967296) I I I I) I (gv (xM (A:=[_]) (J-1+n) underlying39 sizeOf176 I I O O) I (pL sizeOf176 I I O (wU ?_)));generalize hX:A0 rs (J-1+n) 0=X at *;refine zV (x1-1,rs.set (J-1+n) ((X+c2%4294967296)%4294967296)) ?_ e7 I I;have dk:i2=n:=by omega
    rw[dk,wR O,ba] at bh;have h1:=nZ (xs:=rs) (i:=J-1+n) O ((X+c2%4294967296)%4294967296);rw[hX] at h1;have bf:BD (rs.set (J-1+n) ((X+c2%4294967296)%4294967296)):=mK ax _ O;have dz:∀k,J-1+n+1<=k->A0 (rs.set (J-1+n) ((X+c2%4294967296)%4294967296)) k 0=0:=λk hk=>by
     rw[jY O,cw k O];exact ci k hk
    have ho:val (rs.set (J-1+n) ((X+c2%4294967296)%4294967296))+4294967296^(J-1+n+1)*((X+c2)/4294967296)=val ts2+4294967296^(J-1)*V:=by
     rw[CT,CX];rw[CX] at h1 bh;exact jn bh h1 O
    obtain⟨z1,z2,z3⟩:=sc ab bf di (dE bf dz) (b:=d2/2^63) O ac cl ho O;exact⟨A3,by simp[bi],bf,z2,z3⟩
   refine pT ?_;refine zV (x1,ts2) ?_ e7 I I;have dw:d2/2^63=0:=by omega
   rw[dw,FT,Cq] at ac;exact⟨cn,bq,av,ac,Vt ab av ac ck⟩
  rintro⟨x2,rs⟩ ⟨cm,bi,ax,ei,cy⟩
  refine yO ?_;refine yM (mv I I (mv I I (mv I I (gv (vY (k:=.u64) (k':=.u32) (W:=4294967296) underlying169 underlying176 I I I O) I (gv (xM (A:=[]) (J-1) underlying39 sizeOf176 I I O (by rw[jT];omega)) I (vS sizeOf176 I I (by rw[jT];omega) (wU (Gn (xH (yM (mv I I (gv (jA (q:=1) I I O O) I (BF I I ?_)))))))))))));refine wU ?_;refine qL (J-1,rs,x2::qs) ?_ ?_ ⟨I,I,I,I,I,?_,AW⟩ ?_ I
  ·
   refine⟨A3,by simp only[lC];omega,pM.2 ⟨cm,dr⟩,bi,ax,?_,cy⟩;have eJ:(4294967296:Nat)^J=4294967296^(J-1)*4294967296:=by rw[<-CT,Nat.succ_eq_add_one,GS hJ]
   rw[eJ] at aq;exact tv aq ei
  ·
   dsimp only;omega
  · exact AV (AJ vI O)
  try dsimp only[List.nil_append,List.cons_append]
  rw[nJ O]
 refine mJ (rT (rT (mI (xH (wD ?_)))));have fa:J=0:=by omega
 subst fa;rw[aM];rw[Ha] at cb;rw[OR,IS] at aq;have el:A1 (zB (val us))<=A1 us:=uU ab;refine yM (mv I I ?_);refine Ue (R:=λh r=>r=tA 1 Z 0 (A1 (zB (val us)))/\Us .u32 h r (zB (val us))) (vs:=[_]) I I I I call213 ⟨I,AW⟩ (λw hw=>jX (MLe.refl _) (hw.own_us (A:=[_]) ab)) ?_
 rintro fd ⟨_,dy,_⟩
 subst dy;refine va (A:=[_]) (A1 (zB (val us))) el ?_;rw[Xy ab];generalize tA 1 Z 0 (A1 (zB (val us)))=vr;have ay:=wY (val us);have ez:=zF (val us);generalize zB (val us)=Rs at *;refine BF I I (wU (xH (wD (wD (yM (mv I I (gv (sZ (A:=[_]) underlying39 I) I (mv (v:=vI (0)) I I (wU (xH (fX ?_)))))))))));refine gB (ι:=Nat) (λ(k:(Nat))=>k<=A1 Rs) (λ(k:(Nat))=>[(4,M),(5,vr),(9,vI ↑s),(261,vI ↑(A1 Rs)),(262,vI ↑k)]) (λ(k:(Nat))=>[.us 176 .u32 M qs,.us 176 .u32 vr (EC s Rs k)]) (λ(k:(Nat))=>h8) (λ(k:(Nat))=>A1 Rs-k) 0 ?_ e5 ?_ I ?_
 · exact Ci _
 ·
  try dsimp only[List.nil_append,List.cons_append]
  exact AJ (λz=>[AG.us 176 .u32 M qs,AG.us 176 .u32 vr z]) (kg s Rs)
 rintro k hk
 refine yO ?_;refine wD (yM (gv (yW I I) I (wU (xH (wD ?_)))));refine Bq (λcd=>?_) λcd=>?_
 ·
  refine pT (xH ?_);refine jD (ι:=Unit) (λ(_u:(Unit))=>True) (λ(_u:(Unit))=>[(4,M),(5,vr),(9,vI ↑s),(261,vI ↑(A1 Rs)),(262,vI ↑k)]) (λ(_u:(Unit))=>[.us 176 .u32 M qs,.us 176 .u32 vr (EC s Rs (k+1))]) (λ(_u:(Unit))=>h8) ?_ ?_
  ·
   refine fX (wD (yM (mv I I (BF I I (wU (xH (wD (yM (mv I I (mv I I (gv (xM (A:=[_]) (k) underlying39 sizeOf176 I I O (by rw[tU O];omega)) I (gv (tB (A:=[_]) isAgg176 I (by rw[tU O];omega)) I ?_))))))))))));rw[Uv (B1 _)];have ep:=jF ay k;refine mv I I (gv (fQ (k:=.u32) (s:=s) (yk:=.i64) I I I (by simp only[ub];omega)) I ?_);have gc:A0 Rs k 0/2^s<4294967296:=Mj (E1 _ _) ep;refine gv (xM (A:=[_]) (k) underlying39 sizeOf176 I I O (by rw[tU O];omega)) I (pL sizeOf176 I I (by rw[tU O];omega) (wU (xH (wD (yM (mv I I (gv (Mb (q:=0) I I) I ?_)))))));refine gU 7 280 (vB (((0:Int)<↑s)/\((↑k:Int)+1<↑(A1 Rs)))) ?_ ?_
   ·
    refine zY ((0:Int)<↑s) (λhg=>?_) (λhg=>?_)
    ·
     refine gT hg I (JD I I I (mv I I (JD I I I (gv (yF (q:=1) I I O O) I (JD I I I (mv I I (JD I I I (gv (sZ (A:=[_]) underlying39 I) I ?_))))))));rw[lS,tU O];refine JD I I I (gv (yW I I) I (gv (lI I I) I (wU (Ay ?_))));exact AV (xE hg)
    refine gF hg I (J3 I I I I I I (J3 I I I I I I (J3 I I I I I I (J3 I I I I I I (J3 I I I I I I (gv (oA I I) I (wU (Ay ?_))))))));exact AV (xG hg)
   refine wU (xH ?_);refine Bq (λcc=>?_) λcc=>?_
   ·
    refine zG 14 _ [] (Ah 0 14 [(14,.t)]) zX nX Ac nX (λr hr=>hr) (lV I I I (lV I I I (B3 I (λh' L' hh hR=>jS (hR _ Ax) (k) underlying39 sizeOf176 I I O (by rw[lS,tU O];omega)) I (B3 I (λh' L' hh hR=>gY (hR _ Ax) isAgg176 I (by rw[lS,tU O];omega)) I ?_))));rw[n3 (by rw[tU O];omega)];refine lV I I I (lV I I I (wK I (λ_ _=>yF (q:=1) I I O O) I (B3 I (λh' L' hh hR=>jS (hR _ Ax) (k+1) underlying39 sizeOf176 I I O (by rw[lS,tU O];omega)) I (B3 I (λh' L' hh hR=>gY (hR _ Ax) isAgg176 I (by rw[lS,tU O];omega)) I ?_))));rw[jY O,Uv O];refine lV I I I (wK I (λ_ _=>jA (p:=32) I I O O) I ?_);rw[show((32:Int)-↑s)=↑(32-s) by omega];refine wK I (λ_ _=>fR (k:=.u32) (s:=32-s) (yk:=.i64) (W:=4294967296) I I I I) I (wK I (λ_ _=>pR (k:=.u32) I I I (by simp only[ub];omega) (by simp only[ub];omega)) I ?_);rw[fA ay O O];refine B3 I (λh' L' hh hR=>jS (hR _ Ax) (k) underlying39 sizeOf176 I I O (by rw[lS,tU O];omega)) I (tC (A:=[_]) I (bT sizeOf176 I I (by rw[lS,tU O];omega)) I (Ic (Gn ?_)));refine zV (()) ?_ e5 ?_ I
    · trivial
    try dsimp only[List.nil_append,List.cons_append]
    rw[List.set_set,XQ O];try rfl
   refine pT (Gn ?_);have ca:A0 Rs k 0/2^s=dH s Rs k:=by
    by_cases h0:s=0
    · rw[h0,ox ay O,OR,Ek]
    · exact(qa ay O).symm
   refine zV (()) ?_ e5 ?_ I
   · trivial
   try dsimp only[List.nil_append,List.cons_append]
   rw[ca,XQ O]
  rintro _u fk
  refine yO ?_;refine yM (gv (yF (q:=1) I I O O) I (mv I I (wU ?_)));refine qL (k+1) ?_ ?_ e5 I I
  · omega
  omega
 refine mJ (rT (rT (mI (xH (wD (yM (mv I I (yR (by exact dr) ?_))))))));intro h9 gh hq;refine cL (AU I) call213 (λw hs=>jX hs hq) λfc gu fj aa=>?_;replace aa:=aa.2;refine mv I I (yR (by exact lw ay) ?_);intro gt dp ej;refine cL (AU I) call213 (λw hs=>jX hs ej) λfb gs dn ad=>?_;replace ad:=ad.2;refine BF I I (BF I I (BF (v:=vI (0)) I I (wU (xH (LJ (jC I I I I ?_))))));replace aa:=aa.mono (dp.trans dn);have em:k=A1 Rs:=by omega
 rw[em,jf ay,ez] at ad;obtain⟨e1,e2⟩:=Zs (X:=val xs) (Y:=val ys) (s:=s) (u:=val us) (q:=val qs) O (by rw[<-hV,<-hU];exact aq) (by rw[<-hV];exact cb);rw[e1] at aa;rw[e2] at ad;rw[A8 az,A8 az];exact⟨_,_,I,aa,ad⟩
theorem tW{v:A2}{xs:List Nat}(hv:Us .u32 h0 v xs)(hl:A1 xs<=17592186044416):
 Ae 203 #[v] w0 h0 (λh r=>Us .u32 h r (zB (val xs))):=by
 refine BI 23 v func203 hs ?_;refine fJ ?_;refine An (ι:=Nat) (λ(k:(Nat))=>(k<=A1 xs/\∀i,k<=i->A0 xs i 0=0,[(0,v),(3,vI ↑k)],[],h0,k)) (A1 xs) ?_ ?_
 · exact⟨B1 _,λi hi=>by rw[Au,F0 hi];rfl⟩
 rintro k ⟨hk,hz⟩
 refine yO ?_;refine AR ?_;refine gU 8 15 (vB (((0:Int)<↑k)/\(A0 xs (k-1) 0=0))) ?_ ?_
 ·
  refine zY ((0:Int)<↑k) (λM=>?_) (λM=>?_)
  ·
   refine gT M I (Af ?_);refine gv (yB (k-1) underlying39 sizeOf176 I I hv O O) I (AN ?_);refine gv (fS (k:=.u32) (q:=0) I I) I (A5 ?_);refine Ay ?_;exact AV (xE M)
  refine gF M I (AX ?_);refine Ay ?_;exact AV (xG M)
 refine BB (λC=>?_) λC=>?_
 ·
  refine Ak ?_;refine Ad (k-1) ?_ ?_ (he:=⟨I,?_,AW⟩)
  ·
   exact⟨A3,λi hi=>by
    by_cases e:i=k-1
    · rw[e];exact C.2
    · exact hz i O⟩
  · have:=C.1;omega
  · exact AV (AJ vI (by have:=C.1;omega))
 refine Af ?_;refine zE (UK (kd:=.u32) underlying39 uW I I) I I I ?_;intro aa ac J;obtain rfl:=J;refine A5 ?_;refine gv (T9 _ underlying39 sizeOf176 I I hv.shape I O) I ?_;have D:=hv.sub (lo:=0) (hi:=_) O O;refine yY (A:=[]) (gD (kd:=.u32) (bytes:=4) underlying39 uW I I I I I D Gl Gl) I I I ?_;intro Z ab H;obtain rfl:=H;rw[Fg,Ha,H3];refine yR (by exact fY hv.lt k) ?_;intro h1 U ho;refine AF ?_;refine zC I I ?_;replace hv:=hv.mono U;have e:xs.take k=zB (val xs):=Yf hv.lt hk hz (by
  by_cases h0:k=0
  · exact .inl h0
  · exact .inr λh1=>C ⟨A3,h1⟩)
 rw[<-e];exact ho
theorem fd{v v':A2}{xs ys:List Nat}(hv:Us .u32 h0 v xs)(hv':Us .u32 h0 v' ys)(hl:A1 xs<=1099511627776)(hl':A1 ys<=1099511627776):
 Ae 210 #[v,v'] w0 h0 (λh r=>Us .u32 h r (zB (Nat.gcd (val xs) (val ys)))):=by
 have bz:=uU hv.lt;have bx:=uU hv'.lt;obtain⟨G,hG⟩:∃G,G=Nat.gcd (val xs) (val ys):=⟨_,I⟩;rw[<-hG];refine B0 61 v v' func210 hs ?_;refine AX ?_;refine cL (AU I) call213 (λw hs=>jX hs hv) λbu h1 bh aa=>?_;replace aa:=aa.2;refine uS (vs:=[_]) I I I I call176 ⟨I,AW⟩ (λw hs=>lY hs aa O) ?_;intro au h2 ci bg ak;obtain rfl:=ak;refine yR (by exact wY _) ?_;intro h3 bf bk;refine A7 ?_;replace hv':=hv'.mono ((bh.trans bg).trans bf);refine cL (AU I) call213 (λw hs=>jX hs hv') λbt h4 cg Z=>?_;replace Z:=Z.2;refine uS (vs:=[_]) I I I I call176 ⟨I,AW⟩ (λw hs=>lY hs Z O) ?_;intro ar h5 ch cf aj;obtain rfl:=aj;refine yR (by exact wY _) ?_;intro h6 ce bj;refine AZ ?_;refine An (ι:=A2×Nat×A2×Nat×A4) (λ(vx,X,vy,Y,k1)=>(MLe h6 k1/\(Us .u32 k1 vx (zB X)/\Us .u32 k1 vy (zB Y)/\Nat.gcd X Y=G/\A1 (zB X)<=1099511627776/\A1 (zB Y)<=1099511627776),[(5,vx),(6,vy)],[],k1,Y)) (au,val xs,ar,val ys,h6) ?_ ?_
 · exact⟨AM,bk.up,bj,hG.symm,A3,A3⟩
 rintro⟨vx,X,vy,Y,k1⟩ ⟨bn,⟨ha,hb,hg,cb,be⟩⟩
 refine yO ?_;refine DU (λaq=>?_) λaq=>?_
 ·
  refine Af ?_;have H:Y≠0:=yJ.1 O;refine cL (AK I I) call211 (λw hs=>M6 hs ha hb O O) λbs h7 ab D=>?_;obtain⟨bw,aw,rfl,an,D⟩:=D;simp only[zF] at an D;rw[A8 H] at D;have bd:=yL (Ib (BQ X (Cu H)));refine y7 ?_;refine Ad (vy,Y,aw,X%Y,h7) ?_ ?_
  · exact⟨AM,hb.up,D,by rw[oL];exact hg,be,A3⟩
  exact BQ _ (Cu H)
 refine tQ ?_;refine Bq (λap=>?_) λap=>?_
 ·
  have H:Y=0:=C7 λbb=>by have:=yJ.2 bb;omega
  refine AX ?_;refine zC I I ?_;rw[H,Kc] at hg;rw[<-hg];exact ha
 have H:Y≠0:=yJ.1 O;refine A5 ?_;refine jD (ι:=A2×Nat×A2×Nat×A4) (λ(U,X2,M,Y2,k2)=>MLe k1 k2/\(Us .u32 k2 U (zB X2)/\Us .u32 k2 M (zB Y2)/\Nat.gcd X2 Y2=G/\A1 (zB X2)<=2/\A1 (zB Y2)<=2)) (λ(U,X2,M,Y2,k2)=>[(5,U),(6,M)]) (λ(U,X2,M,Y2,k2)=>[]) (λ(U,X2,M,Y2,k2)=>k2) ?_ ?_
 ·
  refine DV (λao=>?_) λao=>?_
  ·
   refine AF ?_;refine cL (AK I I) call211 (λw hs=>M6 hs ha hb O O) λbr h7 ab C=>?_;obtain⟨bv,av,rfl,am,C⟩:=C;simp only[zF] at am C;rw[A8 H] at C;have bd:=yL (Ib (BQ X (Cu H)));refine rX ?_;refine zV (vy,Y,av,X%Y,h7) ?_ Al I I;refine⟨ab,?_⟩;replace hb:=hb.mono ab;exact⟨hb,C,by rw[oL];exact hg,A3,A3⟩
  refine A7 ?_;refine zV (vx,X,vy,Y,k1) ?_ Al I I;refine⟨MLe.refl _,?_⟩;exact⟨ha,hb,hg,A3,A3⟩
 rintro⟨U,X2,M,Y2,k2⟩ ⟨bm,⟨bl,ad,bi,ay,ax⟩⟩
 refine yO ?_;refine AN ?_;refine cL (AU I) call247 (λw hs=>U4 hs bl O) λbq h7 ab ai=>?_;subst ai;rw[zF];have ba:=mF ay;refine A7 ?_;replace ad:=ad.mono ab;refine cL (AU I) call247 (λw hs=>U4 hs ad O) λbp h8 cd ah=>?_;subst ah;rw[zF];have az:=mF ax;refine AZ ?_;refine An (ι:=Nat×Nat) (λ(m,n)=>(Nat.gcd m n=G/\m<18446744073709551616/\n<18446744073709551616,[(13,vU .u64 m),(14,vU .u64 n)],[],h8,n)) (X2,Y2) ?_ ?_
 · exact⟨bi,ba,az⟩
 rintro⟨m,n⟩ ⟨ac,hm,hn⟩
 refine yO ?_;refine AF ?_;refine gv (tX (k:=.u64) (q:=0) I I) I (BB (λJ=>?_) λJ=>?_)
 ·
  refine AN ?_;refine zG 6 _ [] (Ah 0 6 []) zX nX Ac nX (λr hr=>hr) (AN ?_);refine wK I (λ_ _=>cT (k:=.u64) I I O) I (AF ?_);refine Ad (n,m%n) ?_ ?_
  ·
   have ca:=BQ m (Cu J);exact⟨by rw[oL];exact ac,hn,A3⟩
  exact BQ _ (Cu J)
 refine AX ?_;refine cL (AU I) call217 (λw hs=>E9 hs O) λbo h9 cc ae=>(AF ?_);refine zC I I ?_;have bc:n=0:=Br J;rw[bc,Kc] at ac;rw[<-ac];exact ae
theorem Il{n:Nat}(hn:n<18446744073709551616):
 Ae 165 #[vU .u64 n] w0 h0 (λh r=>Us .u32 h r (zB n)):=by
 refine BI 10 (vU .u64 n) func165 hs ?_;refine uF ?_;refine zE (W0 (kd:=.u32) underlying39 uW I I I I) I I I ?_;intro Z r8 D;obtain rfl:=D;refine yR (by intro x hx;simp only[BY,Bv,or_false] at hx;simp only[ub];omega) ?_;intro h1 J M;refine cL (AU I) call203 (λw hs=>tW hs M B9) λU h2 H C=>(AF ?_);refine zC I I ?_;have e:val [n%4294967296,n/2^32%4294967296]=n:=by simp only[val];omega
 rw[e] at C;exact C
theorem eH{v v':A2}{X Y:Nat}(hv:Us .u32 h0 v (zB X))(hv':Us .u32 h0 v' (zB Y)):
 Ae 112 #[v,v'] w0 h0 (λ_ r=>r=vI (cD X Y)):=by
 have vA:=zF X;have D:=zF Y;generalize hA:zB X=AA at *;generalize hB:zB Y=BB at *;have fA:BD AA:=hv.lt;have fB:BD BB:=hv'.lt;have lA:=hv.lt63;have lB:=hv'.lt63;refine B0 41 v v' func112 hs ?_;refine uG ?_;refine gv (uA underlying39 I hv') I (B4 (λZ=>?_) λZ=>?_)
 ·
  refine AZ ?_;refine gv (uA underlying39 I hv') I (B4 (λU=>?_) λU=>?_)
  ·
   refine AX ?_;refine zC I I ?_;rw[Lv (pS (by rw[hA,hB];omega))]
  refine Ak ?_;refine zC I I ?_;rw[LL (pS (by rw[hA,hB];omega))]
 have hl:A1 AA=A1 BB:=by omega
 refine uF ?_;refine An (ι:=Nat) (λ(j:(Nat))=>(j<=A1 AA/\AA.drop j=BB.drop j,[(0,v),(1,v'),(5,vI (↑j-1))],[],h0,j)) (A1 AA) ?_ ?_
 · exact⟨B1 _,by rw[EB (B1 _),EB O]⟩
 rintro j ⟨hj,H⟩
 refine yO ?_;refine DV (λM=>?_) λM=>?_
 ·
  refine AZ ?_;refine zG 9 _ [] (Ah 0 9 []) zX nX Ac nX (λr hr=>hr) (A5 ?_);refine B3 I (λh' L' hh hR=>yB (j-1) underlying39 sizeOf176 I I (hv.mono hh) O O) I (B3 I (λh' L' hh hR=>wN isAgg176 I (hv.mono hh) O) I (A5 ?_));refine B3 I (λh' L' hh hR=>yB (j-1) underlying39 sizeOf176 I I (hv'.mono hh) O O) I (B3 I (λh' L' hh hR=>wN isAgg176 I (hv'.mono hh) O) I (B4 (λC=>?_) λC=>?_))
  ·
   refine uF ?_;refine zC I I ?_;rw[<-vA,<-D,Lv (O7 fA hl O hj H C)]
  refine AN ?_;refine zG 9 _ [] (Ah 0 9 []) zX nX Ac nX (λr hr=>hr) (A5 ?_);refine B3 I (λh' L' hh hR=>yB (j-1) underlying39 sizeOf176 I I (hv.mono hh) O O) I (B3 I (λh' L' hh hR=>wN isAgg176 I (hv.mono hh) O) I (A5 ?_));refine B3 I (λh' L' hh hR=>yB (j-1) underlying39 sizeOf176 I I (hv'.mono hh) O O) I (B3 I (λh' L' hh hR=>wN isAgg176 I (hv'.mono hh) O) I (B4 (λJ=>?_) λJ=>?_))
  ·
   refine uG ?_;refine zC I I ?_;rw[<-vA,<-D,LL (O7 fB hl.symm O O H.symm O)]
  refine AX ?_;refine Ad (j-1) ?_ ?_ (he:=⟨I,I,?_,AW⟩)
  ·
   refine⟨A3,?_⟩;rw[tR AA (j-1) O,tR BB (j-1) O];have e:j-1+1=j:=by omega
   rw[e,H,Br (show ¬¬A0 AA (j-1) 0=A0 BB (j-1) 0 by omega)]
  · omega
  · exact AV (AJ vI O)
 refine uG ?_;refine zC I I ?_;have h0:j=0:=by omega
 subst h0;simp only[Ha] at H;rw[<-vA,<-D,H,YQ]
theorem sf{v:A2}{X:Nat}(hv:Us .u32 h0 v (zB X))(hl:A1 (zB X)<=1099511627776):
 Ae 242 #[v] w0 h0 (λ_ r=>r=vI ↑(uO X)):=by
 refine BI 25 v func242 hs ?_;refine tQ ?_;refine Bq (λZ=>?_) λZ=>?_
 ·
  refine Af ?_;refine zC I I ?_;have h0:X=0:=C7 λU=>by have:=yJ.2 U;omega
  rw[h0];rfl
 have H:0<A1 (zB X):=by omega
 have hb:=Qq (wY X) (k:=A1 (zB X)-1) O (rS H);rw[zF] at hb;refine Af ?_;refine gv (gM (p:=32) I I O O) I (vV ?_);refine gv (yB (A1 (zB X)-1) underlying39 sizeOf176 I I hv O O) I (A7 ?_);have D:=hv.get32 (A1 (zB X)-1);refine AF ?_;refine An (ι:=Nat×Nat) (λ(c,x)=>(x<4294967296/\uO (A0 (zB X) (A1 (zB X)-1) 0)=c+uO x/\c<=32,[(3,vI (32*(↑(A1 (zB X))-1)+↑c)),(4,vU .u32 x)],[],h0,x)) (0,A0 (zB X) (A1 (zB X)-1) 0) ?_ ?_ (he:=⟨AV (AJ vI O),I,AW⟩)
 · exact⟨D,A3,A3⟩
 rintro⟨c,x⟩ ⟨hx,J,aa⟩
 refine yO ?_;have ab:=nO (n:=A0 (zB X) (A1 (zB X)-1) 0) (k:=32) D;refine AF ?_;refine gv (tX (k:=.u32) (q:=0) I I) I (BB (λC=>?_) λC=>?_)
 ·
  refine tQ ?_;refine gv (fQ (k:=.u32) (s:=1) (yk:=.u64) I I I (by simp only[ub];omega)) I (A5 ?_);refine Ad (c+1,x/2^1) ?_ ?_ (he:=⟨AV (AJ vI O),I,AW⟩)
  ·
   have h1:=ni C;exact⟨A3,by rw[J,h1,show x/2^1=x/2 from I];omega,A3⟩
  omega
 refine uF ?_;refine zC I I ?_;have M:x=0:=Br C;rw[M,rp] at J;exact AJ vI O
theorem vd{v v':A2}{X Y:Nat}(hv:Us .u32 h0 v (zB X))(hv':Us .u32 h0 v' (zB Y))(hl:A1 (zB X)<=1099511627776)(hl':A1 (zB Y)<=1099511627776):
 Ae 147 #[v,v'] w0 h0 (λh r=>Us .u32 h r (zB (X+Y))):=by
 have az:=yL (Nat.le_add_right X Y);have ay:=yL (Nat.le_add_left Y X);have ax:=gE X Y;refine B0 54 v v' func147 hs ?_;refine Af ?_;refine mQ (rN (v:=.slice none 0 0) I) I I I (t7 (E:=176) (k:=.u32) (AF ?_));refine BF (v:=vU .u64 0) I I (Ak ?_);refine An (ι:=A2×List Nat×Nat×A4) (λ(Z,C,c,k1)=>(MLe h0 k1/\(A1 C<=A1 (zB (X+Y))/\BD C/\c<=1/\val C+4294967296^A1 C*c=val ((zB X).take (A1 C))+val ((zB Y).take (A1 C))),[(0,v),(1,v'),(5,Z),(6,vU .u64 c),(7,vI ↑(A1 C))],[.us 176 .u32 Z C],k1,A1 (zB (X+Y))-A1 C)) (.slice none 0 0,[],0,h0) ?_ ?_
 · exact⟨AM,B9,λx hx=>by simp at hx,A3,by simp[val]⟩
 rintro⟨Z,C,c,k1⟩ ⟨H,⟨ak,aa,ba,U⟩⟩
 refine yO ?_;replace hv:=hv.mono H;replace hv':=hv'.mono H;have aw:=hv.get32 (A1 C);have av:=hv'.get32 (A1 C);refine Af ?_;refine gU 6 17 (vB (((↑(A1 C):Int)<↑(A1 (zB X)))\/((↑(A1 C):Int)<↑(A1 (zB Y))))) ?_ ?_
 ·
  refine zY ((↑(A1 C):Int)<↑(A1 (zB X))) (λJ=>?_) (λJ=>?_)
  ·
   refine gT J I (AZ ?_);refine Ay ?_;exact AV (vN J)
  refine gF J I (AR ?_);refine gv (uA underlying39 I hv') I (AF ?_);refine Ay ?_;exact AV (vO J)
 refine gU 4 21 (vB (((↑(A1 C):Int)<↑(A1 (zB X))\/(↑(A1 C):Int)<↑(A1 (zB Y)))\/(c≠0))) ?_ ?_
 ·
  refine zY ((↑(A1 C):Int)<↑(A1 (zB X))\/(↑(A1 C):Int)<↑(A1 (zB Y))) (λJ=>?_) (λJ=>?_)
  ·
   refine gT J I (AF ?_);refine Ay ?_;exact AV (vN J)
  refine gF J I (AN ?_);refine gv (tX (k:=.u64) (q:=0) I I) I (A5 ?_);refine Ay ?_;exact AV (vO J)
 refine BB (λD=>?_) λD=>?_
 ·
  refine AF ?_;refine jD (ι:=Unit) (λ(M:(Unit))=>True) (λ(M:(Unit))=>[(0,v),(1,v'),(5,Z),(6,vU .u64 (c+A0 (zB X) (A1 C) 0)),(7,vI ↑(A1 C))]) (λ(M:(Unit))=>[.us 176 .u32 Z C]) (λ(M:(Unit))=>k1) ?_ ?_
  ·
   refine DU (λai=>?_) λai=>?_
   ·
    refine AF ?_;refine gv (yB (A1 C) underlying39 sizeOf176 I I hv O O) I (AR ?_);refine zV (()) ?_ e5 I I
    trivial
   refine A7 ?_;refine zV (()) ?_ ⟨I,I,I,?_,I,AW⟩ I I
   · trivial
   · exact AV (AJ (vU .u64) (by rw[rH (xs:=zB X) O];omega))
  rintro M ae
  refine yO ?_;refine jD (ι:=Unit) (λ(M:(Unit))=>True) (λ(M:(Unit))=>[(0,v),(1,v'),(5,Z),(6,vU .u64 (c+A0 (zB X) (A1 C) 0+A0 (zB Y) (A1 C) 0)),(7,vI ↑(A1 C))]) (λ(M:(Unit))=>[.us 176 .u32 Z C]) (λ(M:(Unit))=>k1) ?_ ?_
  ·
   refine AF ?_;refine gv (uA underlying39 I hv') I (B4 (λah=>?_) λah=>?_)
   ·
    refine AF ?_;refine gv (yB (A1 C) underlying39 sizeOf176 I I hv' O O) I (gv (wN isAgg176 I hv' O) I (AF ?_));refine zV (()) ?_ e5 I I
    trivial
   refine A7 ?_;refine zV (()) ?_ ⟨I,I,I,?_,I,AW⟩ I I
   · trivial
   · exact AV (AJ (vU .u64) (by rw[rH (xs:=zB Y) O];omega))
  rintro M ae
  refine yO ?_;refine AR ?_;refine zE (tN (kd:=.u32) underlying39 uW I I I) I I I ?_;intro aq au ac;obtain rfl:=ac;refine yR (by intro z hz;simp only[DP] at hz;subst hz;simp only[ub];omega) ?_;intro h1 ad an;refine yY (A:=[]) (gD (kd:=.u32) (bytes:=4) underlying39 uW I I I I I an KG KG) I I I ?_;intro aj ar ab;obtain rfl:=ab;refine rX ?_;generalize ap:A0 (zB X) (A1 C) 0=p at *;generalize ao:A0 (zB Y) (A1 C) 0=q at *;have am:A1 C<A1 (zB (X+Y)):=by
   rcases D with(h|h)|h
   · omega
   · omega
   · by_cases h1:A1 C<A1 (zB X)
     · omega
     · by_cases h2:A1 C<A1 (zB Y)
       · omega
       · rw[wR O,wR O,zF,zF] at U
         refine Yb ?_;have:=Nat.le_mul_of_pos_right (4294967296^A1 C) (Cu h);omega
  refine Ad (aj,C++[(c+p+q)%4294967296],(c+p+q)/2^32,h1) ?_ ?_ (he:=⟨I,I,I,I,AV (AJ vI B9),AW⟩)
  ·
   refine⟨(H.trans ad),?_⟩;refine⟨by simp;omega,uX aa (aZ O),A3,?_⟩;rw[BJ,E5,uP,uP,ap,ao,rZ,CT];have e:=Gm (c+p+q) 4294967296;rw[show(2:Nat)^32=4294967296 from I];generalize (c+p+q)/4294967296=s at *;generalize (c+p+q)%4294967296=r at *;grind
  simp;omega
 refine AX ?_;refine yR (by exact aa) ?_;intro h1 ad ho;refine AF ?_;refine zC I I ?_;have h1:¬A1 C<A1 (zB X):=λh=>D (.inl (.inl O));have h2:¬A1 C<A1 (zB Y):=λh=>D (.inl (.inr O));have h3:c=0:=C7 λh=>D (.inr h);rw[wR O,wR O,zF,zF,h3] at U;have e:val C=X+Y:=by omega
 rw[<-e,Ta aa (by rw[e];exact ak)];exact ho
theorem S0{v v':A2}{X Y:Nat}(hv:Us .u32 h0 v (zB X))(hv':Us .u32 h0 v' (zB Y))(hle:Y<=X)(hl:A1 (zB X)<=1099511627776):
 Ae 206 #[v,v'] w0 h0 (λh r=>Us .u32 h r (zB (X-Y))):=by
 have an:=yL hle;refine B0 50 v v' func206 hs ?_;refine Ak ?_;refine jI (kd:=.u32) (by':=4) _ underlying39 uW I I I I I I I O O I ?_;intro D;refine AR ?_;refine BF (v:=vU .u64 0) I I (Ak ?_);refine gB (ι:=List Nat×Nat) (λ(C,c)=>A1 C<=A1 (zB X)/\BD C/\c<=1/\val C+val ((zB Y).take (A1 C))=val ((zB X).take (A1 C))+4294967296^A1 C*c) (λ(C,c)=>[(0,v),(1,v'),(5,D),(6,vU .u64 c),(7,vI ↑(A1 C))]) (λ(C,c)=>[.us 176 .u32 D (sM C (A1 (zB X)))]) (λ(C,c)=>h0) (λ(C,c)=>A1 (zB X)-A1 C) ([],0) ?_ e5 I I ?_
 · exact⟨B9,λx hx=>by simp at hx,A3,by simp[val]⟩
 rintro⟨C,c⟩ ⟨ak,J,au,M⟩
 refine yO ?_;have aj:=hv.get32 (A1 C);have ai:=hv'.get32 (A1 C);refine Bj (λaa=>?_) λaa=>?_
 ·
  refine vV ?_;refine jD (ι:=Unit) (λ(_u:(Unit))=>True) (λ(_u:(Unit))=>[(0,v),(1,v'),(5,D),(7,vI ↑(A1 C)),(8,vU .u64 (c+A0 (zB Y) (A1 C) 0))]) (λ(_u:(Unit))=>[.us 176 .u32 D (sM C (A1 (zB X)))]) (λ(_u:(Unit))=>h0) ?_ ?_
  ·
   refine AF ?_;refine gv (uA underlying39 I hv') I (B4 (λZ=>?_) λZ=>?_)
   ·
    refine AF ?_;refine gv (yB (A1 C) underlying39 sizeOf176 I I hv' O O) I (gv (wN isAgg176 I hv' O) I (AF ?_));refine zV (()) ?_ e5 I I
    trivial
   refine A7 ?_;refine zV (()) ?_ ⟨I,I,I,I,?_,AW⟩ I I
   · trivial
   · exact AV (AJ (vU .u64) (by rw[rH (xs:=zB Y) O];omega))
  rintro _u ae
  refine yO ?_;refine AF ?_;refine gv (yB (A1 C) underlying39 sizeOf176 I I hv O O) I (Af ?_);refine BF (v:=vU .u64 0) I I (A5 ?_);refine jD (ι:=Nat) (λ(d:(Nat))=>d<=1/\c+A0 (zB Y) (A1 C) 0<=A0 (zB X) (A1 C) 0+4294967296*d/\A0 (zB X) (A1 C) 0+4294967296*d<c+A0 (zB Y) (A1 C) 0+4294967296) (λ(d:(Nat))=>[(0,v),(1,v'),(5,D),(6,vU .u64 d),(7,vI ↑(A1 C)),(8,vU .u64 (c+A0 (zB Y) (A1 C) 0)),(9,vU .u64 (A0 (zB X) (A1 C) 0+4294967296*d))]) (λ(d:(Nat))=>[.us 176 .u32 D (sM C (A1 (zB X)))]) (λ(d:(Nat))=>h0) ?_ ?_
  ·
   refine DV (λU=>?_) λU=>?_
   ·
    refine AN ?_;refine gv (tZ (k:=.u64) (q:=4294967296) (W:=18446744073709551616) I I I I O) I (AF ?_);refine BF (v:=vU .u64 1) I I (A7 ?_);refine zV (1) ?_ e7 I I;exact⟨A3,A3,A3⟩
   refine A7 ?_;refine zV (0) ?_ e7 I I;exact⟨A3,A3,A3⟩
  rintro d ⟨ab,ar,aq⟩
  refine yO ?_;refine AR ?_;refine gv (lZ (k:=.u64) (W:=18446744073709551616) I I I I O O) I (gv (vY (k:=.u64) (k':=.u32) (W:=4294967296) underlying169 underlying176 I I I O) I (gv (xM (A:=[]) (A1 C) underlying39 sizeOf176 I I O (by rw[uQ O];omega)) I (vS sizeOf176 I I (by rw[uQ O];omega) (AX ?_))));generalize ad:A0 (zB X) (A1 C) 0=p at *;generalize ac:A0 (zB Y) (A1 C) 0=q at *;refine qL (C++[p+4294967296*d-(c+q)],d) ?_ ?_ ⟨I,I,I,I,?_,AW⟩ ?_ I
  ·
   refine⟨by simp;omega,uX J (aZ O),ab,?_⟩;rw[BJ,E5,uP,uP,ad,ac,rZ,CT];have e:p+4294967296*d-(c+q)+c+q=p+4294967296*d:=by omega
   generalize p+4294967296*d-(c+q)=r at *;grind
  ·
   dsimp only;simp;omega
  · exact AV (AJ vI B9)
  try dsimp only[List.nil_append,List.cons_append]
  rw[cC O]
 refine AX ?_;have hk:A1 C=A1 (zB X):=by omega
 rw[aL hk];refine yR (by exact J) ?_;intro h1 ap ho;refine cL (AU I) call203 (λw hs=>tW hs ho O) λah h2 ao H=>(AF ?_);refine zC I I ?_;have hk:A1 C=A1 (zB X):=by omega
 rw[wR O,wR O,zF,zF] at M;have h1:=gL J;have h2:c=0:=C7 λam=>by
  have:c=1:=by omega
  subst this;omega
 subst h2;have e:val C=X-Y:=by omega
 rw[e] at H;exact H
theorem ZV{v v':A2}{X Y:Nat}(hv:Us .u32 h0 v (zB X))(hv':Us .u32 h0 v' (zB Y))(hl:A1 (zB X)<=1099511627776):
 Ae 148 #[v,v'] w0 h0 (λh r=>∃u,r=.tuple #[u,vI (if X<Y then 7 else 0)]/\Us .u32 h u (zB (X-Y))):=by
 refine B0 13 v v' func148 hs ?_;refine uG ?_;refine cL (AK I I) call112 (λw hs=>eH hs hv hv') λv8 h1 J M=>?_;subst M;refine B4 (λC=>?_) λC=>?_
 ·
  have H:=pO.1 C;refine AX ?_;refine wS I I I ?_;rw[AC H,Nat.sub_eq_zero_of_le (Ib H),xT];exact⟨_,I,Us.nil _ _⟩
 have aa:Y<=X:=Jd λhc=>C (pO.2 hc);refine AZ ?_;replace hv:=hv.mono J;replace hv':=hv'.mono J;refine cL (AK I I) call206 (λw hs=>S0 hs hv hv' O O) λU h2 Z D=>(AR ?_);refine wS I I I ?_;rw[A8 O];exact⟨_,I,D⟩
theorem bU{v v':A2}{xs ys:List Nat}(hv:Us .u32 h0 v xs)(hv':Us .u32 h0 v' ys)(hl:A1 xs<=1099511627776)(hl':A1 ys<=1099511627776):
 Ae 144 #[v,v'] w0 h0 (λh r=>Us .u32 h r (zB (val xs*val ys))):=by
 have au:BD xs:=hv.lt;have ar:BD ys:=hv'.lt;refine B0 67 v v' func144 hs ?_;refine vV ?_;refine gv (uA underlying39 I hv') I (A7 ?_);refine jI (kd:=.u32) (by':=4) (A1 xs+A1 ys) underlying39 uW I I I I I O O O O I ?_;intro D;refine vV ?_;refine An (ι:=Nat×List Nat) (λ(k,H)=>(k<=A1 xs/\A1 H=A1 xs+A1 ys/\BD H/\val H=val (xs.take k)*val ys/\∀i,k+A1 ys<=i->A0 H i 0=0,[(0,v),(1,v'),(5,D),(6,vI ↑k)],[.us 176 .u32 D H],h0,A1 xs-k)) (0,List.replicate (A1 xs+A1 ys) 0) ?_ ?_
 · exact⟨Ci _,B9,kK _,by rw[bS];simp[val],λi _=>y9 _ _⟩
 rintro⟨k,H⟩ ⟨hk,ah,ac,Z,hz⟩
 refine yO ?_;refine Bj (λae=>?_) λae=>?_
 ·
  refine AZ ?_;refine BF (v:=vU .u64 0) I I (Ak ?_);refine An (ι:=Nat×List Nat×Nat) (λ(j,C,c)=>(j<=A1 ys/\A1 C=A1 xs+A1 ys/\BD C/\c<4294967296/\val C+4294967296^(k+j)*c=val H+4294967296^k*(A0 xs k 0*val (ys.take j))/\∀i,k+A1 ys<=i->A0 C i 0=0,[(0,v),(1,v'),(5,D),(6,vI ↑k),(7,vU .u64 c),(8,vI ↑j)],[.us 176 .u32 D C],h0,A1 ys-j)) (0,H,0) ?_ ?_
  · exact⟨Ci _,ah,ac,A3,by simp[val],hz⟩
  rintro⟨j,C,c⟩ ⟨hj,ab,U,ai,aa,M⟩
  refine yO ?_;have ao:=hv.get32 k;have an:=hv'.get32 j;have am:=jF U (k+j);have ak:A0 xs k 0*A0 ys j 0<=4294967295*4294967295:=Fl O O;refine AR ?_;refine gv (uA underlying39 I hv') I (B4 (λad=>?_) λad=>?_)
  ·
   refine AR ?_;refine zG 22 _ [] (Ah 0 22 []) zX nX Ac nX (λr hr=>hr) (AN ?_);refine B3 I (λh' L' hh hR=>yB (k) underlying39 sizeOf176 I I (hv.mono hh) O O) I (B3 I (λh' L' hh hR=>wN isAgg176 I (hv.mono hh) O) I (AN ?_));refine B3 I (λh' L' hh hR=>yB (j) underlying39 sizeOf176 I I (hv'.mono hh) O O) I (B3 I (λh' L' hh hR=>wN isAgg176 I (hv'.mono hh) O) I (AZ ?_));refine B3 I (λh' L' hh hR=>jS (hR _ Ar) (k+j) underlying39 sizeOf176 I I O O) I (B3 I (λh' L' hh hR=>gY (hR _ Ar) isAgg176 I O) I (fJ ?_));refine gv (xM (A:=[]) (k+j) underlying39 sizeOf176 I I O O) I (vS sizeOf176 I I O (fJ ?_));refine Ad (j+1,C.set (k+j) ((c+(A0 xs k 0*A0 ys j 0+A0 C (k+j) 0))%4294967296),(c+(A0 xs k 0*A0 ys j 0+A0 C (k+j) 0))/2^32) ?_ ?_
   ·
    refine⟨A3,by simp[ab],mK U _ O,A3,?_,λi hi=>?_⟩
    · have h1:=nZ (xs:=C) (i:=k+j) O ((c+(A0 xs k 0*A0 ys j 0+A0 C (k+j) 0))%4294967296)
      have e:=Gm (c+(A0 xs k 0*A0 ys j 0+A0 C (k+j) 0)) 4294967296;have e2:(2:Nat)^32=4294967296:=I;rw[uZ ys j O,e2];have ep:(4294967296:Nat)^(k+(j+1))=4294967296^k*4294967296^j*4294967296:=by rw[<-FP,CT,CX]
      rw[ep];rw[CX] at h1 aa;generalize (c+(A0 xs k 0*A0 ys j 0+A0 C (k+j) 0))/4294967296=q at *;generalize (c+(A0 xs k 0*A0 ys j 0+A0 C (k+j) 0))%4294967296=r at *;grind
    · rw[jY O];exact M i hi
   omega
  refine Ak ?_;refine gv (uA underlying39 I hv') I (AN ?_);refine gv (xM (A:=[]) (k+A1 ys) underlying39 sizeOf176 I I O O) I (vS sizeOf176 I I O (AX ?_));refine Ad (k+1,C.set (k+A1 ys) (c%4294967296)) ?_ ?_
  ·
   have hj:j=A1 ys:=by omega
   subst hj;refine⟨A3,by simp[ab],mK U _ O,?_,λi hi=>?_⟩
   · have h1:=nZ (xs:=C) (i:=k+A1 ys) O (c%4294967296)
     rw[M _ (B1 _)] at h1;rw[wR (B1 _)] at aa;rw[CG ai] at h1 ⊢;rw[uZ xs k O];grind
   · rw[jY O];exact M i O
  omega
 refine AX ?_;refine yR (by exact ac) ?_;intro h1 aq ho;refine cL (AU I) call203 (λw hs=>tW hs ho O) λaj h2 ap J=>(AF ?_);refine zC I I ?_;rw[Z,wR O] at J;exact J
theorem eN{v:A2}{X d:Nat}(hv:Us .u32 h0 v (zB X))(hd:d<4294967296)(hl:A1 (zB X)<=1099511627776):
 Ae 245 #[v,vU .u32 d] w0 h0 (λh r=>Us .u32 h r (zB (X*d))):=by
 refine B0 10 v (vU .u32 d) func245 hs ?_;refine vV ?_;refine cL (AU I) call165 (λw hs=>Il hs O) λZ h1 H D=>?_;have M:=gP (n:=d) O;replace hv:=hv.mono H;refine cL (AK I I) call144 (λw hs=>bU hs hv D O O) λU h2 J C=>?_;simp only[zF] at C;refine AF ?_;refine zC I I ?_;exact C
theorem Wy{v:A2}{xs:List Nat}{b:Nat}(hv:Us .u32 h0 v xs)(hb:0<b)(hb':b<4294967296)(hl:A1 xs<=1099511627776):
 Ae 241 #[v,vU .u32 b] w0 h0 (λh r=>∃u,r=.tuple #[u,vU .u32 (val xs%b)]/\Us .u32 h u (zB (val xs/b))):=by
 have hf:BD xs:=hv.lt;refine B0 43 v (vU .u32 b) func241 hs ?_;refine AN ?_;refine BF (v:=vU .u32 0) I I (AZ ?_);refine jI (kd:=.u32) (by':=4) _ underlying39 uW I I I I I I I O O I ?_;intro H;refine AR ?_;refine BF (v:=vU .u64 0) I I (uF ?_);refine gB (ι:=Nat×List Nat×Nat) (λ(j,D,r)=>j<=A1 xs/\A1 D=A1 xs-j/\BD D/\r<b/\val (xs.drop j)=b*val D+r) (λ(j,D,r)=>[(0,v),(1,vU .u32 b),(6,H),(7,vU .u64 r),(8,vI (↑j-1))]) (λ(j,D,r)=>[.us 176 .u32 H (fK j D)]) (λ(j,D,r)=>h0) (λ(j,D,r)=>j) (A1 xs,[],0) ?_ e5 ?_ I ?_
 · exact⟨B1 _,B9,λx hx=>by simp at hx,hb,by rw[EB (B1 _)];rfl⟩
 ·
  try dsimp only[List.nil_append,List.cons_append]
  exact AJ (λz=>[AG.us 176 .u32 H z]) (nK _)
 rintro⟨j,D,r⟩ ⟨hj,ac,M,hr,C⟩
 refine yO ?_;refine DV (λU=>?_) λU=>?_
 ·
  refine Af ?_;refine gv (fR (k:=.u64) (s:=32) (yk:=.u64) (W:=18446744073709551616) I I I I) I (A5 ?_);refine gv (yB (j-1) underlying39 sizeOf176 I I hv O O) I (A7 ?_);have Z:=hv.get32 (j-1);refine A7 ?_;refine gv (pR (k:=.u64) I I I (by simp only[ub];omega) (by simp only[ub];omega)) I ?_;rw[cX O Z];generalize ht:r*4294967296+A0 xs (j-1) 0=t at *;have hq:t/b<4294967296:=Hv (by rw[<-ht];have h1:(r+1)*4294967296<=b*4294967296:=CP _ hr;omega);refine vV ?_;refine gv (cV (k:=.u64) (W:=18446744073709551616) I I I I O O) I (gv (vY (k:=.u64) (k':=.u32) (W:=4294967296) underlying169 underlying176 I I I O) I (gv (xM (A:=[]) (j-1) underlying39 sizeOf176 I I O (by rw[jT];omega)) I (vS sizeOf176 I I (by rw[jT];omega) (AZ ?_))));refine gv (cT (k:=.u64) I I O) I (Ak ?_);refine qL (j-1,t/b::D,t%b) ?_ ?_ ⟨I,I,I,I,?_,AW⟩ ?_ I
  ·
   refine⟨A3,by simp only[lC];omega,pM.2 ⟨hq,M⟩,BQ _ hb,?_⟩;rw[kL xs (j-1) O,show j-1+1=j by omega,val];exact VM C ht.symm I I
  ·
   dsimp only;omega
  · exact AV (AJ vI O)
  try dsimp only[List.nil_append,List.cons_append]
  rw[nJ O]
 refine AX ?_;have aa:j=0:=by omega
 subst aa;rw[aM];refine yR (by exact M) ?_;intro h1 ae ho;refine cL (AU I) call203 (λw hs=>tW hs ho O) λab h2 ad J=>(A7 ?_);refine gv (vY (k:=.u64) (k':=.u32) (W:=4294967296) underlying169 underlying176 I I I O) I (AR ?_);refine wS I I I ?_;simp only[Ha] at C;have e1:val xs/b=val D:=by rw[C,Nat.mul_add_div hb,Fu hr];omega
 have e2:val xs%b=r:=by rw[C,Nat.mul_add_mod,CG hr]
 rw[e1,e2];exact⟨_,I,J⟩
theorem Q5{v:A2}{X:Nat}(hv:Us .u32 h0 v (zB X))(hl:A1 (zB X)<=1099511627776):
 Ae 228 #[v] w0 h0 (λ_ r=>r=.string (uR (BZ X))):=by
 have ar:=Qk (wY X);rw[zF] at ar;refine BI 65 v func228 hs ?_;refine tQ ?_;refine Bq (λav=>?_) λav=>?_
 ·
  have bi:A1 (zB X)=0:=by omega
  refine Af ?_;refine zC I I ?_;have e:X=0:=C7 λaa=>by have:=yJ.2 aa;omega
  rw[e];rfl
 have bk:A1 (zB X)≠0:=by omega
 refine AF ?_;refine mQ (rN (v:=.slice none 0 0) I) I I I (t7 (E:=5) (k:=.u8) (AF ?_));refine gB (ι:=A2×Nat×A2×List Nat×A4) (λ(va,n,vo,ds,J)=>MLe h0 J/\(Us .u32 J va (zB n)/\n<=X/\ds++nL n=nL (X))) (λ(va,n,vo,ds,J)=>[(0,va),(3,vo)]) (λ(va,n,vo,ds,J)=>[.us 5 .u8 vo ds]) (λ(va,n,vo,ds,J)=>J) (λ(va,n,vo,ds,J)=>n) (v,X,.slice none 0 0,[],h0) ?_ Al I I ?_
 ·
  refine⟨MLe.refl _,?_⟩;exact⟨hv,B1 _,I⟩
 rintro⟨va,n,vo,ds,J⟩ ⟨ai,⟨ha,ao,ab⟩⟩
 refine yO ?_;have bb:A1 (zB n)<=A1 (zB X):=yL ao;refine DU (λad=>?_) λad=>?_
 ·
  refine AZ ?_;refine cL (vs:=[_,vU .u32 1000000000]) Al call241 (λw hs=>Wy hs ha O O O) λbf h1 ap an=>?_;obtain⟨aj,rfl,D⟩:=an;rw[zF] at D ⊢;refine fJ ?_;refine gB (ι:=Nat×Nat×A2×List Nat×A4) (λ(i,x,M,C,U)=>MLe h1 U/\(i<=9/\x<10^(9-i)/\C++nL (x+10^(9-i)*(n/1000000000))=nL (X))) (λ(i,x,M,C,U)=>[(3,M),(4,aj),(5,vU .u32 x),(6,vI ↑i)]) (λ(i,x,M,C,U)=>[.us 5 .u8 M C]) (λ(i,x,M,C,U)=>U) (λ(i,x,M,C,U)=>9-i) (0,n%1000000000,vo,ds,h1) ?_ BR I I ?_
  ·
   refine⟨MLe.refl _,?_⟩;exact⟨A3,A3,by rw[<-ab];congr 2;omega⟩
  rintro⟨i,x,M,C,U⟩ ⟨H,⟨hi,ah,Z⟩⟩
  refine yO ?_;have bj:x<4294967296:=DO ah (Ao (D0 O (show 9-i<=9 by omega)) dC);refine AR ?_;refine gU 9 30 (vB (((i:Int)<9)/\(0<x\/(0:Int)<↑(A1 (zB (n/1000000000)))))) ?_ ?_
  ·
   refine zY ((i:Int)<9) (λhg=>?_) (λhg=>?_)
   ·
    refine gT hg I (AN ?_);refine gv (nC (k:=.u32) (q:=0) I I) I ?_;refine gU 5 29 (vB ((0<x)\/((0:Int)<↑(A1 (zB (n/1000000000)))))) ?_ ?_
    ·
     refine zY (0<x) (λhg=>?_) (λhg=>?_)
     ·
      refine A7 ?_;refine gT hg I (AZ ?_);refine Ay ?_;exact AV (vN hg)
     refine A7 ?_;refine gF hg I ?_;replace D:=D.mono H;refine Ak ?_;refine Ay ?_;exact AV (vO hg)
    refine A5 ?_;refine Ay ?_;exact AV (xE hg)
   refine gF hg I (Ak ?_);refine Ay ?_;exact AV (xG hg)
  refine BB (λac=>?_) λac=>?_
  ·
   have bc:A1 C<=A1 (nL (X)):=by rw[<-Z];simp
   refine AX ?_;refine gv (cT (k:=.u32) (q:=10) I I O) I (gv (tZ (k:=.u32) (p:=48) (W:=4294967296) I I I I O) I (gv (vY (k:=.u32) (k':=.u8) (W:=256) underlying176 underlying5 I I I O) I (zE (tN (kd:=.u8) underlying232 KU I I I) I I I ?_)));intro be bh am;obtain rfl:=am;refine yR (by intro z hz;simp only[DP] at hz;subst hz;simp only[ub];omega) ?_;intro h2 az ba;refine yY (A:=[]) (gD (kd:=.u8) (bytes:=1) underlying232 KU I I I I I ba KG KG) I I I ?_;intro aw bg ak;obtain rfl:=ak;refine AR ?_;refine gv (cV (k:=.u32) (q:=10) (W:=4294967296) I I I I O O) I (Ak ?_);refine qL (i+1,x/10,aw,C++[48+x%10],h2) ?_ ?_ BR I I
   ·
    refine⟨(H.trans az),?_⟩;obtain⟨h9,DQ⟩:=ac;obtain⟨k,hk⟩:∃k,9-i=k+1:=⟨8-i,A3⟩;have bl:=yJ (n:=n/1000000000);refine⟨A3,?_,?_⟩
    · rw[show 9-(i+1)=k by omega]
      rw[hk,CT] at ah;omega
    · rw[show 9-(i+1)=k by omega]
      rw[hk,Wz O] at Z;rw[Ck];exact Z
   dsimp only;omega
  refine vV ?_;refine qL (aj,n/1000000000,M,C,U) ?_ ?_ Al I I
  ·
   refine⟨((ai.trans ap).trans H),?_⟩;replace D:=D.mono H;refine⟨D,A3,?_⟩;rw[<-Z]
   congr 2
   by_cases h9:i=9
   · subst h9;simp at ah ⊢;omega
   · have h1:¬(0<x\/(0:Int)<↑(A1 (zB (n/1000000000)))):=λh=>ac ⟨A3,h⟩
     have h2:n/1000000000=0:=C7 λaa=>h1 (.inr (by have:=yJ.2 aa;omega));rw[h2,show x=0 by omega,FT]
  dsimp only;have:=yJ (n:=n);omega
 have ax:n=0:=C7 λaa=>ad (by have:=yJ.2 aa;omega);subst ax;rw[s0,Ce] at ab;have bd:A1 ds<=10*A1 (zB X):=by rw[ab];exact ar
 refine AX ?_;refine gv (sZ (A:=[]) underlying232 I) I (jI (kd:=.u8) (by':=1) (A1 ds) underlying232 KU I I I I I O O O O I ?_);intro ae;refine vV ?_;refine gB (ι:=Nat) (λ(k:(Nat))=>k<=A1 ds) (λ(k:(Nat))=>[(3,vo),(7,ae),(8,vI ↑k)]) (λ(k:(Nat))=>[.us 5 .u8 ae (fK (A1 ds-k) (ds.take k).reverse),.us 5 .u8 vo ds]) (λ(k:(Nat))=>J) (λ(k:(Nat))=>A1 ds-k) 0 ?_ EQ ?_ I ?_
 · exact Ci _
 ·
  try dsimp only[List.nil_append,List.cons_append]
  exact AJ (λz=>[AG.us 5 .u8 ae z,AG.us 5 .u8 vo ds]) (nK _)
 rintro k hk
 refine yO ?_;refine AR ?_;refine gv (sZ (A:=[_]) underlying232 I) I (B4 (λau=>?_) λau=>?_)
 ·
  refine Af ?_;refine gv (sZ (A:=[_]) underlying232 I) I (AR ?_);refine gv (xM (A:=[_]) (k) underlying232 sizeOf5 I I O O) I (gv (tB (A:=[_]) isAgg5 I O) I (gv (xM (A:=[]) (A1 ds-k-1) underlying232 sizeOf5 I I O (by rw[jT,Q1,By];omega)) I (vS sizeOf5 I I (by rw[jT,Q1,By];omega) (AX ?_))));refine qL (k+1) ?_ ?_ EQ ?_ I
  · omega
  · omega
  try dsimp only[List.nil_append,List.cons_append]
  rw[nJ O,w6 ds k O,List.reverse_append,List.reverse_singleton,List.singleton_append,Nat.sub_sub]
 refine AX ?_;have ay:k=A1 ds:=by omega
 rw[ay,M3,aM,ER];refine yR (by intro z hz;rw[ab] at hz;exact Rx _ z (Ol.1 hz)) ?_;intro h1 ap aq;refine gv (V0 underlying232 underlying5 underlying9 I aq) I (AF ?_);refine zC I I ?_;have e:X≠0:=yJ.1 O;rw[BZ,A8 e,<-ab]
theorem UB{v:A2}{X n:Nat}(hv:Us .u32 h0 v (zB X))(hn:n<=16384)(hl:A1 (zB X)<=1099511627776):
 Ae 243 #[v,vI ↑n] w0 h0 (λh r=>Us .u32 h r (zB (X*2^n))):=by
 obtain⟨s,bb⟩:∃s,s=n%32:=⟨_,I⟩;have hp:2^s<=2147483648:=D0 (n:=2) O (show s<=31 by omega);have am:0<2^s:=DX O;refine B0 40 v (vI ↑n) func243 hs ?_;refine AX ?_;refine gv (RJ (q:=32) I I O O O) I (jI (kd:=.u32) (by':=4) (n/32) underlying39 uW I I I I I O O O O I ?_);intro ak;refine AR ?_;refine BF (v:=vU .u64 0) I I (Ak ?_);refine gB (ι:=A2×List Nat×Nat×A4) (λ(M,C,c,U)=>MLe h0 U/\(A1 C<=A1 (zB X)/\BD C/\c<2^s/\val C+4294967296^A1 C*c=val ((zB X).take (A1 C))*2^s)) (λ(M,C,c,U)=>[(0,v),(1,vI ↑n),(5,M),(6,vU .u64 c),(7,vI ↑(A1 C))]) (λ(M,C,c,U)=>[.us 176 .u32 M (List.replicate (n/32) 0++C)]) (λ(M,C,c,U)=>U) (λ(M,C,c,U)=>A1 (zB X)-A1 C) (ak,[],0,h0) ?_ e5 ?_ I ?_
 ·
  refine⟨MLe.refl _,?_⟩;exact⟨B9,λx hx=>by simp at hx,am,by simp[val]⟩
 ·
  try dsimp only[List.nil_append,List.cons_append]
  rw[Ce]
 rintro⟨M,C,c,U⟩ ⟨J,⟨ba,ae,hc,D⟩⟩
 refine yO ?_;replace hv:=hv.mono J;refine Bj (λai=>?_) λai=>?_
 ·
  refine Ak ?_;refine gv (yB (A1 C) underlying39 sizeOf176 I I hv O O) I (A7 ?_);have az:=hv.get32 (A1 C);have ay:A0 (zB X) (A1 C) 0*2^s<18446744073709551616-4294967296:=by
   have:=Fl (show A0 (zB X) (A1 C) 0<=4294967295 by omega) hp;omega
  refine A5 ?_;refine gv (wI (q:=32) I I O O) I ?_;rw[show(↑n:Int)%32=↑s by omega];refine gv (fR (k:=.u64) (s:=s) (yk:=.i64) (W:=18446744073709551616) I I I I) I ?_;rw[CG O];refine gv (pR (k:=.u64) I I I (by simp only[ub];omega) (by simp only[ub];omega)) I ?_;rw[Sn hc];refine AX ?_;refine zE (tN (kd:=.u32) underlying39 uW I I I) I I I ?_;intro ar ax ac;obtain rfl:=ac;refine yR (by intro z hz;simp only[DP] at hz;subst hz;simp only[ub];omega) ?_;intro h1 ad an;refine yY (A:=[]) (gD (kd:=.u32) (bytes:=4) underlying39 uW I I I I I an NM NM) I I I ?_;intro aj aw ab;obtain rfl:=ab;refine rX ?_;refine qL (aj,C++[(A0 (zB X) (A1 C) 0*2^s+c)%4294967296],(A0 (zB X) (A1 C) 0*2^s+c)/2^32,h1) ?_ ?_ ⟨I,I,I,I,?_,AW⟩ ?_ I
  ·
   refine⟨(J.trans ad),?_⟩;refine⟨by simp;omega,uX ae (aZ O),?_,?_⟩
   · refine Hv ?_
     have:=CP (2^s) (show A0 (zB X) (A1 C) 0+1<=2^32 by omega);rw[EP] at this;omega
   · have e:=Gm (A0 (zB X) (A1 C) 0*2^s+c) 4294967296
     have e2:(2:Nat)^32=4294967296:=I;rw[BJ,E5,uZ (zB X) _ O,rZ,CT,e2];generalize (A0 (zB X) (A1 C) 0*2^s+c)/4294967296=q at *;generalize (A0 (zB X) (A1 C) 0*2^s+c)%4294967296=r at *;grind
  ·
   dsimp only;simp;omega
  · exact AV (AJ vI B9)
  try dsimp only[List.nil_append,List.cons_append]
  rw[Ck]
 refine vV ?_;refine zE (tN (kd:=.u32) underlying39 uW I I I) I I I ?_;intro aq av aa;obtain rfl:=aa;refine yR (by intro z hz;simp only[DP] at hz;subst hz;simp only[ub];omega) ?_;intro h1 ad ah;refine yY (A:=[]) (gD (kd:=.u32) (bytes:=4) underlying39 uW I I I I I ah NM NM) I I I ?_;intro ap au Z;obtain rfl:=Z;refine yR (by exact uX (uX (kK _) ae) (aZ O)) ?_;intro h2 bd ho;refine cL (AU I) call203 (λw hs=>tW hs ho Gl) λao h3 bc H=>(AF ?_);refine zC I I ?_;have hk:A1 C=A1 (zB X):=by omega
 rw[wR O,zF] at D;rw[CG O,Ck,lW,bS,lR,rZ,D,hL,E6,show 32*(n/32)+s=n by omega] at H;exact H
theorem ro{v:A2}{X n:Nat}(hv:Us .u32 h0 v (zB X))(hn:n<9223372036854775808)(hl:A1 (zB X)<=1099511627776):
 Ae 246 #[v,vI ↑n] w0 h0 (λh r=>Us .u32 h r (zB (X/2^n))):=by
 obtain⟨s,aj⟩:∃s,s=n%32:=⟨_,I⟩;refine B0 55 v (vI ↑n) func246 hs ?_;refine Ak ?_;refine gv (RJ (q:=32) I I O O O) I (VA (λab=>?_) λab=>?_)
 ·
  refine Af ?_;refine zC I I ?_;rw[show X/2^n=0 from vs O,xT];exact Us.nil _ _
 refine AZ ?_;refine gv (RJ (q:=32) I I O O O) I ?_;rw[show(↑n:Int)/32=↑(n/32) by omega];refine gv (jU (n/32) underlying39 sizeOf176 I I hv.shape O O) I ?_;have D:=hv.sub (lo:=n/32) (hi:=A1 (zB X)) O O;rw[Hn (by rw[Cn];omega)] at D;have ap:A1 (List.drop (n/32) (zB X))=A1 (zB X)-n/32:=Cn;refine A7 ?_;have U:BD (List.drop (n/32) (zB X)):=x4 (wY _) _;have ac:=kY (wY X) (n/32);rw[zF] at ac;obtain⟨vR,ad⟩:∃z,z=tA 1 v (n/32) (A1 (zB X)):=⟨_,I⟩;rw[<-ad] at D ⊢;generalize List.drop (n/32) (zB X)=Rs at *;refine AZ ?_;refine jI (kd:=.u32) (by':=4) (A1 Rs) underlying39 uW I I I I I O O O O I ?_;intro H;refine vV ?_;refine An (ι:=List Nat) (λ(C:(List Nat))=>(A1 C<=A1 Rs/\C=(List.range (A1 C)).map (dH s Rs),[(0,vR),(1,vI ↑n),(5,H),(6,vI ↑(A1 C))],[.us 176 .u32 H (sM C (A1 Rs))],h0,A1 Rs-A1 C)) [] ?_ ?_
 · exact⟨B9,I⟩
 rintro C ⟨ai,M⟩
 refine yO ?_;refine Bj (λaa=>?_) λaa=>?_
 ·
  refine AX ?_;refine gv (yB (A1 C) underlying39 sizeOf176 I I D O O) I (A7 ?_);have ao:=jF U (A1 C);have an:=jF U (A1 C+1);refine AF ?_;refine jD (ι:=Unit) (λ(_u:(Unit))=>True) (λ(_u:(Unit))=>[(0,vR),(1,vI ↑n),(5,H),(6,vI ↑(A1 C)),(7,vU .u64 (A0 Rs (A1 C) 0+4294967296*A0 Rs (A1 C+1) 0))]) (λ(_u:(Unit))=>[.us 176 .u32 H (sM C (A1 Rs))]) (λ(_u:(Unit))=>h0) ?_ ?_
  ·
   refine Bj (λZ=>?_) λZ=>?_
   ·
    refine AR ?_;refine gv (yB (A1 C+1) underlying39 sizeOf176 I I D O O) I (A5 ?_);refine gv (fR (k:=.u64) (s:=32) (yk:=.u64) (W:=18446744073709551616) I I I I) I (gv (pR (k:=.u64) I I I (by simp only[ub];omega) (by simp only[ub];omega)) I ?_);rw[Nat.or_comm,cX O O];refine A5 ?_;refine zV (()) ?_ ⟨I,I,I,I,?_,AW⟩ I I
    · trivial
    · exact AV (AJ (vU .u64) O)
   refine A7 ?_;refine zV (()) ?_ ⟨I,I,I,I,?_,AW⟩ I I
   · trivial
   · exact AV (AJ (vU .u64) (by rw[rH (xs:=Rs) (i:=A1 C+1) O];omega))
  rintro _u ae
  refine yO ?_;refine AR ?_;refine gv (wI (q:=32) I I O O) I ?_;rw[show(↑n:Int)%32=↑s by omega];refine gv (fQ (k:=.u64) (s:=s) (yk:=.i64) I I I (by simp only[ub];omega)) I (A7 ?_);rw[p6 O O];refine gv (xM (A:=[]) (A1 C) underlying39 sizeOf176 I I O (by rw[uQ O];omega)) I (vS sizeOf176 I I (by rw[uQ O];omega) (AX ?_));refine Ad (C++[dH s Rs (A1 C)]) ?_ ?_ (he:=⟨I,I,I,?_,AW⟩) (hL:=?_)
  ·
   refine⟨by simp;omega,?_⟩;rw[BJ,E5,List.range_succ,FK,List.map_singleton,<-M]
  · simp;omega
  · exact AV (AJ vI B9)
  try dsimp only[List.nil_append,List.cons_append]
  rw[cC O]
 refine AX ?_;have hk:A1 C=A1 Rs:=by omega
 rw[aL hk];refine yR (by rw[M];intro z hz;obtain⟨w,_,rfl⟩:=Cp.1 hz;exact W8 s Rs w) ?_;intro h1 am ho;refine cL (AU I) call203 (λw hs=>tW hs ho O) λah h2 ak J=>(AF ?_);refine zC I I ?_;rw[M,hk,ax U,ac,ii,show 32*(n/32)+s=n by omega] at J;exact J
theorem u9{v:A2}{X:Nat}(hv:Us .u32 h0 v (zB X)):
 Ae 240 #[v] w0 h0 (λ_ r=>r=.tuple #[vU .u64 (if(A1 (zB X))<=2 then X else 0),vB (A1 (zB X)<=2)]):=by
 have aa:=hv.get32 0;have Z:=hv.get32 1;have ab:=zF X;have U:=hv.lt63;refine BI 26 v func240 hs ?_;refine A5 ?_;refine BF (v:=vU .u64 0) I I (nH ?_);refine Bq (λM=>?_) λM=>?_
 ·
  refine A5 ?_;refine BF (v:=vU .u64 0) I I (AZ ?_);refine wS I I I ?_;have h0:X=0:=C7 λH=>by have:=yJ.2 H;omega
  rw[yU O,AC O,h0]
 refine Ba (λJ=>?_) λJ=>?_
 ·
  have D:=L9 (xs:=zB X) O;refine AN ?_;refine gv (yB (q:=0) (0) underlying39 sizeOf176 I I hv I O) I (Ak ?_);refine wS I I I ?_;rw[yU O,AC O,<-D,zF]
 refine Ba (λC=>?_) λC=>?_
 ·
  refine A7 ?_;refine zG 12 _ [] (Ah 0 12 []) zX nX Ac nX (λr hr=>hr) (A7 ?_);refine B3 I (λh' L' hh hR=>yB (q:=0) (0) underlying39 sizeOf176 I I (hv.mono hh) I O) I (B3 I (λh' L' hh hR=>wN isAgg176 I (hv.mono hh) O) I (A5 ?_));refine B3 I (λh' L' hh hR=>yB (q:=1) (1) underlying39 sizeOf176 I I (hv.mono hh) I O) I (B3 I (λh' L' hh hR=>wN isAgg176 I (hv.mono hh) O) I (A7 ?_));refine wK I (λ_ _=>fR (k:=.u64) (s:=32) (yk:=.u64) (W:=18446744073709551616) I I I I) I (wK I (λ_ _=>pR (k:=.u64) I I I (by simp only[ub];omega) (by simp only[ub];omega)) I ?_);rw[Nat.or_comm,cX O O];refine Af ?_;refine wS I I I ?_;have h1:=uP (zB X) 1;have h2:=uP (zB X) 0;rw[wR O,zF] at h1;rw[HT] at h2;simp only[val,E6] at h2;rw[yU O,AC O];have e:A0 (zB X) 1 0*4294967296+A0 (zB X) 0 0=X:=by omega
  rw[e]
 refine AR ?_;refine BF (v:=vU .u64 0) I I (AF ?_);refine wS I I I ?_;rw[yH O,A8 O]
theorem Yu{v:A2}{X k:Nat}(hv:Us .u32 h0 v (zB X))(hk:k<=4398046511104)(hl:A1 (zB X)<=4398046511104):
 Ae 244 #[v,vI ↑k] w0 h0 (λh r=>Us .u32 h r (zB (X*4294967296^k))):=by
 refine B0 12 v (vI ↑k) func244 hs ?_;refine tQ ?_;refine Bq (λH=>?_) λH=>?_
 ·
  have h0:X=0:=C7 λD=>by have:=yJ.2 D;omega
  refine Af ?_;refine zC I I ?_;rw[h0,E2,xT];exact Us.nil _ _
 have h0:X≠0:=yJ.1 O;refine AR ?_;refine jI (kd:=.u32) (by':=4) (k) underlying39 uW I I I I I O O O O I ?_;intro v9;refine A7 ?_;refine yY (A:=[]) (gD (kd:=.u32) (bytes:=4) underlying39 uW I I I I I hv (by rw[lR];omega) (by rw[lR];omega)) I I I ?_;intro J M C;obtain rfl:=C;refine yR (by exact uX (kK _) (wY _)) ?_;intro h1 Z U;refine AF ?_;refine zC I I ?_;rw[<-uj h0];exact U
end
set_option maxHeartbeats 1000000 in
section
variable{w0:AP}{h0:A4}(hs:MLe h0 (BE w0))
include hs
theorem Qc{v v':A2}{X Y:Nat}(hv:Us .u32 h0 v (zB X))(hv':Us .u32 h0 v' (zB Y))(hl:A1 (zB X)<=549755813888)(hl':A1 (zB Y)<=549755813888):
 Ae 205 #[v,v'] w0 h0 (λh z=>∃q r,z=.tuple #[q,r,vI (if Y=0 then 3 else 0)]/\Us .u32 h q (zB (X/Y))/\Us .u32 h r (zB (if Y=0 then 0 else X%Y))):=by
 refine B0 163 v v' func205 hs ?_;refine uG ?_;refine gv (uA underlying39 I hv') I (B4 (λcl=>?_) λcl=>?_)
 ·
  have ct:Y=0:=C7 λda=>by have:=yJ.2 da;omega
  refine Ak ?_;refine jC I I I I ?_;rw[ct,Nat.div_zero,AC I,AC I,xT];exact⟨_,_,I,Us.nil _ _,Us.nil _ _⟩
 have C:Y≠0:=yJ.1 O;refine Af ?_;refine cL (AK I I) call112 (λw hs=>eH hs hv hv') λei h1 ay bz=>?_;subst bz;refine B4 (λar=>?_) λar=>?_
 ·
  have aa:=pO.1 ar;refine AN ?_;replace hv:=hv.mono ay;refine cL (AU I) call203 (λw hs=>tW hs hv O) λeh h2 ap bc=>?_;rw[zF] at bc;refine Af ?_;refine jC I I I I ?_;rw[Fu aa,CG aa,A8 C,A8 C,xT];exact⟨_,_,I,Us.nil _ _,bc⟩
 have cd:Y<=X:=Jd λhc=>ar (pO.2 hc);have er:=yL cd;refine AZ ?_;replace hv:=hv.mono ay;refine cL (AU I) call240 (λw hs=>u9 hs hv) λeg h2 ap bx=>?_;subst bx;refine Fj (λaq=>?_) λaq=>?_
 ·
  have hw:=mF aq;have ek:=mF (n:=Y) O;refine AN ?_;replace hv':=hv'.mono (ay.trans ap);refine cL (AU I) call240 (λw hs=>u9 hs hv') λef h3 ax bw=>?_;subst bw;refine A5 ?_;rw[AC aq,AC (show(A1 (zB Y))<=2 by omega)];refine AZ ?_;refine zG 11 _ [] [(0,.q),(1,.q),(2,.q),(4,.q),(5,.q),(6,.q),(3,.c),(7,.c),(8,.q),(9,.q),(10,.q)] zX nX Ac nX (λr hr=>hr) (A5 ?_);refine wK I (λ_ _=>cV (k:=.u64) (W:=18446744073709551616) I I I I O O) I (A5 ?_);refine wK I (λ_ _=>cT (k:=.u64) I I O) I ?_;refine AB I ?_;have dv:=E1 X Y;have br:=BQ X (Cu C);refine sC (AU I) call165 (λw hs=>Il hs O) λee h4 aw ai=>?_;refine AB I (sC (AU I) call165 (λw hs=>Il hs O) λed h5 bk bv=>(A5 ?_));refine Kz (v:=vI (0)) I I I (AF ?_);refine jC I I I I ?_;replace ai:=ai.mono bk;rw[A8 C,A8 C];exact⟨_,_,I,ai,bv⟩
 refine AZ ?_;replace hv':=hv'.mono (ay.trans ap);refine gv (uA underlying39 I hv') I (B4 (λck=>?_) λck=>?_)
 ·
  have bd:A1 (zB Y)=1:=by omega
  have de:A0 (zB Y) 0 0≠0:=by have:=rS (n:=Y) O;rwa [bd] at this
  have bp:=L9 bd;rw[zF] at bp;refine AF ?_;refine gv (yB (q:=0) (0) underlying39 sizeOf176 I I hv' I O) I (gv (wN isAgg176 I hv' O) I ?_);have ev:=hv'.get32 0;replace hv:=hv.mono ap;refine cL (AK I I) call241 (λw hs=>Wy hs hv O O O) λec h3 ax bu=>?_;obtain⟨ej,rfl,M⟩:=bu;rw[zF] at M ⊢;have br:=BQ X (Cu de);refine uF ?_;refine cL (AU I) call165 (λw hs=>Il hs O) λeb h4 aw bb=>(Af ?_);refine jC I I I I ?_;replace M:=M.mono aw;rw[<-bp] at M bb;rw[A8 C,A8 C];exact⟨_,_,I,M,bb⟩
 have cb:2<=A1 (zB Y):=by omega
 refine AZ ?_;refine gv (uA underlying39 I hv') I (A7 ?_);refine gv (jU (A1 (zB Y)-1) underlying39 sizeOf176 I I hv'.shape O O) I ?_;have ah:=hv'.sub (lo:=A1 (zB Y)-1) (hi:=A1 (zB Y)) O O;rw[Hn (by rw[Cn];omega),q0 O] at ah;have Cr:=hv'.get32 (A1 (zB Y)-1);have el:=gP (n:=A0 (zB Y) (A1 (zB Y)-1) 0) O;have dz:=nO (n:=A0 (zB Y) (A1 (zB Y)-1) 0) (k:=32) Cr;refine cL (AU I) call242 (λw hs=>sf hs ah O) λea h3 ax bt=>?_;subst bt;refine gv (jA (p:=32) I I O O) I ?_;obtain⟨s,cz⟩:∃s,s=32-uO (A0 (zB Y) (A1 (zB Y)-1) 0):=⟨_,I⟩;rw[show(32:Int)-↑(uO (A0 (zB Y) (A1 (zB Y)-1) 0))=↑s by omega];obtain⟨bq,ae,cw⟩:=YN (k:=A1 (zB Y)-1) C O cz;refine Af ?_;replace hv':=hv'.mono ax;refine cL (AK I I) call243 (λw hs=>UB hs hv' O O) λau h4 aw D=>(A5 ?_);replace hv:=hv.mono ((ap.trans ax).trans aw);refine cL (AK I I) call243 (λw hs=>UB hs hv O O) λcp h5 bk ba=>(A5 ?_);replace D:=D.mono bk;replace ae:A1 (zB (Y*2^s))=A1 (zB Y):=by omega
 have cm:=rV (n:=Y*2^s) (k:=A1 (zB Y)-1) O;generalize eo:A1 (zB Y)=n at *;obtain⟨V,hV⟩:∃V,V=Y*2^s:=⟨_,I⟩;obtain⟨U,hU⟩:∃U,U=X*2^s:=⟨_,I⟩;rw[<-hV] at D ae cw cm;rw[<-hU] at ba;have co:=a5 cb ae;rw[zF] at co;have cv:=gL (fY (wY V) (n-2));rw[By,Dy O] at cv;have ez:A1 (zB U)<=A1 (zB X)+1:=by rw[hU];exact Ao (yV X (2^s)) (Nat.add_le_add_left (qO (k:=1) (by rw[Nat.pow_one];exact DO (Nat.pow_lt_pow_right dC bq) dC)) _)
 have di:V<=U:=by rw[hV,hU];exact CP _ cd
 have ca:=yL di;rw[ae] at ca;have cy:=pi (uT U) cm O ca;generalize bs:A1 (zB U)=r at *;have du:=jF (wY V) (n-1);refine AZ ?_;rw[ae];refine Af ?_;rw[bs];refine AN ?_;refine jI (kd:=.u32) (by':=4) (r-n+1) underlying39 uW I I I I I O O O O I ?_;intro H;refine AX ?_;rw[bs];refine AZ ?_;refine gB (ι:=Nat×A2×Nat×List Nat×A4) (λ(K,vr,R,qs,k1)=>MLe h5 k1/\(Us .u32 k1 vr (zB R)/\K<=r-n+1/\A1 qs=r-n+1-K/\BD qs/\R+4294967296^K*(val qs*V)=U/\R<4294967296^K*V/\A1 (zB R)<=r)) (λ(K,vr,R,qs,k1)=>[(1,au),(4,H),(5,vr),(13,vI ↑s),(14,vI ↑n),(15,vI (↑K-1))]) (λ(K,vr,R,qs,k1)=>[.us 176 .u32 H (fK K qs)]) (λ(K,vr,R,qs,k1)=>k1) (λ(K,vr,R,qs,k1)=>K) (r-n+1,cp,U,[],h5) ?_ ⟨?_,?_,?_,?_,?_,?_,AW⟩ ?_ I ?_
 ·
  refine⟨MLe.refl _,?_⟩;exact⟨ba,B1 _,B9,λx hx=>by simp at hx,by simp[val],cy,A3⟩
 · exact I
 · exact I
 · exact I
 · exact I
 · exact I
 · exact AV (AJ vI O)
 ·
  try dsimp only[List.nil_append,List.cons_append]
  exact AJ (λz=>[AG.us 176 .u32 H z]) (nK _)
 rintro⟨K,vr,R,qs,k1⟩ ⟨be,⟨hR,hK,en,ce,ac,aa,fa⟩⟩
 refine yO ?_;refine DV (λcj=>?_) λcj=>?_
 ·
  refine AZ ?_;refine BF (v:=vU .u64 0) I I (A5 ?_);have ey:=jF (wY R) (K-1+n);have ew:=jF (wY R) (K-1+n-1);have df:=jF (wY R) (K-1+n-2);refine jD (ι:=Unit) (λ(_u:(Unit))=>True) (λ(_u:(Unit))=>[(1,au),(4,H),(5,vr),(13,vI ↑s),(14,vI ↑n),(15,vI (↑K-1)),(16,vU .u64 (A0 (zB R) (K-1+n) 0))]) (λ(_u:(Unit))=>[.us 176 .u32 H (fK K qs)]) (λ(_u:(Unit))=>k1) ?_ ?_
  ·
   refine iY (λci=>?_) λci=>?_
   ·
    refine AR ?_;refine gv (yB (K-1+n) underlying39 sizeOf176 I I hR O O) I (AF ?_);refine zV (()) ?_ e7 I I
    trivial
   refine A7 ?_;refine zV (()) ?_ ⟨I,I,I,I,I,I,?_,AW⟩ I I
   · trivial
   · exact AV (AJ (vU .u64) (by rw[rH (xs:=zB R) O]))
  rintro _u ch
  refine yO ?_;refine jD (ι:=Unit) (λ(_u:(Unit))=>True) (λ(_u:(Unit))=>[(1,au),(4,H),(5,vr),(13,vI ↑s),(14,vI ↑n),(15,vI (↑K-1)),(16,vU .u64 (A0 (zB R) (K-1+n) 0*4294967296+A0 (zB R) (K-1+n-1) 0))]) (λ(_u:(Unit))=>[.us 176 .u32 H (fK K qs)]) (λ(_u:(Unit))=>k1) ?_ ?_
  ·
   refine EI (λbl=>?_) λbl=>?_
   ·
    refine A5 ?_;refine gv (fR (k:=.u64) (s:=32) (yk:=.u64) (W:=18446744073709551616) I I I I) I (AR ?_);refine gv (yB (K-1+n-1) underlying39 sizeOf176 I I hR O O) I (A5 ?_);refine gv (pR (k:=.u64) I I I (by simp only[ub];omega) (by simp only[ub];omega)) I ?_;rw[cX O O];refine A5 ?_;refine zV (()) ?_ e7 I I
    trivial
   refine A5 ?_;refine gv (fR (k:=.u64) (s:=32) (yk:=.u64) (W:=18446744073709551616) I I I I) I (A5 ?_);refine zV (()) ?_ ⟨I,I,I,I,I,I,?_,AW⟩ I I
   · trivial
   · exact AV (AJ (vU .u64) (by rw[rH (xs:=zB R) (i:=K-1+n-1) O];omega))
  rintro _u ch
  refine yO ?_;have dh:V<4294967296^n:=by rw[<-ae];exact uT V
  have dj:R<4294967296^(K+n):=DO aa (by rw[CX];exact Dz _ (Ib dh));have cq:∀i,K+n<=i->A0 (zB R) i 0=0:=λi hi=>iT (by rw[zF];exact dj) hi;obtain⟨wr,hW,cu⟩:=b3 (j:=K-1) cb (λi hi=>cq i O) (wY R);rw[kY (wY R),zF] at hW;have cn:=hJ (R:=R) (V:=V) (k:=K-1) (by rw[GS O];exact aa);obtain⟨top,az⟩:∃t,t=A0 (zB R) (K-1+n) 0*4294967296+A0 (zB R) (K-1+n-1) 0:=⟨_,I⟩;rw[<-az];rw[<-az] at hW;have em:top<18446744073709551616:=by omega
  have cf:=tt (by rw[hW] at cn ⊢;exact c3 co I df cu O cn);have dt:0<A0 (zB V) (n-1) 0:=by omega
  refine AZ ?_;replace D:=D.mono be;refine gv (yB (n-1) underlying39 sizeOf176 I I D O O) I (A5 ?_);refine gv (cV (k:=.u64) (W:=18446744073709551616) I I I I O O) I (gv (q3 (k:=.u64) (q:=4294967295) I I) I ?_);rw[Nat.min_def];rw[<-Nat.min_def];refine Af ?_;refine gv (vY (k:=.u64) (k':=.u32) (W:=4294967296) underlying169 underlying176 I I I O) I (cL (AK I I) call245 (λw hs=>eN hs D O O) λdr h6 ao bj=>?_);have eq:=yV V (min (top/A0 (zB V) (n-1) 0) 4294967295);have es:=gP (n:=min (top/A0 (zB V) (n-1) 0) 4294967295) O;refine A7 ?_;rw[show(↑K:Int)-1=↑(K-1) by omega];refine cL (AK I I) call244 (λw hs=>Yu hs bj O O) λbo h7 an bi=>(AR ?_);refine gB (ι:=A2×Nat×A4) (λ(vp,d,k2)=>MLe h7 k2/\(Us .u32 k2 vp (zB (V*d*4294967296^(K-1)))/\d<=4294967295/\R<V*(d+1)*4294967296^(K-1))) (λ(vp,d,k2)=>[(1,au),(4,H),(5,vr),(13,vI ↑s),(14,vI ↑n),(15,vI ↑(K-1)),(17,vU .u64 d),(18,vp)]) (λ(vp,d,k2)=>[.us 176 .u32 H (fK K qs)]) (λ(vp,d,k2)=>k2) (λ(vp,d,k2)=>d) (bo,min (top/A0 (zB V) (n-1) 0) 4294967295,h7) ?_ e8 I I ?_
  ·
   refine⟨MLe.refl _,?_⟩;exact⟨bi,Nat.min_le_right _ _,cf⟩
  rintro⟨vp,d,k2⟩ ⟨ad,⟨hp,eu,db⟩⟩
  refine yO ?_;refine AR ?_;replace hR:=hR.mono ((ao.trans an).trans ad);refine cL (AK I I) call112 (λw hs=>eH hs hp hR) λdq h8 Z bh=>?_;subst bh;refine B4 (λab=>?_) λab=>?_
  ·
   have Cr:=WS.1 ab;have cg:1<=d:=Cu λh0=>by rw[h0,FT,E2] at Cr;omega
   obtain⟨dd,dc⟩:=pw (V:=V) (p:=4294967296^(K-1)) cg;refine AZ ?_;refine gv (lZ (k:=.u64) (q:=1) (W:=18446744073709551616) I I I I O O) I (Af ?_);replace D:=D.mono (((ao.trans an).trans ad).trans Z);refine cL (AK I I) call244 (λw hs=>Yu hs D O O) λdp h9 av bg=>?_;have ep:=fB (V*d) (K-1);have dx:=yV V d;have dw:=gP (n:=d) O;replace hp:=hp.mono (Z.trans av);refine cL (AK I I) call206 (λw hs=>S0 hs hp bg dc O) λbn dl cc ak=>?_;rw[dd] at ak;refine AN ?_;refine qL (bn,d-1,dl) ?_ ?_ e8 I I
   ·
    refine⟨(((ad.trans Z).trans av).trans cc),?_⟩;exact⟨ak,A3,by rw[GS cg];exact Cr⟩
   dsimp only;omega
  have am:V*d*4294967296^(K-1)<=R:=Jd λhc=>ab (WS.2 hc);refine vV ?_;refine gv (vY (k:=.u64) (k':=.u32) (W:=4294967296) underlying169 underlying176 I I I O) I (gv (xM (A:=[]) (K-1) underlying39 sizeOf176 I I O (by rw[jT];omega)) I (vS sizeOf176 I I (by rw[jT];omega) (AR ?_)));replace hR:=hR.mono Z;replace hp:=hp.mono Z;refine cL (AK I I) call206 (λw hs=>S0 hs hR hp am O) λbm h9 av bf=>(Ak ?_);refine qL (K-1,bm,R-V*d*4294967296^(K-1),d::qs,h9) ?_ ?_ ⟨I,I,I,I,I,?_,AW⟩ ?_ I
  ·
   refine⟨(((((be.trans ao).trans an).trans ad).trans Z).trans av),?_⟩;have eK:(4294967296:Nat)^K=4294967296^(K-1)*4294967296:=by rw[<-CT,Nat.succ_eq_add_one,GS O]
   rw[eK] at ac;have dy:=yL (HC R (V*d*4294967296^(K-1)));exact⟨bf,A3,by simp only[lC];omega,pM.2 ⟨A3,ce⟩,nz ac am,d4 db am,A3⟩
  ·
   dsimp only;omega
  · exact AV (AJ vI O)
  try dsimp only[List.nil_append,List.cons_append]
  rw[nJ O]
 refine AZ ?_;have dk:K=0:=by omega
 subst dk;rw[aM];rw[OR,IS] at ac aa;refine A5 ?_;refine yR (by exact ce) ?_;intro h6 ao hq;refine cL (AU I) call203 (λw hs=>tW hs hq O) λdn h7 an J=>(A5 ?_);replace hR:=hR.mono (ao.trans an);refine cL (AK I I) call246 (λw hs=>ro hs hR O O) λdm h8 Z aj=>(AZ ?_);refine jC I I I I ?_;replace J:=J.mono Z;obtain⟨e1,e2⟩:=Zs (X:=X) (Y:=Y) (s:=s) (u:=R) (q:=val qs) O (by rw[<-hV,<-hU];exact ac) (by rw[<-hV];exact aa);rw[e1] at J;rw[e2] at aj;rw[A8 C,A8 C];exact⟨_,_,I,J,aj⟩
theorem ct{v v':A2}{A B:Nat}(hv:Us .u32 h0 v (zB A))(hv':Us .u32 h0 v' (zB B))(hl:A1 (zB A)<=549755813888)(hl':A1 (zB B)<=549755813888):
 Ae 204 #[v,v'] w0 h0 (λh r=>Us .u32 h r (zB (Nat.gcd A B))):=by
 obtain⟨G,hG⟩:∃G,G=Nat.gcd A B:=⟨_,I⟩;rw[<-hG];refine B0 51 v v' func204 hs ?_;refine AX ?_;refine cL (AU I) call203 (λw hs=>tW hs hv O) λak h1 av Z=>?_;rw[zF] at Z;refine A7 ?_;replace hv':=hv'.mono av;refine cL (AU I) call203 (λw hs=>tW hs hv' O) λaj h2 bg U=>?_;rw[zF] at U;refine AZ ?_;refine An (ι:=A2×Nat×A2×Nat×A4) (λ(vx,X,vy,Y,k1)=>(MLe h2 k1/\(Us .u32 k1 vx (zB X)/\Us .u32 k1 vy (zB Y)/\Nat.gcd X Y=G/\A1 (zB X)<=549755813888/\A1 (zB Y)<=549755813888),[(0,vx),(1,vy)],[],k1,Y)) (ak,A,aj,B,h2) ?_ ?_
 · exact⟨AM,Z.up,U,hG.symm,A3,A3⟩
 rintro⟨vx,X,vy,Y,k1⟩ ⟨ax,⟨ha,hb,M,bf,ar⟩⟩
 refine yO ?_;refine DU (λai=>?_) λai=>?_
 ·
  have J:Y≠0:=yJ.1 O;refine AZ ?_;refine cL (AU I) call240 (λw hs=>u9 hs ha) λbb h3 ah ad=>?_;subst ad;refine vV ?_;replace hb:=hb.mono ah;refine cL (AU I) call240 (λw hs=>u9 hs hb) λba h4 ae ac=>?_;subst ac;refine uG ?_;refine gU 3 32 (vB ((A1 (zB X)<=2)/\(A1 (zB Y)<=2))) ?_ ?_
  ·
   refine zY (A1 (zB X)<=2) (λM=>?_) (λM=>?_)
   ·
    refine gT M I (AF ?_);refine Ay ?_;exact AV (xE M)
   refine gF M I (AN ?_);refine Ay ?_;exact AV (xG M)
  refine BB (λC=>?_) λC=>?_
  ·
   rw[AC C.1,AC C.2];have ao:=mF C.1;have an:=mF C.2;refine A5 ?_;refine An (ι:=Nat×Nat) (λ(m,n)=>(Nat.gcd m n=G/\m<18446744073709551616/\n<18446744073709551616,[(5,vU .u64 m),(7,vU .u64 n)],[],h4,n)) (X,Y) ?_ ?_
   · exact⟨M,ao,an⟩
   rintro⟨m,n⟩ ⟨aa,hm,hn⟩
   refine yO ?_;refine AF ?_;refine gv (tX (k:=.u64) (q:=0) I I) I (BB (λH=>?_) λH=>?_)
   ·
    refine AN ?_;refine zG 6 _ [] (Ah 0 6 []) zX nX Ac nX (λr hr=>hr) (AN ?_);refine wK I (λ_ _=>cT (k:=.u64) I I O) I (AF ?_);refine Ad (n,m%n) ?_ ?_
    ·
     have bd:=BQ m (Cu H);exact⟨by rw[oL];exact aa,hn,A3⟩
    exact BQ _ (Cu H)
   refine AX ?_;refine cL (AU I) call165 (λw hs=>Il hs O) λaz h5 au ab=>(Ak ?_);refine zC I I ?_;have aq:n=0:=Br H;rw[aq,Kc] at aa;rw[<-aa];exact ab
  refine AZ ?_;replace ha:=ha.mono (ah.trans ae);replace hb:=hb.mono ae;refine cL (AK I I) call205 (λw hs=>Qc hs ha hb O O) λay h5 au D=>?_;obtain⟨bc,am,rfl,aw,D⟩:=D;rw[A8 J] at D;have be:=yL (Ib (BQ X (Cu J)));refine y7 ?_;refine Ad (vy,Y,am,X%Y,h5) ?_ ?_
  · exact⟨AM,hb.up,D,by rw[oL];exact M,ar,A3⟩
  exact BQ _ (Cu J)
 have J:Y=0:=C7 λap=>by have:=yJ.2 ap;omega
 refine uF ?_;refine zC I I ?_;rw[J,Kc] at M;rw[<-M];exact ha
theorem RC:
 Ae 162 #[] w0 h0 (λh r=>Us .u32 h r [1]):=by
 refine UT 2 func162 hs ?_;refine Af ?_;refine zE (tN (kd:=.u32) (p:=1) underlying39 uW I I I) I I I ?_;intro v1 r1 C;obtain rfl:=C;refine yR (by intro z hz;simp only[DP] at hz;subst hz;decide) ?_;intro h1 D h1;refine AF ?_;refine zC I I ?_;exact h1
theorem sP{sa:Bool}{vna vda:A2}{na da:List Nat}(hna:Us .u32 h0 vna na)(hda:Us .u32 h0 vda da):
 Calls prog 154 #[.agg #[.bool sa,vna,vda]] w0 (Bh w0 h0 (λh r=>Us .u32 h r (if da=[] then[1] else da))):=by
 refine BI 10 (.agg #[.bool sa,vna,vda]) func154 hs ?_;refine A5 ?_;refine zE (wE (cs:=[_,_,_]) I I) I I I ?_;intro v1 r1 H;obtain⟨Z,rfl,rfl⟩:=H;refine Fj (λD=>?_) λD=>?_
 ·
  refine A5 ?_;refine cL (vs:=[]) trivial call162 (λw hs=>RC hs) λU h1 M C=>?_;rw[oE] at C;have J:=N6;refine AR ?_;refine zC I I ?_;rw[AC (DG O),oE];exact C
 refine vV ?_;refine zC I I ?_;rw[A8 (λh=>D (by rw[h];rfl))];exact hda
theorem bH{qa:Rat}{vna vda:A2}(hna:Us .u32 h0 vna (zB (AH qa.num)))(hda:Us .u32 h0 vda (zB (wH qa.den)))(hl:A1 (zB (AH qa.num))<=1099511627776)(hl':A1 (zB (wH qa.den))<=1099511627776):
 Calls prog 159 #[.agg #[vB (qa.num<0),vna,vda]] w0 (Bh w0 h0 (λh r=>vJ h r qa)):=by
 refine BI 12 (.agg #[vB (qa.num<0),vna,vda]) func159 hs ?_;refine A5 ?_;refine zE (wE (cs:=[_,_,_]) I I) I I I ?_;intro v1 r1 ac;obtain⟨b1,rfl,rfl⟩:=ac;refine zE (vD (cs:=[vB ((0:Rat).num<0),.slice none 0 0,.slice none 0 0]) yQ I (by simp only[zb];rfl)) I I I ?_;intro v2 r2 ab;obtain⟨b2,rfl,rfl⟩:=ab;refine AN ?_;refine zG 9 _ [] (Ah 0 4 [(5,.q),(6,.q),(4,.c),(7,.c),(8,.c),(9,.t)]) zX nX Ac nX (λr hr=>hr) (AZ ?_);refine AB I ?_;refine eF (vs:=[_]) call176 ⟨I,AW⟩ (λw hs=>lY hs hna O) I ?_;intro v7 h1 L7 Z aa;obtain rfl:=aa;refine AB I ?_;replace hda:=hda.mono Z;refine eF (vs:=[_]) call176 ⟨I,AW⟩ (λw hs=>lY hs hda O) I ?_;intro J h2 ah U M;obtain rfl:=M;refine AB I ?_;replace hna:=hna.mono (Z.trans U);refine OZ (A:=[_]) (by exact hna.lt) (by simp only[BY,Bv,or_false];rintro r (rfl|rfl) _<;>simp) ?_;intro h3 ae D;replace hda:=hda.mono (U.trans ae);refine OZ (A:=[]) (by exact hda.lt) (by simp only[BY,Bv,or_false];rintro r (rfl|rfl) _<;>simp) ?_;intro h4 ad H;replace D:=D.mono ad;refine Oo (λX=>xQ (ps':=[(0,_),(1,_),(2,_)]) (vs:=[vB (qa.num<0),v7,J]) underlying41 yQ I (vW underlying41) e6 (wV (A:=[]) (B:=[_]) (C:=[_,_]) (cs:=[_]) (off:=0) (size:=1) I I I I I (wV (A:=[_]) (B:=[_]) (C:=[_]) (cs:=[_]) (off:=1) (size:=1) I I I I D.cells (wV (A:=[_,_]) (B:=[_]) (C:=[]) (cs:=[_]) (off:=2) (size:=1) I I I I H.cells qW)))) I (tC (A:=[]) (q':=.var b2 41 [vB (qa.num<0),v7,J]) I (zJ (k:=0) (cs:=[_,_,_]) (vs:=[_,_,_]) I I I (BW I (Aw D (Aw H Bf))) yC (bL I)) I (AN ?_));refine yI (λE S=>zS I (wM (cs:=[_,_,_]) Ar underlying41 I yC I) E S) ?_;exact⟨_,_,I,D,H⟩
theorem cv{qa:Rat}{vna vda:A2}(hna:Us .u32 h0 vna (zB (AH qa.num)))(hda:Us .u32 h0 vda (zB (wH qa.den)))(hl:A1 (zB (AH qa.num))<=1099511627776)(hl':A1 (zB (wH qa.den))<=1099511627776):
 Calls prog 86 #[.agg #[vB (qa.num<0),vna,vda]] w0 (Bh w0 h0 (λh r=>vJ h r (rJ qa))):=by
 refine BI 7 (.agg #[vB (qa.num<0),vna,vda]) func86 hs ?_;refine A5 ?_;refine zE (wE (cs:=[_,_,_]) I I) I I I ?_;intro v1 r1 Z;obtain⟨b1,rfl,rfl⟩:=Z;refine zE (vD (cs:=[vB ((0:Rat).num<0),.slice none 0 0,.slice none 0 0]) yQ I (by simp only[zb];rfl)) I I I ?_;intro v2 r2 U;obtain⟨b2,rfl,rfl⟩:=U;refine AR ?_;refine cL (AU I) call159 (λw hs=>bH hs hna hda O O) λv4 h1 aa M=>?_;obtain⟨C,D,rfl,H,J⟩:=M;refine xY (A:=[_]) (r':=.var b1 41 [vB ((qa).num<0),C,D]) (zJ (k:=0) (cs:=[_,_,_]) (vs:=[_,_,_]) I I I (BW I (Aw H (Aw J Bf))) yC (bL I)) I I I (AR ?_);refine xY (A:=[_]) (r':=.var b1 41 [.bool false,C,D]) (zJ (k:=0) (cs:=[_,_,_]) (vs:=[_]) I I I I OU (bL I)) I I I (AR ?_);refine xY (A:=[]) (r':=.var b2 41 [.bool false,C,D]) (zJ (k:=0) (cs:=[_,_,_]) (vs:=[_,_,_]) I I I (BW I (Aw H (Aw J Bf))) yC (bL I)) I I I (AN ?_);refine yI (λE S=>zS I (wM (cs:=[_,_,_]) Ar underlying41 I yC I) E S) ?_;exact vJ.abs H J
theorem hQ{qa:Rat}{vna vda:A2}(hna:Us .u32 h0 vna (zB (AH qa.num)))(hda:Us .u32 h0 vda (zB (wH qa.den)))(hl:A1 (zB (AH qa.num))<=1099511627776)(hl':A1 (zB (wH qa.den))<=1099511627776):
 Calls prog 107 #[.agg #[vB (qa.num<0),vna,vda]] w0 (Bh w0 h0 (λh r=>vJ h r (-qa))):=by
 refine BI 16 (.agg #[vB (qa.num<0),vna,vda]) func107 hs ?_;refine A5 ?_;refine zE (wE (cs:=[_,_,_]) I I) I I I ?_;intro v1 r1 aa;obtain⟨b1,rfl,rfl⟩:=aa;refine zE (vD (cs:=[vB ((0:Rat).num<0),.slice none 0 0,.slice none 0 0]) yQ I (by simp only[zb];rfl)) I I I ?_;intro v2 r2 Z;obtain⟨b2,rfl,rfl⟩:=Z;refine AR ?_;refine cL (AU I) call159 (λw hs=>bH hs hna hda O O) λv4 h1 ab U=>?_;obtain⟨C,D,rfl,H,J⟩:=U;refine xY (A:=[_]) (r':=.var b1 41 [vB ((qa).num<0),C,D]) (zJ (k:=0) (cs:=[_,_,_]) (vs:=[_,_,_]) I I I (BW I (Aw H (Aw J Bf))) yC (bL I)) I I I (Af ?_);refine gU 6 13 (vB ((¬qa.num<0)/\((0:Int)<↑(A1 (zB (AH qa.num)))))) ?_ ?_
 ·
  refine zY (¬qa.num<0) (λM=>?_) (λM=>?_)
  ·
   refine gT M I (vV ?_);refine Ay ?_;exact AV (xE M)
  refine gF M I (AZ ?_);refine Ay ?_;exact AV (xG M)
 refine A7 ?_;refine xY (A:=[_]) (r':=.var b1 41 [vB ((¬qa.num<0)/\((0:Int)<↑(A1 (zB (AH qa.num))))),C,D]) (zJ (k:=0) (cs:=[_,_,_]) (vs:=[_]) I I I I OU (bL I)) I I I (AR ?_);refine xY (A:=[]) (r':=.var b2 41 [vB ((¬qa.num<0)/\((0:Int)<↑(A1 (zB (AH qa.num))))),C,D]) (zJ (k:=0) (cs:=[_,_,_]) (vs:=[_,_,_]) I I I (BW I (Aw H (Aw J Bf))) yC (bL I)) I I I (AN ?_);refine yI (λE S=>zS I (wM (cs:=[_,_,_]) Ar underlying41 I yC I) E S) ?_;exact vJ.negB H J
theorem NE{v:A2}{xs:List Nat}(hv:Us .u32 h0 v xs)(hl:A1 xs<=2):
 Ae 207 #[v] w0 h0 (λ_ r=>r=vU .u64 (val xs)):=by
 have J:BD xs:=hv.lt;refine BI 21 v func207 hs ?_;refine A5 ?_;refine BF (v:=vU .u64 0) I I (AF ?_);refine BF (v:=vU .u64 0) I I (uF ?_);have D:val (xs.drop (A1 xs))=0:=by rw[EB (B1 _)];rfl
 refine gB (ι:=Nat) (λ(j:(Nat))=>j<=A1 xs) (λ(j:(Nat))=>[(0,v),(3,vU .u64 (val (xs.drop j))),(4,vI (↑j-1))]) (λ(j:(Nat))=>[]) (λ(j:(Nat))=>h0) (λ(j:(Nat))=>j) (A1 xs) ?_ ⟨?_,?_,?_,AW⟩ I I ?_
 · exact B1 _
 · exact I
 · exact AV (AJ (vU .u64) D.symm)
 · exact I
 rintro j M
 refine yO ?_;refine DV (λH=>?_) λH=>?_
 ·
  refine AZ ?_;refine gv (fR (k:=.u64) (s:=32) (yk:=.u64) (W:=18446744073709551616) I I I I) I (A5 ?_);refine gv (yB (j-1) underlying39 sizeOf176 I I hv O O) I (A7 ?_);have C:=hv.get32 (j-1);refine A7 ?_;refine gv (pR (k:=.u64) I I I (by simp only[ub];omega) (by simp only[ub];omega)) I ?_;rw[cX (by
   have h2:=gL (x4 J j);rw[Cn] at h2;have h3:(4294967296:Nat)^(A1 xs-j)<=4294967296^1:=D0 O O;omega) C]
  refine Ak ?_;refine qL (j-1) ?_ ?_ ⟨I,?_,?_,AW⟩ I I
  · omega
  · omega
  ·
   rw[kL xs (j-1) O];exact AV (AJ (vU .u64) (by rw[show j-1+1=j by omega];omega))
  · exact AV (AJ vI O)
 refine uF ?_;refine zC I I ?_;rw[show j=0 by omega];rfl
theorem bj{m n:Nat}(hm0:m<18446744073709551616)(hn0:n<18446744073709551616):
 Ae 208 #[vU .u64 m,vU .u64 n] w0 h0 (λ_ r=>r=vU .u64 (Nat.gcd m n)):=by
 refine B0 12 (vU .u64 m) (vU .u64 n) func208 hs ?_;refine A5 ?_;refine BF (v:=vU .u64 0) I I (AF ?_);refine An (ι:=Nat×Nat) (λ(x,y)=>(Nat.gcd x y=Nat.gcd m n/\x<18446744073709551616/\y<18446744073709551616,[(0,vU .u64 x),(1,vU .u64 y)],[],h0,y)) (m,n) ?_ ?_
 · exact⟨I,hm0,hn0⟩
 rintro⟨x,y⟩ ⟨D,Z,M⟩
 refine yO ?_;refine AF ?_;refine gv (tX (k:=.u64) (q:=0) I I) I (BB (λC=>?_) λC=>?_)
 ·
  refine AN ?_;refine zG 6 _ [] (Ah 0 6 []) zX nX Ac nX (λr J=>J) (AN ?_);refine wK I (λ_ _=>cT (k:=.u64) I I O) I (AF ?_);refine Ad (y,x%y) ?_ ?_
  ·
   have U:=BQ x (Cu C);exact⟨by rw[oL];exact D,M,A3⟩
  exact BQ _ (Cu C)
 refine uF ?_;refine zC I I ?_;have H:y=0:=Br C;rw[H,Kc] at D;rw[D]
theorem Pf{n:Int}(hn:-9223372036854775808<=n)(hn':n<9223372036854775808):
 Ae 163 #[vI n] w0 h0 (λh r=>Us .u32 h r (zB (AH n))):=by
 refine BI 12 (vI n) func163 hs ?_;refine Fj (λM=>?_) λM=>?_
 ·
  have H:AH n=9223372036854775808:=by omega
  refine A5 ?_;refine cL (vs:=[vU .u64 9223372036854775808]) ⟨I,AW⟩ call217 (λw hs=>E9 hs O) λZ h1 J D=>(AR ?_);refine zC I I ?_;rw[H];exact D
 refine AZ ?_;refine gv (oB I O O) I (gv (T5 I I) I (gv (RW (p:=AH n) (k':=.u64) (W:=18446744073709551616) underlying2 underlying169 I I (AV (AJ vI O)) O) I (cL (AU I) call217 (λw hs=>E9 hs O) λU h1 J C=>(AF ?_))));refine zC I I ?_;exact C
end
theorem WL{w0 w:AP}{h0 h:A4}{v u:A2}{xs:List Nat}{L:List AG}{lo n:Nat}(hu:u=tA 1 v lo (A1 xs))(hlo:lo+2<=A1 xs)(hn0:n≠0)(hn:n<18446744073709551616)(hs:St w0 h0 (.us 176 .u32 v xs::L) h w):
 Calls prog 209 #[u,vU .u64 n] w (gV w0 h0 (λg r K=>g=h/\K=.us 176 .u32 v (xs.take lo++zB n++xs.drop (lo+A1 (zB n)))::L/\r=vI ↑(A1 (zB n)))):=by
 refine jZ (n:=17) (e:=[(0,u),(1,vU .u64 n)]) (vs:=[u,vU .u64 n]) func209 rfl rfl (bL rfl) hs Al (vV ?_);refine gv (W7 (q:=0) Ar hu (0) underlying39 sizeOf176 I I I O) I (vS sizeOf176 I I O (Af ?_));refine gv (fS (k:=.u64) (q:=0) I I) I (BB (λD=>?_) λD=>?_)
 ·
  refine Af ?_;refine qU I I ?_;have C:n<4294967296:=by omega
  refine⟨I,?_,by rw[gK hn0 C];rfl⟩;rw[CG C,Cq,s2 O hn0 C]
 refine AX ?_;refine gv (W7 (q:=1) Ar (by rw[lS];exact hu) (1) underlying39 sizeOf176 I I I (by rw[lS];omega)) I (vS sizeOf176 I I Gl (AX ?_));refine qU I I ?_;have C:4294967296<=n:=by omega
 have H:n/2^32%4294967296=n/4294967296:=by omega
 refine⟨I,?_,?_⟩
 · rw[H,Cq,td hlo hn C]
 · rw[gJ O,gK (t:=n/4294967296) O O];rfl
section
variable{w0:AP}{h0:A4}(hs:MLe h0 (BE w0))
include hs
theorem lH{s:Prop}{n d:Nat}(hn:n<18446744073709551616)(hd:d<18446744073709551616)(hd0:d≠0):
 Ae 151 #[vB s,vU .u64 n,vU .u64 d] w0 h0 (λh r=>vJ h r (mkRat (sg s n) d)):=by
 refine Cs 50 (vB s) (vU .u64 n) (vU .u64 d) func151 hs ?_;refine A5 ?_;refine zE (vD (cs:=[vB ((0:Rat).num<0),.slice none 0 0,.slice none 0 0]) yQ I (by simp only[zb];rfl)) I I I ?_;intro v6 r6 ak;obtain⟨b6,rfl,rfl⟩:=ak;refine AZ ?_;refine gv (fS (k:=.u64) (q:=0) I I) I (BB (λU=>?_) λU=>?_)
 ·
  refine A5 ?_;refine gv (xQ (ps':=[]) (vs:=[vB ((0:Rat).num<0),.slice none 0 0,.slice none 0 0]) underlying41 yQ I (vW underlying41) trivial (by simp only[zb];exact qW)) I (xY (A:=[]) (r':=.var b6 41 [vB ((0:Rat).num<0),.slice none 0 0,.slice none 0 0]) (zJ (k:=0) (cs:=[_,_,_]) (vs:=[_,_,_]) I I I I yC (bL I)) I I I (AF ?_));refine yI (λE S=>zS I (wM (cs:=[_,_,_]) Ar underlying41 I yC I) E S) ?_;rw[U,KM];exact vJ.zero _
 have ae:n≠0:=by omega
 refine AZ ?_;refine cL (AK I I) call208 (λw hs=>bj hs O O) λba h1 bg ab=>?_;subst ab;refine A7 ?_;have ah:0<Nat.gcd n d:=MO d O;have am:n/Nat.gcd n d≠0:=JN (Nat.div_pos (OC O (NP n d)) ah);have aq:d/Nat.gcd n d≠0:=JN (Nat.div_pos (OC O (Nat.gcd_dvd_right n d)) ah);have bd:=E1 n (Nat.gcd n d);have bh:=E1 d (Nat.gcd n d);refine AN ?_;refine zG 8 _ [] (Ah 0 8 []) zX nX Ac nX (λr hr=>hr) (A5 ?_);refine wK I (λ_ _=>cV (k:=.u64) (W:=18446744073709551616) I I I I O O) I (A5 ?_);refine wK I (λ_ _=>cV (k:=.u64) (W:=18446744073709551616) I I I I O O) I (A5 ?_);generalize hA:n/Nat.gcd n d=A at *;generalize hB:d/Nat.gcd n d=B at *;have bf:=gP (n:=A) O;have be:=gP (n:=B) O;refine AF ?_;refine jI (kd:=.u32) (by':=4) (q:=4) (q':=4) 4 underlying39 uW I I I I I I I O O I ?_;intro D;refine Af ?_;refine aK (vs:=[_,_]) I I I I call209 Al (λw hs=>WL (hs.own_self (.head _)) dC am O hs) ?_;intro az au aw J;obtain⟨e1,e2,J⟩:=J;rw[e1,e2]
 clear e1 e2 au aw
 subst J;rw[show List.take 0 (List.replicate 4 0)++zB A++List.drop (0+A1 (zB A)) (List.replicate 4 0)=zB A++List.replicate (4-A1 (zB A)) 0 from by rw[HT,Fg,E6,List.drop_replicate]];have ao:A1 (zB A++List.replicate (4-A1 (zB A)) 0)=4:=by simp;omega
 refine Ak ?_;refine o8 (.head _) (λad bi aa ax=>?_);have M:gR 1 D 0 (A1 (zB A)) (A1 (zB A))=.slice (if(A1 (zB A))=0 then ad else ad.map (·.add (0*1))) (A1 (zB A)-0) (A1 (zB A)-0):=by rw[aa];rfl
 refine gv (lk Ar _ _ underlying39 sizeOf176 I I I I I O O) I (gv (xQ (ps':=[(0,_),(1,_)]) (vs:=[vB s,gR 1 D 0 _ _,.slice none 0 0]) underlying41 yQ I (vW underlying41) BR (wV (A:=[]) (B:=[_]) (C:=[_,_]) (cs:=[_]) (off:=0) (size:=1) I I I I I (wV (A:=[_]) (B:=[_]) (C:=[_]) (cs:=[_]) (off:=1) (size:=1) I I I I (by rw[M];rfl) qW))) I (zE (vD (cs:=[vB ((0:Rat).num<0),.slice none 0 0,.slice none 0 0]) yQ I (by simp only[zb];rfl)) I I I ?_));intro bb bc ac;obtain⟨aj,rfl,rfl⟩:=ac;refine xY (A:=[]) (r':=.var aj 41 [vB s,gR 1 D 0 _ _,.slice none 0 0]) (zJ (k:=0) (cs:=[_,_,_]) (vs:=[vB s,gR 1 D 0 _ _,.slice none 0 0]) I I I (by rw[M];rfl) yC (bL I)) I I I (AZ ?_);refine gv (nC (k:=.u64) (q:=1) I I) I (BB (λai=>?_) λai=>?_)
 ·
  refine AR ?_;refine gv (pd Ax _ underlying39 sizeOf176 I I I O) I (A7 ?_);refine y8 (A:=[_]) ?_;refine aK (vs:=[_,_]) I I I I call209 Al (λw hs=>WL (lo:=A1 (zB A)) B5 O aq O hs) ?_;intro ay ar av H;obtain⟨e1,e2,H⟩:=H;rw[e1,e2]
  clear e1 e2 ar av
  subst H;rw[show List.take (A1 (zB A)) (zB A++List.replicate (4-A1 (zB A)) 0)++zB B++List.drop (A1 (zB A)+A1 (zB B)) (zB A++List.replicate (4-A1 (zB A)) 0)=zB A++zB B++List.replicate (4-A1 (zB A)-A1 (zB B)) 0 from by simp];have an:A1 (zB A++zB B++List.replicate (4-A1 (zB A)-A1 (zB B)) 0)=4:=by simp;omega
  refine Ak ?_;have Z:gR 1 D (A1 (zB A)) (A1 (zB A)+A1 (zB B)) (A1 (zB A)+A1 (zB B))=.slice (if(A1 (zB A))+A1 (zB B)=A1 (zB A) then ad else ad.map (·.add (A1 (zB A)*1))) (A1 (zB A)+A1 (zB B)-A1 (zB A)) (A1 (zB A)+A1 (zB B)-A1 (zB A)):=by rw[aa];rfl
  refine gv (qu Ar (A1 (zB A)) (A1 (zB A)+A1 (zB B)) (A1 (zB A)+A1 (zB B)) underlying39 sizeOf176 I I I I O O O O O O) I (A7 ?_);refine xY (A:=[_]) (r':=.var aj 41 [vB s,gR 1 D 0 _ _,gR 1 D (A1 (zB A)) (A1 (zB A)+A1 (zB B)) (A1 (zB A)+A1 (zB B))]) (zJ (k:=2) (cs:=[_,_,_]) (vs:=[gR 1 D (A1 (zB A)) (A1 (zB A)+A1 (zB B)) (A1 (zB A)+A1 (zB B))]) I I (by rw[Z];rfl) (by rw[Z];rfl) oh (bL I)) I I I (AF ?_);refine yR (by first|exact uX (uX (wY A) (wY B)) (kK _)|exact uX (wY A) (kK _)) ?_;intro h2 ap hz;refine A7 ?_;refine xY (A:=[_]) (r':=.var b6 41 [vB s,gR 1 D 0 _ _,gR 1 D (A1 (zB A)) (A1 (zB A)+A1 (zB B)) (A1 (zB A)+A1 (zB B))]) (zJ (k:=0) (cs:=[_,_,_]) (vs:=[vB s,gR 1 D 0 _ _,gR 1 D (A1 (zB A)) (A1 (zB A)+A1 (zB B)) (A1 (zB A)+A1 (zB B))]) I I I (by rw[M,Z];rfl) yC (bL I)) I I I (AN ?_);refine yI (λE S=>zS I (wM (cs:=[_,_,_]) Ax underlying41 I yC I) E S) ?_;have z1:=hz.sub3 (lo:=0) (hi:=A1 (zB A)) (mx:=A1 (zB A)) O O O;have z2:=hz.sub3 (lo:=A1 (zB A)) (hi:=A1 (zB A)+A1 (zB B)) (mx:=A1 (zB A)+A1 (zB B)) O O O;refine vJ.make ae hd0 ?_ ?_
  · rw[hA];simpa using z1
  · rw[hB];rw[bY O];simpa using z2
 refine AF ?_;refine jb (by first|exact uX (uX (wY A) (wY B)) (kK _)|exact uX (wY A) (kK _)) ?_;intro h2 ap hz;refine A7 ?_;refine xY (A:=[_]) (r':=.var b6 41 [vB s,gR 1 D 0 _ _,.slice none 0 0]) (zJ (k:=0) (cs:=[_,_,_]) (vs:=[vB s,gR 1 D 0 _ _,.slice none 0 0]) I I I (by rw[M];rfl) yC (bL I)) I I I (AN ?_);refine yI (λE S=>zS I (wM (cs:=[_,_,_]) Ax underlying41 I yC I) E S) ?_;have z1:=hz.sub3 (lo:=0) (hi:=A1 (zB A)) (mx:=A1 (zB A)) O O O;refine vJ.make ae hd0 ?_ ?_
 · rw[hA];simpa using z1
 · rw[hB];rw[show B=1 by omega,aN,xT];exact Us.nil _ _
theorem cH{qa:Rat}{vna vda:A2}(hna:Us .u32 h0 vna (zB (AH qa.num)))(hda:Us .u32 h0 vda (zB (wH qa.den))):
 Calls prog 150 #[.agg #[vB (qa.num<0),vna,vda]] w0 (Bh w0 h0 (λ_ r=>r=.tuple #[vU .u64 (pN qa),vU .u64 (pD qa),vB (sT qa)])):=by
 refine BI 30 (.agg #[vB (qa.num<0),vna,vda]) func150 hs ?_;refine A5 ?_;refine zE (wE (cs:=[_,_,_]) I I) I I I ?_;intro v1 r1 ab;obtain⟨b1,rfl,rfl⟩:=ab;refine BF (v:=vU .u64 0) I I (BF (v:=vU .u64 0) I I (vV ?_));refine gU 6 14 (vB (((1:Int)<(↑(A1 (zB (AH qa.num))):Int))\/((1:Int)<(↑(A1 (zB (wH qa.den))):Int)))) ?_ ?_
 ·
  refine zY ((1:Int)<(↑(A1 (zB (AH qa.num))):Int)) (λZ=>?_) (λZ=>?_)
  ·
   refine gT Z I (AZ ?_);refine Ay ?_;exact AV (vN Z)
  refine gF Z I (vV ?_);refine Ay ?_;exact AV (vO Z)
 refine BB (λJ=>?_) λJ=>?_
 ·
  have M:¬sT qa:=qc J;refine A5 ?_;refine BF (v:=vU .u64 0) I I (BF (v:=vU .u64 0) I I (AR ?_));refine jC I I I I ?_;rw[oj M,mq M,yH M]
 have C:sT qa:=r6 J;have ad:=tF C;have ae:=tG C;refine AF ?_;refine BF (v:=vU .u64 1) I I (EI (λH=>?_) λH=>?_)
 ·
  have U:A0 (zB (wH qa.den)) 0 0=qa.den:=hC H;refine AN ?_;refine gv (yB (q:=0) (0) underlying39 sizeOf176 I I hda I O) I (A7 ?_);rw[U];refine AX ?_;refine cL (AU I) call207 (λw hs=>NE hs hna O) λaa h1 ac D=>?_
  try simp only[zF] at D
  subst D;refine A5 ?_;refine gv (OpV.tr (by have:=qa.den_nz;omega) (tX (k:=.u64) (q:=0) I I)) I (AZ ?_);refine jC I I I I ?_;rw[GO C,G1 C,yU C]
 have U:qa.den=1:=p0 H C;refine AZ ?_;refine cL (AU I) call207 (λw hs=>NE hs hna O) λaa h1 ac D=>?_
 try simp only[zF] at D
 subst D;refine A5 ?_;refine gv (OpV.tr (by have:=qa.den_nz;omega) (tX (k:=.u64) (q:=0) I I)) I (AZ ?_);refine jC I I I I ?_;rw[GO C,G1 C,yU C,U]
theorem kU{s:Prop}{vn vd:A2}{xs ys:List Nat}(hn:Us .u32 h0 vn xs)(hd:Us .u32 h0 vd ys)(hl:A1 xs<=1000000000000)(hl':A1 ys<=1000000000000):
 Ae 152 #[vB s,vn,vd] w0 h0 (λh r=>vJ h r (mkRat (sg s (val xs)) (val ys))):=by
 have cl:=mR (n:=val xs);have ck:=mR (n:=val ys);have cf:=uU hn.lt;have ce:=uU hd.lt;refine Cs 68 (vB s) vn vd func152 hs ?_;refine A5 ?_;refine zE (vD (cs:=[vB ((0:Rat).num<0),.slice none 0 0,.slice none 0 0]) yQ I (by simp only[zb];rfl)) I I I ?_;intro v6 r6 bl;obtain⟨b6,rfl,rfl⟩:=bl;refine AZ ?_;refine cL (AU I) call158 (λw hs=>Na hs hn O) λv9 h1 ao bf=>?_
 try simp only[zF] at bf
 subst bf;refine A7 ?_;refine uH (ι:=A4) 5 (λm_=>MLe h1 m_) (λ_=>[(15,vB (((↑(uO (val (xs))):Int)=(0:Int))\/((↑(uO (val (ys))):Int)=(0:Int)))),(0,vB s),(1,vn),(2,vd),(6,vP b6 0)]) (λ_=>[.var b6 41 [vB ((0:Rat).num<0),.slice none 0 0,.slice none 0 0]]) (λm_=>m_) ?_ ?_
 ·
  refine zY ((↑(uO (val (xs))):Int)=(0:Int)) (λU=>?_) (λU=>?_)
  ·
   refine gT U I (AR ?_);refine zV h1 (MLe.refl _) ⟨?_,I,I,I,I,AW⟩ I I;exact AV (vN U)
  refine gF U I (AN ?_);replace hd:=hd.mono ao;refine cL (AU I) call158 (λw hs=>Na hs hd O) λbx h2 ab ay=>?_
  try simp only[zF] at ay
  subst ay;refine AF ?_;refine zV h2 ab ⟨?_,I,I,I,I,AW⟩ I I;exact AV (vO U)
 intro bk J;refine fM ?_;refine BB (λae=>?_) λae=>?_
 ·
  refine A5 ?_;refine gv (xQ (ps':=[]) (vs:=[vB ((0:Rat).num<0),.slice none 0 0,.slice none 0 0]) underlying41 yQ I (vW underlying41) trivial (by simp only[zb];exact qW)) I (xY (A:=[]) (r':=.var b6 41 [vB ((0:Rat).num<0),.slice none 0 0,.slice none 0 0]) (zJ (k:=0) (cs:=[_,_,_]) (vs:=[_,_,_]) I I I I yC (bL I)) I I I (AF ?_));refine yI (λE S=>zS I (wM (cs:=[_,_,_]) Ar underlying41 I yC I) E S) ?_
  rcases ae with h|h
  · rw[show val xs=0 by omega,KM];exact vJ.zero _
  · rw[show val ys=0 by omega,QY];exact vJ.zero _
 have aq:val xs≠0:=λh=>ae (.inl O);have au:val ys≠0:=λh=>ae (.inr O);replace hn:=hn.mono (ao.trans J);refine AX ?_;refine gU 5 24 (vB (((↑(A1 (xs)):Int)<=(2:Int))/\((↑(A1 (ys)):Int)<=(2:Int)))) ?_ ?_
 ·
  refine zY ((↑(A1 (xs)):Int)<=(2:Int)) (λU=>?_) (λU=>?_)
  ·
   refine gT U I ?_;replace hd:=hd.mono (ao.trans J);refine AX ?_;refine Ay ?_;exact AV (xE U)
  refine gF U I (AR ?_);refine Ay ?_;exact AV (xG U)
 refine BB (λbj=>?_) λbj=>?_
 ·
  have cd:=mF (n:=val xs) O;have cj:=mF (n:=val ys) O;refine AF ?_;refine cL (AU I) call207 (λw hs=>NE hs hn O) λbw h2 ab ax=>?_
  try simp only[zF] at ax
  subst ax;refine A7 ?_;replace hd:=hd.mono ((ao.trans J).trans ab);refine cL (AU I) call207 (λw hs=>NE hs hd O) λbv h3 ah aw=>?_
  try simp only[zF] at aw
  subst aw;refine cL (BM I I I) call151 (λw hs=>lH hs O O O) λbu h4 an bg=>?_;obtain⟨bd,be,rfl,az,ba⟩:=bg;refine xY (A:=[]) (r':=.var b6 41 [vB ((mkRat (sg (s) (val (xs))) (val (ys))).num<0),bd,be]) (zJ (k:=0) (cs:=[_,_,_]) (vs:=[_,_,_]) I I I (BW I (Aw az (Aw ba Bf))) yC (bL I)) I I I (AF ?_);refine yI (λE S=>zS I (wM (cs:=[_,_,_]) Ar underlying41 I yC I) E S) ?_;exact⟨_,_,I,az,ba⟩
 refine Af ?_;replace hd:=hd.mono (ao.trans J);refine cL (AK I I) call210 (λw hs=>fd hs hn hd O O) λbt h2 ab M=>?_
 try simp only[zF] at M
 have bo:=X7 (val (xs)) (val (ys));have bi:Nat.gcd (val xs) (val ys)≠0:=JN (MO _ O);have ci:=yL (OC O (NP (val xs) (val ys)));refine AZ ?_;refine cL (AU I) call158 (λw hs=>Na hs M O) λbs h3 ah av=>?_
 try simp only[zF] at av
 subst av;refine B4 (λap=>?_) λap=>?_
 ·
  refine AF ?_;replace hn:=hn.mono (ab.trans ah);replace M:=M.mono ah;refine cL (AK I I) call211 (λw hs=>M6 hs hn M O O) λbr h4 an am=>?_;obtain⟨cc,ca,rfl,ad,am⟩:=am
  try simp only[zF] at ad am ⊢
  have bn:=yL (E1 (val (xs)) (((Nat.gcd (val (xs)) (val (ys))))));have ch:=yL (E1 (val xs) (Nat.gcd (val xs) (val ys)));refine vV ?_;replace hd:=hd.mono ((ab.trans ah).trans an);replace M:=M.mono an;refine cL (AK I I) call211 (λw hs=>M6 hs hd M O O) λbq h5 ar ak=>?_;obtain⟨cb,bz,rfl,ac,ak⟩:=ak
  try simp only[zF] at ac ak ⊢
  have bm:=yL (E1 (val (ys)) (((Nat.gcd (val (xs)) (val (ys))))));have cg:=yL (E1 (val ys) (Nat.gcd (val xs) (val ys)));refine vV ?_;replace ad:=ad.mono ar;refine cL (AK I I) call212 (λw hs=>j5 hs ad (Us.nil _ _) Hf Hf) λaa h6 bp D=>?_
  try simp only[zF] at D
  have bc:=gE ((((val (xs))/(((Nat.gcd (val (xs)) (val (ys)))))))) (val ([]));refine A7 ?_;replace ac:=ac.mono bp;refine cL (AK I I) call212 (λw hs=>j5 hs ac (Us.nil _ _) Hf Hf) λaj h7 bh H=>?_
  try simp only[zF] at H
  have bb:=gE ((((val (ys))/(((Nat.gcd (val (xs)) (val (ys)))))))) (val ([]));refine vV ?_;refine gU 6 63 (vB (((↑(A1 (zB (((((val (ys))/(((Nat.gcd (val (xs)) (val (ys))))))))+(val ([]))))):Int)=(1:Int))/\((A0 (zB (((((val (ys))/(((Nat.gcd (val (xs)) (val (ys))))))))+(val ([])))) (0) 0)=(1:Nat)))) ?_ ?_
  ·
   refine zY ((↑(A1 (zB (((((val (ys))/(((Nat.gcd (val (xs)) (val (ys))))))))+(val ([]))))):Int)=(1:Int)) (λU=>?_) (λU=>?_)
   ·
    refine gT U I (AN ?_);refine gv (yB (q:=0) (0) underlying39 sizeOf176 I I H I O) I (AN ?_);refine gv (fS (k:=.u32) (q:=1) I I) I (A5 ?_);refine Ay ?_;exact AV (xE U)
   refine gF U I (AZ ?_);refine Ay ?_;exact AV (xG U)
  refine BB (λZ=>?_) λZ=>?_
  ·
   refine Ak ?_;replace D:=D.mono bh;refine gv (xQ (ps':=[(0,_),(1,_),(2,_)]) (vs:=[vB s,aa,.slice none 0 0]) underlying41 yQ I (vW underlying41) e6 (wV (A:=[]) (B:=[_]) (C:=[_,_]) (cs:=[_]) (off:=0) (size:=1) I I I I I (wV (A:=[_]) (B:=[_]) (C:=[_]) (cs:=[_]) (off:=1) (size:=1) I I I I D.cells (wV (A:=[_,_]) (B:=[_]) (C:=[]) (cs:=[_]) (off:=2) (size:=1) I I I I I qW)))) I (xY (A:=[]) (r':=.var b6 41 [vB s,aa,.slice none 0 0]) (zJ (k:=0) (cs:=[_,_,_]) (vs:=[_,_,_]) I I I (BW I (Aw D (BW I Bf))) yC (bL I)) I I I (AN ?_));refine yI (λE S=>zS I (wM (cs:=[_,_,_]) Ar underlying41 I yC I) E S) ?_;exact vJ.fin1 aq au D Z
  refine Af ?_;replace D:=D.mono bh;refine gv (xQ (ps':=[(0,_),(1,_),(2,_)]) (vs:=[vB s,aa,aj]) underlying41 yQ I (vW underlying41) e6 (wV (A:=[]) (B:=[_]) (C:=[_,_]) (cs:=[_]) (off:=0) (size:=1) I I I I I (wV (A:=[_]) (B:=[_]) (C:=[_]) (cs:=[_]) (off:=1) (size:=1) I I I I D.cells (wV (A:=[_,_]) (B:=[_]) (C:=[]) (cs:=[_]) (off:=2) (size:=1) I I I I H.cells qW)))) I (xY (A:=[]) (r':=.var b6 41 [vB s,aa,aj]) (zJ (k:=0) (cs:=[_,_,_]) (vs:=[_,_,_]) I I I (BW I (Aw D (Aw H Bf))) yC (bL I)) I I I (AN ?_));refine yI (λE S=>zS I (wM (cs:=[_,_,_]) Ar underlying41 I yC I) E S) ?_;exact vJ.fin aq au D H Z
 refine AR ?_;replace hn:=hn.mono (ab.trans ah);refine cL (AK I I) call212 (λw hs=>j5 hs hn (Us.nil _ _) Hf Hf) λaa h4 an D=>?_
 try simp only[zF] at D
 have bc:=gE (val (xs)) (val ([]));refine A7 ?_;replace hd:=hd.mono ((ab.trans ah).trans an);refine cL (AK I I) call212 (λw hs=>j5 hs hd (Us.nil _ _) Hf Hf) λaj h5 ar H=>?_
 try simp only[zF] at H
 have bb:=gE (val (ys)) (val ([]));refine vV ?_;refine gU 6 63 (vB (((↑(A1 (zB ((val (ys))+(val ([]))))):Int)=(1:Int))/\((A0 (zB ((val (ys))+(val ([])))) (0) 0)=(1:Nat)))) ?_ ?_
 ·
  refine zY ((↑(A1 (zB ((val (ys))+(val ([]))))):Int)=(1:Int)) (λU=>?_) (λU=>?_)
  ·
   refine gT U I (AN ?_);refine gv (yB (q:=0) (0) underlying39 sizeOf176 I I H I O) I (AN ?_);refine gv (fS (k:=.u32) (q:=1) I I) I (A5 ?_);refine Ay ?_;exact AV (xE U)
  refine gF U I (AZ ?_);refine Ay ?_;exact AV (xG U)
 refine BB (λZ=>?_) λZ=>?_
 ·
  refine Ak ?_;replace D:=D.mono ar;refine gv (xQ (ps':=[(0,_),(1,_),(2,_)]) (vs:=[vB s,aa,.slice none 0 0]) underlying41 yQ I (vW underlying41) e6 (wV (A:=[]) (B:=[_]) (C:=[_,_]) (cs:=[_]) (off:=0) (size:=1) I I I I I (wV (A:=[_]) (B:=[_]) (C:=[_]) (cs:=[_]) (off:=1) (size:=1) I I I I D.cells (wV (A:=[_,_]) (B:=[_]) (C:=[]) (cs:=[_]) (off:=2) (size:=1) I I I I I qW)))) I (xY (A:=[]) (r':=.var b6 41 [vB s,aa,.slice none 0 0]) (zJ (k:=0) (cs:=[_,_,_]) (vs:=[_,_,_]) I I I (BW I (Aw D (BW I Bf))) yC (bL I)) I I I (AN ?_));refine yI (λE S=>zS I (wM (cs:=[_,_,_]) Ar underlying41 I yC I) E S) ?_;have ai:=Zy ap bi;exact vJ.fin1 aq au (by rw[ai,Ek];exact D) (by rw[ai,Ek];exact Z)
 refine Af ?_;replace D:=D.mono ar;refine gv (xQ (ps':=[(0,_),(1,_),(2,_)]) (vs:=[vB s,aa,aj]) underlying41 yQ I (vW underlying41) e6 (wV (A:=[]) (B:=[_]) (C:=[_,_]) (cs:=[_]) (off:=0) (size:=1) I I I I I (wV (A:=[_]) (B:=[_]) (C:=[_]) (cs:=[_]) (off:=1) (size:=1) I I I I D.cells (wV (A:=[_,_]) (B:=[_]) (C:=[]) (cs:=[_]) (off:=2) (size:=1) I I I I H.cells qW)))) I (xY (A:=[]) (r':=.var b6 41 [vB s,aa,aj]) (zJ (k:=0) (cs:=[_,_,_]) (vs:=[_,_,_]) I I I (BW I (Aw D (Aw H Bf))) yC (bL I)) I I I (AN ?_));refine yI (λE S=>zS I (wM (cs:=[_,_,_]) Ar underlying41 I yC I) E S) ?_;have ai:=Zy ap bi;exact vJ.fin aq au (by rw[ai,Ek];exact D) (by rw[ai,Ek];exact H) (by rw[ai,Ek];exact Z)
theorem OP{v v':A2}{xs ys:List Nat}(hv:Us .u32 h0 v xs)(hv':Us .u32 h0 v' ys):
 Ae 160 #[v,v'] w0 h0 (λ_ r=>r=vB (xs=ys)):=by
 have Z:=hv.lt63;have U:=hv'.lt63;refine B0 26 v v' func160 hs ?_;refine uG ?_;refine gv (uA underlying39 I hv') I (B4 (λD=>?_) λD=>?_)
 ·
  refine Af ?_;refine zC I I ?_;rw[yH (λe=>D (by rw[e]))]
 have M:A1 xs=A1 ys:=by omega
 refine uG ?_;refine An (ι:=Nat) (λ(i:(Nat))=>(i<=A1 xs/\xs.take i=ys.take i,[(0,v),(1,v'),(12,vI ↑(A1 xs)),(13,vI ↑i)],[],h0,A1 xs-i)) 0 ?_ ?_
 · exact⟨A3,B9⟩
 rintro i ⟨hi,J⟩
 refine yO ?_;refine Ba (λH=>?_) λH=>?_
 ·
  refine uG ?_;refine zG 9 _ [] (Ah 0 9 []) zX nX Ac nX (λr hr=>hr) (A5 ?_);refine B3 I (λh' L' hh hR=>yB (i) underlying39 sizeOf176 I I (hv.mono hh) O O) I (B3 I (λh' L' hh hR=>wN isAgg176 I (hv.mono hh) O) I (A5 ?_));refine B3 I (λh' L' hh hR=>yB (i) underlying39 sizeOf176 I I (hv'.mono hh) O O) I (B3 I (λh' L' hh hR=>wN isAgg176 I (hv'.mono hh) O) I (B4 (λC=>?_) λC=>?_))
  ·
   refine uG ?_;refine zC I I ?_;rw[yH (λe=>C (by rw[e]))]
  refine Af ?_;refine Ad (i+1) ?_ ?_ (he:=⟨I,I,I,?_,AW⟩)
  ·
   refine⟨A3,?_⟩;rw[w6 xs i O,w6 ys i O,J];have e:=Br C;rw[e]
  · omega
  · exact AV (AJ vI O)
 refine uG ?_;refine zC I I ?_;have e1:xs=ys:=by
  have e:i=A1 xs:=by omega
  rw[e,ER,M,ER] at J;exact J
 rw[yU e1]
theorem Ou{qa:Rat}{vna vda:A2}(hna:Us .u32 h0 vna (zB (AH qa.num)))(hda:Us .u32 h0 vda (zB (wH qa.den)))(hqa:lq qa<=100000000000):
 Calls prog 85 #[.agg #[vB (qa.num<0),vna,vda]] w0 (Bh w0 h0 (λ_ r=>r=vI (yK qa))):=by
 have M:=wW qa;have U:=vT qa;have Z:=wO qa;refine BI 11 (.agg #[vB (qa.num<0),vna,vda]) func85 hs ?_;refine A5 ?_;refine zE (wE (cs:=[_,_,_]) I I) I I I ?_;intro v1 r1 J;obtain⟨b1,rfl,rfl⟩:=J;refine Ak ?_;refine cL (AU I) call158 (λw hs=>Na hs hna O) λv6 h1 aa H=>?_
 try simp only[zF] at H
 subst H;refine Ca (λD=>?_) λD=>?_
 ·
  refine AX ?_;refine zC I I ?_;rw[lG (fe D)]
 refine DV (λC=>?_) λC=>?_
 ·
  refine AX ?_;refine zC I I ?_;rw[Ok C]
 refine Ak ?_;refine zC I I ?_;rw[M9 (λh=>D (m5 h)) C]
theorem ig{qa:Rat}{vna vda:A2}(hna:Us .u32 h0 vna (zB (AH qa.num)))(hda:Us .u32 h0 vda (zB (wH qa.den))){qb:Rat}{vnb vdb:A2}(hnb:Us .u32 h0 vnb (zB (AH qb.num)))(hdb:Us .u32 h0 vdb (zB (wH qb.den)))(hqa:lq qa<=100000000000)(hqb:lq qb<=100000000000):
 Calls prog 235 #[.agg #[vB (qa.num<0),vna,vda],.agg #[vB (qb.num<0),vnb,vdb]] w0 (Bh w0 h0 (λ_ r=>r=vB (qa=qb))):=by
 have ah:=wW qa;have aj:=vT qa;have am:=wO qa;have ae:=wW qb;have ai:=vT qb;have ak:=wO qb;refine B0 24 (.agg #[vB (qa.num<0),vna,vda]) (.agg #[vB (qb.num<0),vnb,vdb]) func235 hs ?_;refine A5 ?_;refine zE (wE (cs:=[_,_,_]) I I) I I I ?_;intro v2 r2 ad;obtain⟨b2,rfl,rfl⟩:=ad;refine zE (wE (cs:=[_,_,_]) I I) I I I ?_;intro v3 r3 ac;obtain⟨b3,rfl,rfl⟩:=ac;refine Ak ?_;refine gv (nE underlying4 I I) I ?_;refine uH (ι:=A4) 7 (λJ=>MLe h0 J) (λ_=>[(16,vB (((qa.num<0)↔(qb.num<0))/\((zB (AH qa.num))=(zB (AH qb.num))))),(2,vP b2 0),(3,vP b3 0)]) (λ_=>[.var b3 41 [vB (qb.num<0),vnb,vdb],.var b2 41 [vB (qa.num<0),vna,vda]]) (λJ=>J) ?_ ?_
 ·
  refine zY ((qa.num<0)↔(qb.num<0)) (λH=>?_) (λH=>?_)
  ·
   refine gT H I (Ak ?_);refine cL (AK I I) call160 (λw hs=>OP hs hna hnb) λao h1 M aa=>?_;subst aa;refine A5 ?_;refine zV h1 M ⟨?_,I,I,AW⟩ I I;exact AV (xE H)
  refine gF H I (Af ?_);refine zV h0 (MLe.refl _) ⟨?_,I,I,AW⟩ I I;exact AV (xG H)
 intro D C;refine fM ?_;refine uH (ι:=A4) 7 (λJ=>MLe D J) (λ_=>[(23,vB ((((qa.num<0)↔(qb.num<0))/\((zB (AH qa.num))=(zB (AH qb.num))))/\((zB (wH qa.den))=(zB (wH qb.den)))))]) (λ_=>[.var b3 41 [vB (qb.num<0),vnb,vdb],.var b2 41 [vB (qa.num<0),vna,vda]]) (λJ=>J) ?_ ?_
 ·
  refine zY (((qa.num<0)↔(qb.num<0))/\((zB (AH qa.num))=(zB (AH qb.num)))) (λH=>?_) (λH=>?_)
  ·
   refine gT H I (Ak ?_);replace hda:=hda.mono C;replace hdb:=hdb.mono C;refine cL (AK I I) call160 (λw hs=>OP hs hda hdb) λan h1 M Z=>?_;subst Z;refine A5 ?_;refine zV h1 M ⟨?_,AW⟩ I I;exact AV (xE H)
  refine gF H I (Af ?_);refine zV D (MLe.refl _) ⟨?_,AW⟩ I I;exact AV (xG H)
 intro ab U;refine fM ?_;refine AF ?_;refine zC I I ?_;exact qQ W6
theorem Q9{qa:Rat}{vna vda:A2}(hna:Us .u32 h0 vna (zB (AH qa.num)))(hda:Us .u32 h0 vda (zB (wH qa.den))){qb:Rat}{vnb vdb:A2}(hnb:Us .u32 h0 vnb (zB (AH qb.num)))(hdb:Us .u32 h0 vdb (zB (wH qb.den)))(hqa:lq qa<=100000000000)(hqb:lq qb<=100000000000):
 Calls prog 87 #[.agg #[vB (qa.num<0),vna,vda],.agg #[vB (qb.num<0),vnb,vdb]] w0 (Bh w0 h0 (λ_ r=>r=vI (wA qa qb))):=by
 have bq:=wW qa;have bs:=vT qa;have bu:=wO qa;have bp:=wW qb;have br:=vT qb;have bt:=wO qb;refine B0 80 (.agg #[vB (qa.num<0),vna,vda]) (.agg #[vB (qb.num<0),vnb,vdb]) func87 hs ?_;refine A5 ?_;refine zE (wE (cs:=[_,_,_]) I I) I I I ?_;intro v2 r2 bi;obtain⟨b2,rfl,rfl⟩:=bi;refine zE (wE (cs:=[_,_,_]) I I) I I I ?_;intro v3 r3 bh;obtain⟨b3,rfl,rfl⟩:=bh;refine AR ?_;refine zG 6 _ [] [(0,.q),(2,.q),(1,.c),(3,.c),(4,.q),(5,.q)] zX nX Ac nX (λr hr=>hr) (A5 ?_);refine AB I (sC (AU I) call85 (λw hs=>Ou hs hna hda O) λch h1 ai ba=>?_);have be:=yZ qa;subst ba;refine AB I ?_;replace hnb:=hnb.mono ai;replace hdb:=hdb.mono ai;refine sC (AU I) call85 (λw hs=>Ou hs hnb hdb O) λcg h2 U az=>?_;have bd:=yZ qb;subst az;refine EI (λM=>?_) λM=>?_
 ·
  refine DU (λab=>?_) λab=>?_
  ·
   refine AX ?_;refine zC I I ?_;rw[OD M,AC ab]
  refine Ak ?_;refine zC I I ?_;rw[OD M,A8 ab]
 have av:=Y5 M;refine Af ?_;refine jD (ι:=A4) (λ(mc:(A4))=>MLe h2 mc/\(True)) (λ(mc:(A4))=>[(2,vP b2 0),(7,vI (cN qa qb))]) (λ(mc:(A4))=>[.var b3 41 [vB (qb.num<0),vnb,vdb],.var b2 41 [vB (qa.num<0),vna,vda]]) (λ(mc:(A4))=>mc) ?_ ?_
 ·
  refine AN ?_;replace hna:=hna.mono (ai.trans U);replace hda:=hda.mono (ai.trans U);refine cL (AU I) call150 (λw hs=>cH hs hna hda) λcf h3 D ay=>?_;subst ay;refine rX ?_;replace hda:=hda.mono D;replace hdb:=hdb.mono (U.trans D);refine cL (AK I I) call160 (λw hs=>OP hs hda hdb) λce h4 C ax=>?_;subst ax;refine BB (λar=>?_) λar=>?_
  ·
   refine AR ?_;replace hna:=hna.mono (D.trans C);replace hnb:=hnb.mono ((U.trans D).trans C);refine cL (AK I I) call161 (λw hs=>MN hs hna hnb) λcd h5 H ao=>?_
   try simp only[zF] at ao
   subst ao;refine A5 ?_;refine zV (h5) ?_ ⟨I,?_,AW⟩ I I
   ·
    refine⟨((D.trans C).trans H),?_⟩
    trivial
   · exact AV (AJ vI ((k8 ar).symm))
  refine AN ?_;replace hnb:=hnb.mono ((U.trans D).trans C);replace hdb:=hdb.mono C;refine cL (AU I) call150 (λw hs=>cH hs hnb hdb) λcc h5 H aw=>?_;subst aw;refine uF ?_;refine gU 3 49 (vB ((sT qa)/\(sT qb))) ?_ ?_
  ·
   refine zY (sT qa) (λhg=>?_) (λhg=>?_)
   ·
    refine gT hg I (AF ?_);refine Ay ?_;exact AV (xE hg)
   refine gF hg I (AN ?_);refine Ay ?_;exact AV (xG hg)
  refine BB (λaa=>?_) λaa=>?_
  ·
   have ad:=aa.1;have ac:=aa.2;have bk:=tF ad;have bg:=tG ad;have bj:=tF ac;have bf:=tG ac;have cj:=jJ bk bf;have ci:=jJ bj bg;rw[GO ad,G1 ad,GO ac,G1 ac];refine EI (λaq=>?_) λaq=>?_
   ·
    refine AN ?_;refine zV (h5) ?_ ⟨I,?_,AW⟩ I I
    ·
     refine⟨((D.trans C).trans H),?_⟩
     trivial
    · exact AV (AJ vI ((Lv aq).symm))
   refine EI (λap=>?_) λap=>?_
   ·
    refine AN ?_;refine zV (h5) ?_ ⟨I,?_,AW⟩ I I
    ·
     refine⟨((D.trans C).trans H),?_⟩
     trivial
    · exact AV (AJ vI ((LL ap).symm))
   refine A7 ?_;refine zV (h5) ?_ ⟨I,?_,AW⟩ I I
   ·
    refine⟨((D.trans C).trans H),?_⟩
    trivial
   · exact AV (AJ vI ((Rb.2 O).symm))
  refine zG 12 _ [] [(0,.q),(1,.q),(2,.q),(5,.q),(6,.q),(7,.q),(3,.c),(4,.c),(8,.c),(9,.c),(10,.c),(11,.q)] zX nX Ac nX (λr hr=>hr) (AZ ?_);refine AB I ?_;replace hnb:=hnb.mono H;replace hdb:=hdb.mono H;refine sC (AU I) call154 (λw hs=>sP hs hnb hdb) λcb h6 ah an=>?_;rw[qH] at an;refine AB I ?_;replace hna:=hna.mono (((D.trans C).trans H).trans ah);refine sC (AK I I) call153 (λw hs=>rQ hs hna an O O) λca h7 ae J=>?_
  try simp only[zF] at J
  have bm:=yV ((AH qa.num)) ((qb.den));refine AB I ?_;replace hna:=hna.mono ae;replace hda:=hda.mono (((C.trans H).trans ah).trans ae);refine sC (AU I) call154 (λw hs=>sP hs hna hda) λbz h8 au am=>?_;rw[qH] at am;refine AB I ?_;replace hnb:=hnb.mono ((ah.trans ae).trans au);refine sC (AK I I) call153 (λw hs=>rQ hs hnb am O O) λbx h9 bb ak=>?_
  try simp only[zF] at ak
  have bl:=yV ((AH qb.num)) ((qa.den));refine AB I ?_;replace J:=J.mono (au.trans bb);refine sC (AK I I) call161 (λw hs=>MN hs J ak) λbw bn bc aj=>?_
  try simp only[zF] at aj
  subst aj;refine A5 ?_;refine zV (bn) ?_ Al I I;refine⟨(((((((D.trans C).trans H).trans ah).trans ae).trans au).trans bb).trans bc),?_⟩
  trivial
 rintro mc ⟨bo,bv⟩
 refine yO ?_;have ck:=Ua qa qb;refine DV (λZ=>?_) λZ=>?_
 ·
  refine AN ?_;refine gv (oB I O O) I (AR ?_);refine zC I I ?_;rw[WI av Z]
 refine Ak ?_;refine zC I I ?_;rw[Xz av Z]
theorem UQ{qa:Rat}{vna vda:A2}(hna:Us .u32 h0 vna (zB (AH qa.num)))(hda:Us .u32 h0 vda (zB (wH qa.den))){qb:Rat}{vnb vdb:A2}(hnb:Us .u32 h0 vnb (zB (AH qb.num)))(hdb:Us .u32 h0 vdb (zB (wH qb.den)))(hqa:lq qa<=100000000000)(hqb:lq qb<=100000000000):
 Calls prog 157 #[.agg #[vB (qa.num<0),vna,vda],.agg #[vB (qb.num<0),vnb,vdb]] w0 (Bh w0 h0 (λh r=>vJ h r (qa*qb))):=by
 have bo:=wW qa;have bq:=vT qa;have bs:=wO qa;have bn:=wW qb;have bp:=vT qb;have br:=wO qb;rw[<-b1];refine B0 64 (.agg #[vB (qa.num<0),vna,vda]) (.agg #[vB (qb.num<0),vnb,vdb]) func157 hs ?_;refine A5 ?_;refine zE (wE (cs:=[_,_,_]) I I) I I I ?_;intro v2 r2 bm;obtain⟨b2,rfl,rfl⟩:=bm;refine zE (wE (cs:=[_,_,_]) I I) I I I ?_;intro v3 r3 bl;obtain⟨b3,rfl,rfl⟩:=bl;refine zE (vD (cs:=[vB ((0:Rat).num<0),.slice none 0 0,.slice none 0 0]) yQ I (by simp only[zb];rfl)) I I I ?_;intro v4 r4 bk;obtain⟨b4,rfl,rfl⟩:=bk;refine Ak ?_;refine gU 6 20 (vB (((↑(A1 (zB (AH qa.num))):Int)=(0:Int))\/((↑(A1 (zB (AH qb.num))):Int)=(0:Int)))) ?_ ?_
 ·
  refine zY ((↑(A1 (zB (AH qa.num))):Int)=(0:Int)) (λhg=>?_) (λhg=>?_)
  ·
   refine gT hg I (AZ ?_);refine Ay ?_;exact AV (vN hg)
  refine gF hg I (vV ?_);refine Ay ?_;exact AV (vO hg)
 refine BB (λaq=>?_) λaq=>?_
 ·
  refine A5 ?_;refine gv (xQ (ps':=[]) (vs:=[vB ((0:Rat).num<0),.slice none 0 0,.slice none 0 0]) underlying41 yQ I (vW underlying41) trivial (by simp only[zb];exact qW)) I (xY (A:=[]) (r':=.var b4 41 [vB ((0:Rat).num<0),.slice none 0 0,.slice none 0 0]) (zJ (k:=0) (cs:=[_,_,_]) (vs:=[_,_,_]) I I I I yC (bL I)) I I I (AF ?_));refine yI (λE S=>zS I (wM (cs:=[_,_,_]) Ar underlying41 I yC I) E S) ?_
  rcases aq with h|h
  · rw[aE h,show(AH (0:Rat).num)=0 from I,E2,KM];exact vJ.zero _
  · rw[aE h,show(AH (0:Rat).num)=0 from I,FT,KM];exact vJ.zero _
 refine AZ ?_;refine cL (AU I) call150 (λw hs=>cH hs hna hda) λbv h1 ab bc=>?_;subst bc;refine fJ ?_;refine Bq (λap=>?_) λap=>?_
 ·
  have aj:=ap;have bd:=tF aj;have ar:=tG aj;refine AN ?_;replace hnb:=hnb.mono ab;replace hdb:=hdb.mono ab;refine cL (AU I) call150 (λw hs=>cH hs hnb hdb) λbu h2 J bb=>?_;subst bb;refine fJ ?_;refine Bq (λao=>?_) λao=>?_
  ·
   have ai:=ao;have au:=tF ai;have az:=tG ai;have cb:=jJ bd az;have ca:=jJ au ar;have bz:=jJ ar az;have bx:=jJ bd au;have bw:=jJ ar au;have cd:qa.den*qb.den≠0:=GR qa.den_nz qb.den_nz;simp only[GO aj,G1 aj,GO ai,G1 ai];refine AZ ?_;refine gv (tY underlying4 I I) I (AZ ?_);refine cL (BM I I I) call151 (λw hs=>lH hs O O O) λbt h3 H ba=>?_;obtain⟨ax,ay,rfl,am,an⟩:=ba;refine xY (A:=[]) (r':=.var b4 41 [vB ((mkRat (sg (¬((qa.num<0)↔(qb.num<0))) (AH qa.num*AH qb.num)) (qa.den*qb.den)).num<0),ax,ay]) (zJ (k:=0) (cs:=[_,_,_]) (vs:=[_,_,_]) I I I (BW I (Aw am (Aw an Bf))) yC (bL I)) I I I (AF ?_);refine yI (λE S=>zS I (wM (cs:=[_,_,_]) Ar underlying41 I yC I) E S) ?_;exact⟨_,_,I,am,an⟩
  refine AN ?_;refine zG 16 _ [] (Ah 0 9 [(10,.q),(12,.q),(9,.c),(11,.c),(13,.c),(14,.c),(15,.c),(16,.t)]) zX nX Ac nX (λr hr=>hr) (AF ?_);refine wK I (λ_ _=>tY underlying4 I I) I (AZ ?_);refine AB I ?_;replace hna:=hna.mono (ab.trans J);replace hnb:=hnb.mono J;refine sC (AK I I) call153 (λw hs=>rQ hs hna hnb O O) λbj h3 H D=>?_
  try simp only[zF] at D
  have aw:=yV ((AH qa.num)) ((AH qb.num));refine AB I ?_;replace hna:=hna.mono H;replace hda:=hda.mono ((ab.trans J).trans H);refine sC (AU I) call154 (λw hs=>sP hs hna hda) λbi h4 ad C=>?_;rw[qH] at C;refine AB I ?_;replace hnb:=hnb.mono (H.trans ad);replace hdb:=hdb.mono ((J.trans H).trans ad);refine sC (AU I) call154 (λw hs=>sP hs hnb hdb) λbh h5 ak Z=>?_;rw[qH] at Z;refine AB I ?_;replace C:=C.mono ak;refine sC (AK I I) call153 (λw hs=>rQ hs C Z O O) λbg h6 be U=>?_
  try simp only[zF] at U
  have av:=yV ((qa.den)) ((qb.den));refine AB I ?_;replace D:=D.mono ((ad.trans ak).trans be);refine sC (BM I I I) call152 (λw hs=>kU hs D U O O) λbf h7 cc M=>?_
  try simp only[zF] at M
  obtain⟨ae,ah,rfl,aa,ac⟩:=M;refine tC (A:=[]) (q':=.var b4 41 [vB ((mkRat (sg (¬((qa.num<0)↔(qb.num<0))) (((((AH qa.num))*((AH qb.num)))))) (((((qa.den))*((qb.den)))))).num<0),ae,ah]) I (zJ (k:=0) (cs:=[_,_,_]) (vs:=[_,_,_]) I I I (BW I (Aw aa (Aw ac Bf))) yC (bL I)) I (AN ?_);refine yI (λE S=>zS I (wM (cs:=[_,_,_]) Ar underlying41 I yC I) E S) ?_;exact⟨_,_,I,aa,ac⟩
 refine AN ?_;refine zG 16 _ [] (Ah 0 9 [(10,.q),(12,.q),(9,.c),(11,.c),(13,.c),(14,.c),(15,.c),(16,.t)]) zX nX Ac nX (λr hr=>hr) (AF ?_);refine wK I (λ_ _=>tY underlying4 I I) I (AZ ?_);refine AB I ?_;replace hna:=hna.mono ab;replace hnb:=hnb.mono ab;refine sC (AK I I) call153 (λw hs=>rQ hs hna hnb O O) λbj h2 J D=>?_
 try simp only[zF] at D
 have aw:=yV ((AH qa.num)) ((AH qb.num));refine AB I ?_;replace hna:=hna.mono J;replace hda:=hda.mono (ab.trans J);refine sC (AU I) call154 (λw hs=>sP hs hna hda) λbi h3 H C=>?_;rw[qH] at C;refine AB I ?_;replace hnb:=hnb.mono (J.trans H);replace hdb:=hdb.mono ((ab.trans J).trans H);refine sC (AU I) call154 (λw hs=>sP hs hnb hdb) λbh h4 ad Z=>?_;rw[qH] at Z;refine AB I ?_;replace C:=C.mono ad;refine sC (AK I I) call153 (λw hs=>rQ hs C Z O O) λbg h5 ak U=>?_
 try simp only[zF] at U
 have av:=yV ((qa.den)) ((qb.den));refine AB I ?_;replace D:=D.mono ((H.trans ad).trans ak);refine sC (BM I I I) call152 (λw hs=>kU hs D U O O) λbf h6 be M=>?_
 try simp only[zF] at M
 obtain⟨ae,ah,rfl,aa,ac⟩:=M;refine tC (A:=[]) (q':=.var b4 41 [vB ((mkRat (sg (¬((qa.num<0)↔(qb.num<0))) (((((AH qa.num))*((AH qb.num)))))) (((((qa.den))*((qb.den)))))).num<0),ae,ah]) I (zJ (k:=0) (cs:=[_,_,_]) (vs:=[_,_,_]) I I I (BW I (Aw aa (Aw ac Bf))) yC (bL I)) I (AN ?_);refine yI (λE S=>zS I (wM (cs:=[_,_,_]) Ar underlying41 I yC I) E S) ?_;exact⟨_,_,I,aa,ac⟩
theorem b6{qa:Rat}{vna vda:A2}(hna:Us .u32 h0 vna (zB (AH qa.num)))(hda:Us .u32 h0 vda (zB (wH qa.den))){qb:Rat}{vnb vdb:A2}(hnb:Us .u32 h0 vnb (zB (AH qb.num)))(hdb:Us .u32 h0 vdb (zB (wH qb.den)))(hqa:lq qa<=100000000000)(hqb:lq qb<=100000000000):
 Calls prog 82 #[.agg #[vB (qa.num<0),vna,vda],.agg #[vB (qb.num<0),vnb,vdb]] w0 (Bh w0 h0 (λh r=>∃u,r=.tuple #[u,vI (if qb=0 then 3 else 0)]/\vJ h u (if qb=0 then 0 else qa/qb))):=by
 have bt:=wW qa;have bv:=vT qa;have bx:=wO qa;have bs:=wW qb;have bu:=vT qb;have bw:=wO qb;refine B0 58 (.agg #[vB (qa.num<0),vna,vda]) (.agg #[vB (qb.num<0),vnb,vdb]) func82 hs ?_;refine A5 ?_;refine zE (wE (cs:=[_,_,_]) I I) I I I ?_;intro v2 r2 bq;obtain⟨b2,rfl,rfl⟩:=bq;refine zE (wE (cs:=[_,_,_]) I I) I I I ?_;intro v3 r3 bp;obtain⟨b3,rfl,rfl⟩:=bp;refine zE (vD (cs:=[vB ((0:Rat).num<0),.slice none 0 0,.slice none 0 0]) yQ I (by simp only[zb];rfl)) I I I ?_;intro v4 r4 bo;obtain⟨b4,rfl,rfl⟩:=bo;refine Af ?_;refine cL (AU I) call85 (λw hs=>Ou hs hnb hdb O) λcc h1 ah bf=>?_;have bn:=yZ qb;subst bf;refine B4 (λak=>?_) λak=>?_
 ·
  have ad:=qK.1 ak;rw[AC ad,AC ad];refine A5 ?_;refine gv (xQ (ps':=[]) (vs:=[vB ((0:Rat).num<0),.slice none 0 0,.slice none 0 0]) underlying41 yQ I (vW underlying41) trivial (by simp only[zb];exact qW)) I (xY (A:=[]) (r':=.var b4 41 [vB ((0:Rat).num<0),.slice none 0 0,.slice none 0 0]) (zJ (k:=0) (cs:=[_,_,_]) (vs:=[_,_,_]) I I I I yC (bL I)) I I I (AR ?_));refine yI (λE S=>qG I (wM (cs:=[_,_,_]) Ar underlying41 I yC I) (gA I) E S) ?_;exact⟨_,I,vJ.zero _⟩
 have ad:qb≠0:=λh=>ak (qK.2 h);rw[A8 ad,A8 ad,<-U7 qa ad];have br:=Lb.2 ad;refine AZ ?_;replace hna:=hna.mono ah;replace hda:=hda.mono ah;refine cL (AU I) call150 (λw hs=>cH hs hna hda) λcb h2 ab be=>?_;subst be;refine fJ ?_;refine Bq (λau=>?_) λau=>?_
 ·
  have an:=au;have bg:=tF an;have av:=tG an;refine AN ?_;replace hnb:=hnb.mono (ah.trans ab);replace hdb:=hdb.mono (ah.trans ab);refine cL (AU I) call150 (λw hs=>cH hs hnb hdb) λca h3 aa bd=>?_;subst bd;refine fJ ?_;refine Bq (λar=>?_) λar=>?_
  ·
   have am:=ar;have aw:=tF am;have bb:=tG am;have ch:=jJ bg bb;have cg:=jJ aw av;have cf:=jJ av bb;have ce:=jJ bg aw;have cd:=jJ av aw;have cj:qa.den*AH qb.num≠0:=GR qa.den_nz br;simp only[GO an,G1 an,GO am,G1 am];refine AZ ?_;refine gv (tY underlying4 I I) I (AZ ?_);refine cL (BM I I I) call151 (λw hs=>lH hs O O O) λbz h4 Z bc=>?_;obtain⟨az,ba,rfl,ap,aq⟩:=bc;refine xY (A:=[]) (r':=.var b4 41 [vB ((mkRat (sg (¬((qa.num<0)↔(qb.num<0))) (AH qa.num*qb.den)) (qa.den*AH qb.num)).num<0),az,ba]) (zJ (k:=0) (cs:=[_,_,_]) (vs:=[_,_,_]) I I I (BW I (Aw ap (Aw aq Bf))) yC (bL I)) I I I (AR ?_);refine yI (λE S=>qG I (wM (cs:=[_,_,_]) Ar underlying41 I yC I) (gA I) E S) ?_;exact⟨_,I,_,_,I,ap,aq⟩
  refine AN ?_;refine zG 16 _ [] (Ah 0 8 [(10,.q),(12,.q),(13,.q),(8,.c),(9,.c),(11,.c),(14,.c),(15,.c),(16,.t),(17,.t)]) zX nX Ac nX (λr hr=>hr) (AF ?_);refine wK I (λ_ _=>tY underlying4 I I) I (AZ ?_);refine AB I ?_;replace hnb:=hnb.mono aa;replace hdb:=hdb.mono aa;refine sC (AU I) call154 (λw hs=>sP hs hnb hdb) λbm h4 Z M=>?_;rw[qH] at M;refine AB I ?_;replace hna:=hna.mono ((ab.trans aa).trans Z);refine sC (AK I I) call153 (λw hs=>rQ hs hna M O O) λbl h5 ae C=>?_
  try simp only[zF] at C
  have ay:=yV ((AH qa.num)) ((qb.den));refine AB I ?_;replace hna:=hna.mono ae;replace hda:=hda.mono (((ab.trans aa).trans Z).trans ae);refine sC (AU I) call154 (λw hs=>sP hs hna hda) λbk h6 ao J=>?_;rw[qH] at J;refine AB I ?_;replace hnb:=hnb.mono ((Z.trans ae).trans ao);refine sC (AK I I) call153 (λw hs=>rQ hs J hnb O O) λbj h7 bh H=>?_
  try simp only[zF] at H
  have ax:=yV ((qa.den)) ((AH qb.num));refine AB I ?_;replace C:=C.mono (ao.trans bh);refine sC (BM I I I) call152 (λw hs=>kU hs C H O O) λbi h8 ci D=>?_
  try simp only[zF] at D
  obtain⟨ai,aj,rfl,U,ac⟩:=D;refine tC (A:=[]) (q':=.var b4 41 [vB ((mkRat (sg (¬((qa.num<0)↔(qb.num<0))) (((((AH qa.num))*((qb.den)))))) (((((qa.den))*((AH qb.num)))))).num<0),ai,aj]) I (zJ (k:=0) (cs:=[_,_,_]) (vs:=[_,_,_]) I I I (BW I (Aw U (Aw ac Bf))) yC (bL I)) I (nW I (rN (v:=vI (0)) I) I (AN ?_));refine yI (λE S=>qG I (wM (cs:=[_,_,_]) Ar underlying41 I yC I) (gA I) E S) ?_;exact⟨_,I,_,_,I,U,ac⟩
 refine AN ?_;refine zG 16 _ [] (Ah 0 8 [(10,.q),(12,.q),(13,.q),(8,.c),(9,.c),(11,.c),(14,.c),(15,.c),(16,.t),(17,.t)]) zX nX Ac nX (λr hr=>hr) (AF ?_);refine wK I (λ_ _=>tY underlying4 I I) I (AZ ?_);refine AB I ?_;replace hnb:=hnb.mono (ah.trans ab);replace hdb:=hdb.mono (ah.trans ab);refine sC (AU I) call154 (λw hs=>sP hs hnb hdb) λbm h3 aa M=>?_;rw[qH] at M;refine AB I ?_;replace hna:=hna.mono (ab.trans aa);refine sC (AK I I) call153 (λw hs=>rQ hs hna M O O) λbl h4 Z C=>?_
 try simp only[zF] at C
 have ay:=yV ((AH qa.num)) ((qb.den));refine AB I ?_;replace hna:=hna.mono Z;replace hda:=hda.mono ((ab.trans aa).trans Z);refine sC (AU I) call154 (λw hs=>sP hs hna hda) λbk h5 ae J=>?_;rw[qH] at J;refine AB I ?_;replace hnb:=hnb.mono ((aa.trans Z).trans ae);refine sC (AK I I) call153 (λw hs=>rQ hs J hnb O O) λbj h6 ao H=>?_
 try simp only[zF] at H
 have ax:=yV ((qa.den)) ((AH qb.num));refine AB I ?_;replace C:=C.mono (ae.trans ao);refine sC (BM I I I) call152 (λw hs=>kU hs C H O O) λbi h7 bh D=>?_
 try simp only[zF] at D
 obtain⟨ai,aj,rfl,U,ac⟩:=D;refine tC (A:=[]) (q':=.var b4 41 [vB ((mkRat (sg (¬((qa.num<0)↔(qb.num<0))) (((((AH qa.num))*((qb.den)))))) (((((qa.den))*((AH qb.num)))))).num<0),ai,aj]) I (zJ (k:=0) (cs:=[_,_,_]) (vs:=[_,_,_]) I I I (BW I (Aw U (Aw ac Bf))) yC (bL I)) I (nW I (rN (v:=vI (0)) I) I (AN ?_));refine yI (λE S=>qG I (wM (cs:=[_,_,_]) Ar underlying41 I yC I) (gA I) E S) ?_;exact⟨_,I,_,_,I,U,ac⟩
theorem Ul{qa:Rat}{vna vda:A2}(hna:Us .u32 h0 vna (zB (AH qa.num)))(hda:Us .u32 h0 vda (zB (wH qa.den))){qb:Rat}{vnb vdb:A2}(hnb:Us .u32 h0 vnb (zB (AH qb.num)))(hdb:Us .u32 h0 vdb (zB (wH qb.den)))(hqa:lq qa<=100000000000)(hqb:lq qb<=100000000000){s:Prop}:
 Calls prog 155 #[.agg #[vB (qa.num<0),vna,vda],.agg #[vB (qb.num<0),vnb,vdb],vB s] w0 (Bh w0 h0 (λh r=>vJ h r (qa+EL s qb))):=by
 have ec:=wW qa;have ee:=vT qa;have eg:=wO qa;have eb:=wW qb;have ed:=vT qb;have ef:=wO qb;refine Cs 152 (.agg #[vB (qa.num<0),vna,vda]) (.agg #[vB (qb.num<0),vnb,vdb]) (vB s) func155 hs ?_;refine A5 ?_;refine zE (wE (cs:=[_,_,_]) I I) I I I ?_;intro v3 r3 dr;obtain⟨b3,rfl,rfl⟩:=dr;refine zE (wE (cs:=[_,_,_]) I I) I I I ?_;intro v4 r4 dq;obtain⟨b4,rfl,rfl⟩:=dq;refine zE (vD (cs:=[vB ((0:Rat).num<0),.slice none 0 0,.slice none 0 0]) yQ I (by simp only[zb];rfl)) I I I ?_;intro v6 r6 dp;obtain⟨b6,rfl,rfl⟩:=dp;refine A5 ?_;refine jD (ι:=A4) (λ(mc:(A4))=>MLe h0 mc/\(True)) (λ(mc:(A4))=>[(2,vB s),(3,vP b3 0),(4,vP b4 0),(6,vP b6 0)]) (λ(mc:(A4))=>[.var b6 41 [vB ((0:Rat).num<0),.slice none 0 0,.slice none 0 0],.var b4 41 [vB (qb.num<0),vnb,vdb],.var b3 41 [vB (qa.num<0),vna,vda]]) (λ(mc:(A4))=>mc) ?_ ?_
 ·
  refine AN ?_;refine cL (AU I) call150 (λw hs=>cH hs hna hda) λen h1 ab di=>?_;subst di;refine fJ ?_;refine Bq (λcf=>?_) λcf=>?_
  ·
   have bs:=cf;have dj:=tF bs;have ch:=tG bs;refine AN ?_;replace hnb:=hnb.mono ab;replace hdb:=hdb.mono ab;refine cL (AU I) call150 (λw hs=>cH hs hnb hdb) λem h2 Z dh=>?_;subst dh;refine fJ ?_;refine Bq (λce=>?_) λce=>?_
   ·
    have br:=ce;have cj:=tF br;have dc:=tG br;have es:=jJ dj dc;have er:=jJ cj ch;have eq:=jJ ch dc;have ep:=jJ dj cj;have eo:=jJ ch cj;have eu:qa.den*qb.den≠0:=GR qa.den_nz qb.den_nz;simp only[GO bs,G1 bs,GO br,G1 br];refine y7 ?_;refine gv (tm (vs:=[_,_,vU .u64 0]) (c5 _ _) EQ) I (tQ ?_);refine gv (nE underlying4 I I) I ?_;refine gU 4 56 (vB (((qa.num<0)↔(s))/\((((AH qa.num*qb.den)+(AH qb.num*qa.den))/18446744073709551616)=(0:Nat)))) ?_ ?_
    ·
     refine zY ((qa.num<0)↔(s)) (λhg=>?_) (λhg=>?_)
     ·
      refine gT hg I (AN ?_);refine gv (fS (k:=.u64) (q:=0) I I) I (A5 ?_);refine Ay ?_;exact AV (xE hg)
     refine gF hg I (AF ?_);refine Ay ?_;exact AV (xG hg)
    refine B4 (λcd=>?_) λcd=>?_
    ·
     obtain⟨cg,ev⟩:=cd;refine Af ?_;refine cL (BM I I I) call151 (λw hs=>lH hs O O O) λel h3 U df=>?_;obtain⟨cn,cq,rfl,bi,bn⟩:=df;refine xY (A:=[]) (r':=.var b6 41 [vB ((mkRat (sg (s) (((AH qa.num*qb.den)+(AH qb.num*qa.den))%18446744073709551616)) (qa.den*qb.den)).num<0),cn,cq]) (zJ (k:=0) (cs:=[_,_,_]) (vs:=[_,_,_]) I I I (BW I (Aw bi (Aw bn Bf))) yC (bL I)) I I I (AR ?_);refine yI (λE S=>zS I (wM (cs:=[_,_,_]) Ar underlying41 I yC I) E S) ?_;have e:=CG (a:=AH qa.num*qb.den+AH qb.num*qa.den) (b:=18446744073709551616) O;rw[e] at bi bn ⊢;rw[Nz cg];exact⟨_,_,I,bi,bn⟩
    refine AR ?_;refine gv (tY underlying4 I I) I ?_;refine gU 5 72 (vB ((¬((qa.num<0)↔(s)))/\((AH qb.num*qa.den)<=(AH qa.num*qb.den)))) ?_ ?_
    ·
     refine zY (¬((qa.num<0)↔(s))) (λhg=>?_) (λhg=>?_)
     ·
      refine gT hg I (AX ?_);refine Ay ?_;exact AV (xE hg)
     refine gF hg I (AR ?_);refine Ay ?_;exact AV (xG hg)
    refine B4 (λbp=>?_) λbp=>?_
    ·
     obtain⟨cg,bm⟩:=bp;refine AZ ?_;refine gv (lZ (k:=.u64) (W:=18446744073709551616) I I I I O O) I (AN ?_);refine cL (BM I I I) call151 (λw hs=>lH hs O O O) λek h3 U de=>?_;obtain⟨cm,cp,rfl,ca,cc⟩:=de;refine xY (A:=[]) (r':=.var b6 41 [vB ((mkRat (sg (qa.num<0) ((AH qa.num*qb.den)-(AH qb.num*qa.den))) (qa.den*qb.den)).num<0),cm,cp]) (zJ (k:=0) (cs:=[_,_,_]) (vs:=[_,_,_]) I I I (BW I (Aw ca (Aw cc Bf))) yC (bL I)) I I I (AR ?_);refine yI (λE S=>zS I (wM (cs:=[_,_,_]) Ar underlying41 I yC I) E S) ?_;rw[OQ cg bm];exact⟨_,_,I,ca,cc⟩
    refine AR ?_;refine gv (tY underlying4 I I) I (B4 (λbo=>?_) λbo=>?_)
    ·
     have bt:¬AH qb.num*qa.den<=AH qa.num*qb.den:=λh=>bp ⟨bo,h⟩;refine AR ?_;refine gv (lZ (k:=.u64) (W:=18446744073709551616) I I I I O O) I (AN ?_);refine cL (BM I I I) call151 (λw hs=>lH hs O O O) λej h3 U dd=>?_;obtain⟨cl,co,rfl,bz,cb⟩:=dd;refine xY (A:=[]) (r':=.var b6 41 [vB ((mkRat (sg (s) ((AH qb.num*qa.den)-(AH qa.num*qb.den))) (qa.den*qb.den)).num<0),cl,co]) (zJ (k:=0) (cs:=[_,_,_]) (vs:=[_,_,_]) I I I (BW I (Aw bz (Aw cb Bf))) yC (bL I)) I I I (AR ?_);refine yI (λE S=>zS I (wM (cs:=[_,_,_]) Ar underlying41 I yC I) E S) ?_;rw[O5 bo O];exact⟨_,_,I,bz,cb⟩
    refine A5 ?_;refine zV (h2) ?_ BR I I;refine⟨(ab.trans Z),?_⟩
    trivial
   refine A7 ?_;refine zV (h2) ?_ BR I I;refine⟨(ab.trans Z),?_⟩
   trivial
  refine A7 ?_;refine zV (h1) ?_ BR I I;refine⟨ab,?_⟩
  trivial
 rintro mc ⟨ar,ei⟩
 refine yO ?_;refine A7 ?_;refine zG 9 _ [] (Ah 0 5 [(5,.c),(6,.q),(7,.q),(8,.q)]) zX nX Ac nX (λr hr=>hr) (AR ?_);refine AB I ?_;replace hna:=hna.mono ar;replace hda:=hda.mono ar;refine sC (AU I) call154 (λw hs=>sP hs hna hda) λea h1 ab C=>?_;rw[qH] at C;refine uF ?_;replace hda:=hda.mono ab;replace hdb:=hdb.mono (ar.trans ab);refine cL (AK I I) call160 (λw hs=>OP hs hda hdb) λdz h2 Z ci=>?_;subst ci;refine B4 (λbq=>?_) λbq=>?_
 ·
  refine zG 15 _ [] [(0,.q),(1,.q),(4,.q),(5,.q),(8,.q),(9,.q),(2,.c),(3,.c),(6,.c),(7,.c),(10,.c),(11,.c),(12,.q),(13,.q),(14,.q)] zX nX Ac nX (λr hr=>hr) (AZ ?_);refine AB I ?_;replace hnb:=hnb.mono ((ar.trans ab).trans Z);replace hdb:=hdb.mono Z;refine sC (AU I) call154 (λw hs=>sP hs hnb hdb) λdy h3 U bh=>?_;rw[qH] at bh;refine AB I ?_;replace hna:=hna.mono ((ab.trans Z).trans U);refine sC (AK I I) call153 (λw hs=>rQ hs hna bh O O) λdx h4 au J=>?_
  try simp only[zF] at J
  have dn:=yV ((AH qa.num)) ((qb.den));refine AB I ?_;replace hna:=hna.mono au;replace hda:=hda.mono ((Z.trans U).trans au);refine sC (AU I) call154 (λw hs=>sP hs hna hda) λdw h5 be bg=>?_;rw[qH] at bg;refine AB I ?_;replace hnb:=hnb.mono ((U.trans au).trans be);refine sC (AK I I) call153 (λw hs=>rQ hs hnb bg O O) λdv h6 bk H=>?_
  try simp only[zF] at H
  have dm:=yV ((AH qb.num)) ((qa.den));refine AB I ?_;replace hnb:=hnb.mono bk;replace hdb:=hdb.mono (((U.trans au).trans be).trans bk);refine sC (AU I) call154 (λw hs=>sP hs hnb hdb) λdu h7 bj bf=>?_;rw[qH] at bf;refine AB I ?_;replace C:=C.mono (((((Z.trans U).trans au).trans be).trans bk).trans bj);refine sC (AK I I) call153 (λw hs=>rQ hs C bf O O) λdt h8 bx D=>?_
  try simp only[zF] at D
  have dl:=yV ((qa.den)) ((qb.den));refine uG ?_;refine gv (nE underlying4 I I) I (BB (λM=>?_) λM=>?_)
  ·
   refine AR ?_;replace J:=J.mono (((be.trans bk).trans bj).trans bx);replace H:=H.mono (bj.trans bx);refine cL (AK I I) call212 (λw hs=>j5 hs J H O O) λcz h9 bd aj=>?_
   try simp only[zF] at aj
   have bw:=gE (((((AH qa.num))*((qb.den))))) (((((AH qb.num))*((qa.den)))));refine A7 ?_;replace D:=D.mono bd;refine cL (BM I I I) call152 (λw hs=>kU hs aj D O O) λcy dk bl ai=>?_
   try simp only[zF] at ai
   obtain⟨ax,ba,rfl,an,aq⟩:=ai;refine xY (A:=[]) (r':=.var b6 41 [vB ((mkRat (sg (s) ((((((((AH qa.num))*((qb.den)))))+(((((AH qb.num))*((qa.den))))))))) (((((qa.den))*((qb.den)))))).num<0),ax,ba]) (zJ (k:=0) (cs:=[_,_,_]) (vs:=[_,_,_]) I I I (BW I (Aw an (Aw aq Bf))) yC (bL I)) I I I (AF ?_);refine yI (λE S=>zS I (wM (cs:=[_,_,_]) Ar underlying41 I yC I) E S) ?_;rw[Nz M];exact⟨_,_,I,an,aq⟩
  refine Af ?_;replace J:=J.mono (((be.trans bk).trans bj).trans bx);replace H:=H.mono (bj.trans bx);refine cL (AK I I) call215 (λw hs=>NJ hs J H O) λcw h9 bd bc=>?_;obtain⟨db,rfl,ad⟩:=bc
  try simp only[zF] at ad ⊢
  have bv:=yL (HC (((((AH qa.num))*((qb.den))))) (((((AH qb.num))*((qa.den))))));refine tQ ?_;refine Bq (λaa=>?_) λaa=>?_
  ·
   have bm:=Ut aa;rw[A8 bm];refine AZ ?_;replace D:=D.mono bd;refine cL (BM I I I) call152 (λw hs=>kU hs ad D O O) λcv dk bl ah=>?_
   try simp only[zF] at ah
   obtain⟨aw,az,rfl,am,ap⟩:=ah;refine xY (A:=[]) (r':=.var b6 41 [vB ((mkRat (sg (qa.num<0) ((((((((AH qa.num))*((qb.den)))))-(((((AH qb.num))*((qa.den))))))))) (((((qa.den))*((qb.den)))))).num<0),aw,az]) (zJ (k:=0) (cs:=[_,_,_]) (vs:=[_,_,_]) I I I (BW I (Aw am (Aw ap Bf))) yC (bL I)) I I I (AF ?_);refine yI (λE S=>zS I (wM (cs:=[_,_,_]) Ar underlying41 I yC I) E S) ?_;rw[OQ M O];exact⟨_,_,I,am,ap⟩
  have bt:=Ty aa;rw[AC bt];refine AZ ?_;replace J:=J.mono bd;replace H:=H.mono bd;refine cL (AK I I) call215 (λw hs=>NJ hs H J O) λcu dk bl bb=>?_;obtain⟨da,rfl,ac⟩:=bb
  try simp only[zF] at ac ⊢
  have bu:=yL (HC (((((AH qb.num))*((qa.den))))) (((((AH qa.num))*((qb.den))))));refine uF ?_;replace D:=D.mono (bd.trans bl);refine cL (BM I I I) call152 (λw hs=>kU hs ac D O O) λct ew eh ae=>?_
  try simp only[zF] at ae
  obtain⟨av,ay,rfl,ak,ao⟩:=ae;refine xY (A:=[]) (r':=.var b6 41 [vB ((mkRat (sg (s) ((((((((AH qb.num))*((qa.den)))))-(((((AH qa.num))*((qb.den))))))))) (((((qa.den))*((qb.den)))))).num<0),av,ay]) (zJ (k:=0) (cs:=[_,_,_]) (vs:=[_,_,_]) I I I (BW I (Aw ak (Aw ao Bf))) yC (bL I)) I I I (AN ?_);refine yI (λE S=>zS I (wM (cs:=[_,_,_]) Ar underlying41 I yC I) E S) ?_;rw[O5 M O];exact⟨_,_,I,ak,ao⟩
 have ck:=Qv.1 (Br bq);refine AX ?_;refine gv (nE underlying4 I I) I (BB (λM=>?_) λM=>?_)
 ·
  refine AR ?_;replace hna:=hna.mono (ab.trans Z);replace hnb:=hnb.mono ((ar.trans ab).trans Z);refine cL (AK I I) call212 (λw hs=>j5 hs hna hnb O O) λcz h3 U aj=>?_
  try simp only[zF] at aj
  have bw:=gE ((AH qa.num)) ((AH qb.num));refine A7 ?_;replace C:=C.mono (Z.trans U);refine cL (BM I I I) call152 (λw hs=>kU hs aj C O O) λcy h4 au ai=>?_
  try simp only[zF] at ai
  obtain⟨ax,ba,rfl,an,aq⟩:=ai;refine xY (A:=[]) (r':=.var b6 41 [vB ((mkRat (sg (s) (((((AH qa.num))+((AH qb.num)))))) ((qa.den))).num<0),ax,ba]) (zJ (k:=0) (cs:=[_,_,_]) (vs:=[_,_,_]) I I I (BW I (Aw an (Aw aq Bf))) yC (bL I)) I I I (AF ?_);refine yI (λE S=>zS I (wM (cs:=[_,_,_]) Ar underlying41 I yC I) E S) ?_;rw[t3 M ck];exact⟨_,_,I,an,aq⟩
 refine Af ?_;replace hna:=hna.mono (ab.trans Z);replace hnb:=hnb.mono ((ar.trans ab).trans Z);refine cL (AK I I) call215 (λw hs=>NJ hs hna hnb O) λcw h3 U bc=>?_;obtain⟨db,rfl,ad⟩:=bc
 try simp only[zF] at ad ⊢
 have bv:=yL (HC ((AH qa.num)) ((AH qb.num)));refine tQ ?_;refine Bq (λaa=>?_) λaa=>?_
 ·
  have bm:=Ut aa;rw[A8 bm];refine AZ ?_;replace C:=C.mono (Z.trans U);refine cL (BM I I I) call152 (λw hs=>kU hs ad C O O) λcv h4 au ah=>?_
  try simp only[zF] at ah
  obtain⟨aw,az,rfl,am,ap⟩:=ah;refine xY (A:=[]) (r':=.var b6 41 [vB ((mkRat (sg (qa.num<0) (((((AH qa.num))-((AH qb.num)))))) ((qa.den))).num<0),aw,az]) (zJ (k:=0) (cs:=[_,_,_]) (vs:=[_,_,_]) I I I (BW I (Aw am (Aw ap Bf))) yC (bL I)) I I I (AF ?_);refine yI (λE S=>zS I (wM (cs:=[_,_,_]) Ar underlying41 I yC I) E S) ?_;rw[qz M ck O];exact⟨_,_,I,am,ap⟩
 have bt:=Ty aa;rw[AC bt];refine AZ ?_;replace hna:=hna.mono U;replace hnb:=hnb.mono U;refine cL (AK I I) call215 (λw hs=>NJ hs hnb hna O) λcu h4 au bb=>?_;obtain⟨da,rfl,ac⟩:=bb
 try simp only[zF] at ac ⊢
 have bu:=yL (HC ((AH qb.num)) ((AH qa.num)));refine uF ?_;replace C:=C.mono ((Z.trans U).trans au);refine cL (BM I I I) call152 (λw hs=>kU hs ac C O O) λct h5 be ae=>?_
 try simp only[zF] at ae
 obtain⟨av,ay,rfl,ak,ao⟩:=ae;refine xY (A:=[]) (r':=.var b6 41 [vB ((mkRat (sg (s) (((((AH qb.num))-((AH qa.num)))))) ((qa.den))).num<0),av,ay]) (zJ (k:=0) (cs:=[_,_,_]) (vs:=[_,_,_]) I I I (BW I (Aw ak (Aw ao Bf))) yC (bL I)) I I I (AN ?_);refine yI (λE S=>zS I (wM (cs:=[_,_,_]) Ar underlying41 I yC I) E S) ?_;rw[e4 M ck O];exact⟨_,_,I,ak,ao⟩
theorem a3{qa:Rat}{vna vda:A2}(hna:Us .u32 h0 vna (zB (AH qa.num)))(hda:Us .u32 h0 vda (zB (wH qa.den))){qb:Rat}{vnb vdb:A2}(hnb:Us .u32 h0 vnb (zB (AH qb.num)))(hdb:Us .u32 h0 vdb (zB (wH qb.den)))(hqa:lq qa<=100000000000)(hqb:lq qb<=100000000000):
 Calls prog 156 #[.agg #[vB (qa.num<0),vna,vda],.agg #[vB (qb.num<0),vnb,vdb]] w0 (Bh w0 h0 (λh r=>vJ h r (qa+qb))):=by
 have ae:=wW qa;have ai:=vT qa;have ak:=wO qa;have ad:=wW qb;have ah:=vT qb;have aj:=wO qb;refine B0 10 (.agg #[vB (qa.num<0),vna,vda]) (.agg #[vB (qb.num<0),vnb,vdb]) func156 hs ?_;refine A5 ?_;refine zE (wE (cs:=[_,_,_]) I I) I I I ?_;intro v2 r2 aa;obtain⟨b2,rfl,rfl⟩:=aa;refine zE (wE (cs:=[_,_,_]) I I) I I I ?_;intro v3 r3 Z;obtain⟨b3,rfl,rfl⟩:=Z;refine zE (vD (cs:=[vB ((0:Rat).num<0),.slice none 0 0,.slice none 0 0]) yQ I (by simp only[zb];rfl)) I I I ?_;intro v4 r4 U;obtain⟨b4,rfl,rfl⟩:=U;refine AX ?_;refine cL (BM I I I) call155 (λw hs=>Ul hs hna hda hnb hdb O O) λv9 h1 am M=>?_;obtain⟨H,J,rfl,C,D⟩:=M;have ac:=iD qa (EL (qb.num<0) qb);have ab:=Xi (qb.num<0) qb;refine xY (A:=[]) (r':=.var b4 41 [vB ((qa+EL (qb.num<0) qb).num<0),H,J]) (zJ (k:=0) (cs:=[_,_,_]) (vs:=[_,_,_]) I I I (BW I (Aw C (Aw D Bf))) yC (bL I)) I I I (AN ?_);refine yI (λE S=>zS I (wM (cs:=[_,_,_]) Ar underlying41 I yC I) E S) ?_;rw[Nx] at C D ⊢;exact⟨_,_,I,C,D⟩
theorem jk{qa:Rat}{vna vda:A2}(hna:Us .u32 h0 vna (zB (AH qa.num)))(hda:Us .u32 h0 vda (zB (wH qa.den))){qb:Rat}{vnb vdb:A2}(hnb:Us .u32 h0 vnb (zB (AH qb.num)))(hdb:Us .u32 h0 vdb (zB (wH qb.den)))(hqa:lq qa<=100000000000)(hqb:lq qb<=100000000000):
 Calls prog 83 #[.agg #[vB (qa.num<0),vna,vda],.agg #[vB (qb.num<0),vnb,vdb]] w0 (Bh w0 h0 (λh r=>vJ h r (qa-qb))):=by
 have ae:=wW qa;have ai:=vT qa;have ak:=wO qa;have ad:=wW qb;have ah:=vT qb;have aj:=wO qb;refine B0 11 (.agg #[vB (qa.num<0),vna,vda]) (.agg #[vB (qb.num<0),vnb,vdb]) func83 hs ?_;refine A5 ?_;refine zE (wE (cs:=[_,_,_]) I I) I I I ?_;intro v2 r2 aa;obtain⟨b2,rfl,rfl⟩:=aa;refine zE (wE (cs:=[_,_,_]) I I) I I I ?_;intro v3 r3 Z;obtain⟨b3,rfl,rfl⟩:=Z;refine zE (vD (cs:=[vB ((0:Rat).num<0),.slice none 0 0,.slice none 0 0]) yQ I (by simp only[zb];rfl)) I I I ?_;intro v4 r4 U;obtain⟨b4,rfl,rfl⟩:=U;refine Ak ?_;refine cL (BM I I I) call155 (λw hs=>Ul hs hna hda hnb hdb O O) λam h1 an M=>?_;obtain⟨H,J,rfl,C,D⟩:=M;have ac:=iD qa (EL (¬(qb.num<0)) qb);have ab:=Xi (¬(qb.num<0)) qb;refine xY (A:=[]) (r':=.var b4 41 [vB ((qa+EL (¬(qb.num<0)) qb).num<0),H,J]) (zJ (k:=0) (cs:=[_,_,_]) (vs:=[_,_,_]) I I I (BW I (Aw C (Aw D Bf))) yC (bL I)) I I I (AN ?_);refine yI (λE S=>zS I (wM (cs:=[_,_,_]) Ar underlying41 I yC I) E S) ?_;rw[gx,<-Qw] at C D ⊢;exact⟨_,_,I,C,D⟩
theorem hd{qa:Rat}{vna vda:A2}(hna:Us .u32 h0 vna (zB (AH qa.num)))(hda:Us .u32 h0 vda (zB (wH qa.den))){qb:Rat}{vnb vdb:A2}(hnb:Us .u32 h0 vnb (zB (AH qb.num)))(hdb:Us .u32 h0 vdb (zB (wH qb.den)))(hqa:lq qa<=100000000000)(hqb:lq qb<=100000000000):
 Calls prog 182 #[.agg #[vB (qa.num<0),vna,vda],.agg #[vB (qb.num<0),vnb,vdb]] w0 (Bh w0 h0 (λh r=>vJ h r (s6 qa qb))):=by
 have aj:=wW qa;have am:=vT qa;have ao:=wO qa;have ai:=wW qb;have ak:=vT qb;have an:=wO qb;refine B0 12 (.agg #[vB (qa.num<0),vna,vda]) (.agg #[vB (qb.num<0),vnb,vdb]) func182 hs ?_;refine A5 ?_;refine zE (wE (cs:=[_,_,_]) I I) I I I ?_;intro v2 r2 ae;obtain⟨b2,rfl,rfl⟩:=ae;refine zE (wE (cs:=[_,_,_]) I I) I I I ?_;intro v3 r3 ad;obtain⟨b3,rfl,rfl⟩:=ad;refine zE (vD (cs:=[vB ((0:Rat).num<0),.slice none 0 0,.slice none 0 0]) yQ I (by simp only[zb];rfl)) I I I ?_;intro v4 r4 ac;obtain⟨b4,rfl,rfl⟩:=ac;refine Af ?_;refine cL (AK I I) call87 (λw hs=>Q9 hs hnb hdb hna hda O O) λv7 h1 U ab=>?_;have ap:=uJ qb qa;subst ab;refine B4 (λZ=>?_) λZ=>?_
 ·
  refine A5 ?_;replace hnb:=hnb.mono U;replace hdb:=hdb.mono U;refine xY (A:=[_,_]) (r':=.var b2 41 [vB (qb.num<0),vnb,vdb]) (zJ (k:=0) (cs:=[_,_,_]) (vs:=[_,_,_]) I I I (BW I (Aw hnb (Aw hdb Bf))) yC (bL I)) I I I (AR ?_);refine cL (AU I) call159 (λw hs=>bH hs hnb hdb (by first|omega|exact Ao (wW _) O) (by first|omega|exact Ao (wO _) O)) λaa h2 ah M=>?_;obtain⟨H,J,rfl,C,D⟩:=M;refine xY (A:=[]) (r':=.var b4 41 [vB ((qb).num<0),H,J]) (zJ (k:=0) (cs:=[_,_,_]) (vs:=[_,_,_]) I I I (BW I (Aw C (Aw D Bf))) yC (bL I)) I I I (AN ?_);refine yI (λE S=>zS I (wM (cs:=[_,_,_]) Ar underlying41 I yC I) E S) ?_;rw[k2 Z];exact⟨_,_,I,C,D⟩
 refine AR ?_;replace hna:=hna.mono U;replace hda:=hda.mono U;refine cL (AU I) call159 (λw hs=>bH hs hna hda (by first|omega|exact Ao (wW _) O) (by first|omega|exact Ao (wO _) O)) λaa h2 ah M=>?_;obtain⟨H,J,rfl,C,D⟩:=M;refine xY (A:=[]) (r':=.var b4 41 [vB ((qa).num<0),H,J]) (zJ (k:=0) (cs:=[_,_,_]) (vs:=[_,_,_]) I I I (BW I (Aw C (Aw D Bf))) yC (bL I)) I I I (AN ?_);refine yI (λE S=>zS I (wM (cs:=[_,_,_]) Ar underlying41 I yC I) E S) ?_;rw[p2 Z];exact⟨_,_,I,C,D⟩
theorem im{qa:Rat}{vna vda:A2}(hna:Us .u32 h0 vna (zB (AH qa.num)))(hda:Us .u32 h0 vda (zB (wH qa.den))){qb:Rat}{vnb vdb:A2}(hnb:Us .u32 h0 vnb (zB (AH qb.num)))(hdb:Us .u32 h0 vdb (zB (wH qb.den)))(hqa:lq qa<=100000000000)(hqb:lq qb<=100000000000):
 Calls prog 183 #[.agg #[vB (qa.num<0),vna,vda],.agg #[vB (qb.num<0),vnb,vdb]] w0 (Bh w0 h0 (λh r=>vJ h r (s7 qa qb))):=by
 have aj:=wW qa;have am:=vT qa;have ao:=wO qa;have ai:=wW qb;have ak:=vT qb;have an:=wO qb;refine B0 12 (.agg #[vB (qa.num<0),vna,vda]) (.agg #[vB (qb.num<0),vnb,vdb]) func183 hs ?_;refine A5 ?_;refine zE (wE (cs:=[_,_,_]) I I) I I I ?_;intro v2 r2 ae;obtain⟨b2,rfl,rfl⟩:=ae;refine zE (wE (cs:=[_,_,_]) I I) I I I ?_;intro v3 r3 ad;obtain⟨b3,rfl,rfl⟩:=ad;refine zE (vD (cs:=[vB ((0:Rat).num<0),.slice none 0 0,.slice none 0 0]) yQ I (by simp only[zb];rfl)) I I I ?_;intro v4 r4 ac;obtain⟨b4,rfl,rfl⟩:=ac;refine Af ?_;refine cL (AK I I) call87 (λw hs=>Q9 hs hnb hdb hna hda O O) λv7 h1 U ab=>?_;have ap:=uJ qb qa;subst ab;refine B4 (λZ=>?_) λZ=>?_
 ·
  refine A5 ?_;replace hnb:=hnb.mono U;replace hdb:=hdb.mono U;refine xY (A:=[_,_]) (r':=.var b2 41 [vB (qb.num<0),vnb,vdb]) (zJ (k:=0) (cs:=[_,_,_]) (vs:=[_,_,_]) I I I (BW I (Aw hnb (Aw hdb Bf))) yC (bL I)) I I I (AR ?_);refine cL (AU I) call159 (λw hs=>bH hs hnb hdb (by first|omega|exact Ao (wW _) O) (by first|omega|exact Ao (wO _) O)) λaa h2 ah M=>?_;obtain⟨H,J,rfl,C,D⟩:=M;refine xY (A:=[]) (r':=.var b4 41 [vB ((qb).num<0),H,J]) (zJ (k:=0) (cs:=[_,_,_]) (vs:=[_,_,_]) I I I (BW I (Aw C (Aw D Bf))) yC (bL I)) I I I (AN ?_);refine yI (λE S=>zS I (wM (cs:=[_,_,_]) Ar underlying41 I yC I) E S) ?_;rw[bh Z];exact⟨_,_,I,C,D⟩
 refine AR ?_;replace hna:=hna.mono U;replace hda:=hda.mono U;refine cL (AU I) call159 (λw hs=>bH hs hna hda (by first|omega|exact Ao (wW _) O) (by first|omega|exact Ao (wO _) O)) λaa h2 ah M=>?_;obtain⟨H,J,rfl,C,D⟩:=M;refine xY (A:=[]) (r':=.var b4 41 [vB ((qa).num<0),H,J]) (zJ (k:=0) (cs:=[_,_,_]) (vs:=[_,_,_]) I I I (BW I (Aw C (Aw D Bf))) yC (bL I)) I I I (AN ?_);refine yI (λE S=>zS I (wM (cs:=[_,_,_]) Ar underlying41 I yC I) E S) ?_;rw[qf Z];exact⟨_,_,I,C,D⟩
theorem ny{qa:Rat}{vna vda:A2}(hna:Us .u32 h0 vna (zB (AH qa.num)))(hda:Us .u32 h0 vda (zB (wH qa.den))){qb:Rat}{vnb vdb:A2}(hnb:Us .u32 h0 vnb (zB (AH qb.num)))(hdb:Us .u32 h0 vdb (zB (wH qb.den)))(hqa:lq qa<=10000000000)(hqb:lq qb<=10000000000):
 Calls prog 88 #[.agg #[vB (qa.num<0),vna,vda],.agg #[vB (qb.num<0),vnb,vdb]] w0 (Bh w0 h0 (λh r=>vJ h r (iX qa qb))):=by
 have ap:=wW qa;have au:=vT qa;have aw:=wO qa;have ao:=wW qb;have ar:=vT qb;have av:=wO qb;have ba:=Tc;refine B0 12 (.agg #[vB (qa.num<0),vna,vda]) (.agg #[vB (qb.num<0),vnb,vdb]) func88 hs ?_;refine A5 ?_;refine zE (wE (cs:=[_,_,_]) I I) I I I ?_;intro v2 r2 ak;obtain⟨b2,rfl,rfl⟩:=ak;refine zE (wE (cs:=[_,_,_]) I I) I I I ?_;intro v3 r3 aj;obtain⟨b3,rfl,rfl⟩:=aj;refine zE (vD (cs:=[vB ((0:Rat).num<0),.slice none 0 0,.slice none 0 0]) yQ I (by simp only[zb];rfl)) I I I ?_;intro v4 r4 ai;obtain⟨b4,rfl,rfl⟩:=ai;refine AZ ?_;refine cL (AK I I) call156 (λw hs=>a3 hs hna hda hnb hdb O O) λv7 h1 bc ah=>?_;obtain⟨ax,ay,rfl,M,Z⟩:=ah;have an:=iD qa qb;refine cL (vs:=[]) trivial call162 (λw hs=>RC hs) λv8 h2 ad D=>?_;rw[oE] at D;have aq:=N6;refine zE (tN (kd:=.u32) (p:=2) underlying39 uW I I I) I I I ?_;intro v9 r9 ae;obtain rfl:=ae;refine yR (by intro z hz;simp only[DP] at hz;subst hz;decide) ?_;intro h3 U h9;replace D:=D.mono U;refine gv (xQ (ps':=[(1,_),(2,_)]) (vs:=[vB (aI.num<0),v8,v9]) underlying41 yQ I (vW underlying41) BR (by rw[mh];exact(wV (A:=[_]) (B:=[_]) (C:=[_]) (cs:=[_]) (off:=1) (size:=1) I I I I D.cells (wV (A:=[_,_]) (B:=[_]) (C:=[]) (cs:=[_]) (off:=2) (size:=1) I I I I h9.cells qW)))) I ?_;replace M:=M.mono (ad.trans U);replace Z:=Z.mono (ad.trans U);refine cL (AK I I) call157 (λw hs=>UQ hs M Z (vn D) (b8 h9) O O) λaz h4 bb ac=>?_;obtain⟨aa,ab,rfl,H,J⟩:=ac;have am:=iC (qa+qb) aI;refine xY (A:=[]) (r':=.var b4 41 [vB (((qa+qb)*aI).num<0),aa,ab]) (zJ (k:=0) (cs:=[_,_,_]) (vs:=[_,_,_]) I I I (BW I (Aw H (Aw J Bf))) yC (bL I)) I I I (AN ?_);refine yI (λE S=>zS I (wM (cs:=[_,_,_]) Ar underlying41 I yC I) E S) ?_;exact⟨_,_,I,H,J⟩
theorem ib{n:Int}(hn1:-9223372036854775808<=n)(hn2:n<9223372036854775808){d:Int}(hd1:-9223372036854775808<=d)(hd2:d<9223372036854775808):
 Ae 149 #[vI n,vI d] w0 h0 (λh r=>∃u,r=.tuple #[u,vI (if d=0 then 3 else 0)]/\vJ h u (sQ n d)):=by
 refine B0 19 (vI n) (vI d) func149 hs ?_;refine A5 ?_;refine zE (vD (cs:=[vB ((0:Rat).num<0),.slice none 0 0,.slice none 0 0]) yQ I (by simp only[zb];rfl)) I I I ?_;intro v4 r4 ab;obtain⟨b4,rfl,rfl⟩:=ab;refine iY (λD=>?_) λD=>?_
 ·
  refine A5 ?_;refine gv (xQ (ps':=[]) (vs:=[vB ((0:Rat).num<0),.slice none 0 0,.slice none 0 0]) underlying41 yQ I (vW underlying41) trivial (by simp only[zb];exact qW)) I (xY (A:=[]) (r':=.var b4 41 [vB ((0:Rat).num<0),.slice none 0 0,.slice none 0 0]) (zJ (k:=0) (cs:=[_,_,_]) (vs:=[_,_,_]) I I I I yC (bL I)) I I I (AR ?_));refine yI (λE S=>qG I (wM (cs:=[_,_,_]) Ar underlying41 I yC I) (gA I) E S) ?_;rw[AC D,D,Rn];exact⟨_,I,vJ.zero _⟩
 refine AX ?_;refine gv (tY underlying4 I I) I (A7 ?_);refine cL (AU I) call163 (λw hs=>Pf hs O O) λaj h1 am C=>?_;have ad:=kH (n:=n) O O;refine A7 ?_;refine cL (AU I) call163 (λw hs=>Pf hs O O) λai h2 ae aa=>?_;have ac:=kH (n:=d) O O;replace C:=C.mono ae;refine cL (BM I I I) call152 (λw hs=>kU hs C aa O O) λah h3 ak H=>?_
 try simp only[zF] at H
 obtain⟨U,Z,rfl,J,M⟩:=H;refine xY (A:=[]) (r':=.var b4 41 [vB ((mkRat (sg (¬((n<(0:Int))↔(d<(0:Int)))) ((AH (n)))) ((AH (d)))).num<0),U,Z]) (zJ (k:=0) (cs:=[_,_,_]) (vs:=[_,_,_]) I I I (BW I (Aw J (Aw M Bf))) yC (bL I)) I I I (AF ?_);refine yI (λE S=>qG I (wM (cs:=[_,_,_]) Ar underlying41 I yC I) (gA I) E S) ?_;rw[A8 D,<-QL D];exact⟨_,I,_,_,I,J,M⟩
theorem g4{n:Int}(hn1:-9223372036854775808<=n)(hn2:n<9223372036854775808):
 Ae 89 #[vI n] w0 h0 (λh r=>vJ h r (n:Rat)):=by
 refine BI 9 (vI n) func89 hs ?_;refine A5 ?_;refine zE (vD (cs:=[vB ((0:Rat).num<0),.slice none 0 0,.slice none 0 0]) yQ I (by simp only[zb];rfl)) I I I ?_;intro v2 r2 aa;obtain⟨b2,rfl,rfl⟩:=aa;refine Af ?_;refine cL (AU I) call163 (λw hs=>Pf hs O O) λv6 h1 ah C=>?_;have ad:=kH (n:=n) O O;refine cL (vs:=[]) trivial call162 (λw hs=>RC hs) λv7 h2 ab M=>?_;rw[oE] at M;have ac:=N6;replace C:=C.mono ab;refine cL (BM I I I) call152 (λw hs=>kU hs C M O O) λv8 h3 ae J=>?_
 try simp only[zF] at J
 obtain⟨U,Z,rfl,D,H⟩:=J;refine xY (A:=[]) (r':=.var b2 41 [vB ((mkRat (sg (n<(0:Int)) ((AH (n)))) ((1))).num<0),U,Z]) (zJ (k:=0) (cs:=[_,_,_]) (vs:=[_,_,_]) I I I (BW I (Aw D (Aw H Bf))) yC (bL I)) I I I (AN ?_);refine yI (λE S=>zS I (wM (cs:=[_,_,_]) Ar underlying41 I yC I) E S) ?_;rw[MR] at D H ⊢;exact⟨_,_,I,D,H⟩
theorem pF{sa:Prop}{ba vna vda:A2}{xa ya:List Nat}(hba:ba=vB sa)(hna:Us .u32 h0 vna xa)(hda:Us .u32 h0 vda ya):
 Calls prog 145 #[.agg #[ba,vna,vda]] w0 (Bh w0 h0 (λh r=>Us .u32 h r (if ya=[] then[1] else ya))):=by
 subst hba;have M:=uU hna.lt;have J:=uU hda.lt;refine BI 10 (.agg #[vB sa,vna,vda]) func145 hs ?_;refine A5 ?_;refine zE (wE (cs:=[_,_,_]) I I) I I I ?_;intro v1 r1 H;obtain⟨b1,rfl,rfl⟩:=H;refine Fj (λC=>?_) λC=>?_
 ·
  refine A5 ?_;refine zE (tN (kd:=.u32) (p:=1) underlying39 uW I I I) I I I ?_;intro v7 r7 D;obtain rfl:=D;refine yR (by intro z hz;simp only[DP] at hz;subst hz;decide) ?_;intro h1 U Z;refine AR ?_;refine zC I I ?_;rw[AC (Uf.1 C)];exact Z
 refine vV ?_;refine zC I I ?_;rw[A8 (λh=>C (Uf.2 h))];exact hda
end
end Go.Proofs.YtlpflnindligbaaGreat
