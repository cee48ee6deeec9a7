/- Texts that the proof needs, part 4. -/
import Derived.Test.YtlpflnindligbaaGreatKA3
set_option linter.unusedVariables false
set_option linter.unusedSimpArgs false
noncomputable section
set_option maxRecDepth 10000
set_option maxHeartbeats 1000000
open List renaming length→A1,getD→A0
open Int renaming natAbs→AH
open Go renaming World→AP,Value→A2,Act→Av,Program→D,Exit→BH,TypeId→Ab
namespace Go.Proofs.YtlpflnindligbaaGreat
open Bk Go Tryz
attribute [local irreducible] GL GC GQ W OpV
section
variable{w0:AP}{h0:A4}(hs:MLe h0 (BE w0))
include hs
theorem cG{s:Prop}{vn vd:A2}{xs ys:List Nat}(hn:Us .u32 h0 vn xs)(hd:Us .u32 h0 vd ys)(hl:A1 xs<=500000000000)(hl':A1 ys<=500000000000)(hd0:val ys≠0):
 Ae 146 #[vB s,vn,vd] w0 h0 (λh r=>vJ h r (mkRat (sg s (val xs)) (val ys))):=by
 have be:=uU hn.lt;have bd:=uU hd.lt;refine Cs 55 (vB s) vn vd func146 hs ?_;refine A5 ?_;refine zE (vD (cs:=[vB ((0:Rat).num<0),.slice none 0 0,.slice none 0 0]) yQ I (by simp only[zb];rfl)) I I I ?_;intro v6 r6 aq;obtain⟨b6,rfl,rfl⟩:=aq;refine AR ?_;refine cL (AU I) call203 (λw hs=>tW hs hn O) λv9 h1 ax D=>(A7 ?_);replace hd:=hd.mono ax;refine cL (AU I) call203 (λw hs=>tW hs hd O) λak h2 aw H=>?_;replace D:=D.mono aw;refine Fj (λap=>?_) λap=>?_
 ·
  refine A5 ?_;refine gv (xQ (ps':=[]) (vs:=[vB ((0:Rat).num<0),.slice none 0 0,.slice none 0 0]) underlying41 yQ I (vW underlying41) trivial (by simp only[zb];exact qW)) I (xY (A:=[]) (r':=.var b6 41 [vB ((0:Rat).num<0),.slice none 0 0,.slice none 0 0]) (zJ (k:=0) (cs:=[_,_,_]) (vs:=[_,_,_]) I I I I yC (bL I)) I I I (AF ?_));refine yI (λE S=>zS I (wM (cs:=[_,_,_]) Ar underlying41 I yC I) E S) ?_;have e:val xs=0:=C7 λe=>by have:=yJ.2 e;omega
  rw[e,KM];exact vJ.zero _
 have ah:val xs≠0:=yJ.1 O;have bf:Nat.gcd (val xs) (val ys)≠0:=JN (MO _ O);refine AZ ?_;refine cL (AK I I) call204 (λw hs=>ct hs D H O O) λba h3 ac U=>?_;have av:=X7 ((val (xs))) ((val (ys)));refine Ak ?_;refine gU 6 27 (vB (((↑(A1 (zB (Nat.gcd ((val (xs))) ((val (ys)))))):Int)≠(1:Int))\/((A0 (zB (Nat.gcd ((val (xs))) ((val (ys))))) (0) 0)≠(1:Nat)))) ?_ ?_
 ·
  refine zY ((↑(A1 (zB (Nat.gcd ((val (xs))) ((val (ys)))))):Int)≠(1:Int)) (λZ=>?_) (λZ=>?_)
  ·
   refine gT Z I (AZ ?_);refine Ay ?_;exact AV (vN Z)
  refine gF Z I (AN ?_);refine gv (yB (q:=0) (0) underlying39 sizeOf176 I I U I O) I (AN ?_);refine gv (tX (k:=.u32) (q:=1) I I) I (A5 ?_);refine Ay ?_;exact AV (vO Z)
 refine BB (λad=>?_) λad=>?_
 ·
  refine AF ?_;replace D:=D.mono ac;refine cL (AK I I) call205 (λw hs=>Qc hs D U O O) λaz h4 ao aj=>?_;obtain⟨ae,bc,rfl,J,aj⟩:=aj;have au:=yL (E1 ((val (xs))) ((Nat.gcd ((val (xs))) ((val (ys))))));refine vV ?_;replace H:=H.mono (ac.trans ao);replace U:=U.mono ao;refine cL (AK I I) call205 (λw hs=>Qc hs H U O O) λay h5 an ai=>?_;obtain⟨am,bb,rfl,aa,ai⟩:=ai;have ar:=yL (E1 ((val (ys))) ((Nat.gcd ((val (xs))) ((val (ys))))));refine tQ ?_;refine gU 6 50 (vB (((↑(A1 (zB (((val (ys)))/((Nat.gcd ((val (xs))) ((val (ys)))))))):Int)=(1:Int))/\((A0 (zB (((val (ys)))/((Nat.gcd ((val (xs))) ((val (ys))))))) (0) 0)=(1:Nat)))) ?_ ?_
  ·
   refine zY ((↑(A1 (zB (((val (ys)))/((Nat.gcd ((val (xs))) ((val (ys)))))))):Int)=(1:Int)) (λZ=>?_) (λZ=>?_)
   ·
    refine gT Z I (AN ?_);refine gv (yB (q:=0) (0) underlying39 sizeOf176 I I aa I O) I (AN ?_);refine gv (fS (k:=.u32) (q:=1) I I) I (A5 ?_);refine Ay ?_;exact AV (xE Z)
   refine gF Z I (AZ ?_);refine Ay ?_;exact AV (xG Z)
  refine BB (λM=>?_) λM=>?_
  ·
   refine Ak ?_;replace J:=J.mono an;refine gv (xQ (ps':=[(0,_),(1,_),(2,_)]) (vs:=[vB s,ae,.slice none 0 0]) underlying41 yQ I (vW underlying41) e6 (wV (A:=[]) (B:=[_]) (C:=[_,_]) (cs:=[_]) (off:=0) (size:=1) I I I I I (wV (A:=[_]) (B:=[_]) (C:=[_]) (cs:=[_]) (off:=1) (size:=1) I I I I J.cells (wV (A:=[_,_]) (B:=[_]) (C:=[]) (cs:=[_]) (off:=2) (size:=1) I I I I I qW)))) I (xY (A:=[]) (r':=.var b6 41 [vB s,ae,.slice none 0 0]) (zJ (k:=0) (cs:=[_,_,_]) (vs:=[_,_,_]) I I I (BW I (Aw J (BW I Bf))) yC (bL I)) I I I (AN ?_));refine yI (λE S=>zS I (wM (cs:=[_,_,_]) Ar underlying41 I yC I) E S) ?_;exact vJ.fin1 ah hd0 J M
  refine Af ?_;replace J:=J.mono an;refine gv (xQ (ps':=[(0,_),(1,_),(2,_)]) (vs:=[vB s,ae,am]) underlying41 yQ I (vW underlying41) e6 (wV (A:=[]) (B:=[_]) (C:=[_,_]) (cs:=[_]) (off:=0) (size:=1) I I I I I (wV (A:=[_]) (B:=[_]) (C:=[_]) (cs:=[_]) (off:=1) (size:=1) I I I I J.cells (wV (A:=[_,_]) (B:=[_]) (C:=[]) (cs:=[_]) (off:=2) (size:=1) I I I I aa.cells qW)))) I (xY (A:=[]) (r':=.var b6 41 [vB s,ae,am]) (zJ (k:=0) (cs:=[_,_,_]) (vs:=[_,_,_]) I I I (BW I (Aw J (Aw aa Bf))) yC (bL I)) I I I (AN ?_));refine yI (λE S=>zS I (wM (cs:=[_,_,_]) Ar underlying41 I yC I) E S) ?_;exact vJ.fin ah hd0 J aa M
 replace H:=H.mono ac;refine AX ?_;refine gU 6 50 (vB (((↑(A1 (zB (val (ys)))):Int)=(1:Int))/\((A0 (zB (val (ys))) (0) 0)=(1:Nat)))) ?_ ?_
 ·
  refine zY ((↑(A1 (zB (val (ys)))):Int)=(1:Int)) (λZ=>?_) (λZ=>?_)
  ·
   refine gT Z I (AN ?_);refine gv (yB (q:=0) (0) underlying39 sizeOf176 I I H I O) I (AN ?_);refine gv (fS (k:=.u32) (q:=1) I I) I (A5 ?_);refine Ay ?_;exact AV (xE Z)
  refine gF Z I (AZ ?_);refine Ay ?_;exact AV (xG Z)
 refine BB (λM=>?_) λM=>?_
 ·
  refine Ak ?_;replace D:=D.mono ac;refine gv (xQ (ps':=[(0,_),(1,_),(2,_)]) (vs:=[vB s,v9,.slice none 0 0]) underlying41 yQ I (vW underlying41) e6 (wV (A:=[]) (B:=[_]) (C:=[_,_]) (cs:=[_]) (off:=0) (size:=1) I I I I I (wV (A:=[_]) (B:=[_]) (C:=[_]) (cs:=[_]) (off:=1) (size:=1) I I I I D.cells (wV (A:=[_,_]) (B:=[_]) (C:=[]) (cs:=[_]) (off:=2) (size:=1) I I I I I qW)))) I (xY (A:=[]) (r':=.var b6 41 [vB s,v9,.slice none 0 0]) (zJ (k:=0) (cs:=[_,_,_]) (vs:=[_,_,_]) I I I (BW I (Aw D (BW I Bf))) yC (bL I)) I I I (AN ?_));refine yI (λE S=>zS I (wM (cs:=[_,_,_]) Ar underlying41 I yC I) E S) ?_;have ab:=WW ad;exact vJ.fin1 ah hd0 (by rw[ab,Ek];exact D) (by rw[ab,Ek];exact M)
 refine Af ?_;replace D:=D.mono ac;refine gv (xQ (ps':=[(0,_),(1,_),(2,_)]) (vs:=[vB s,v9,ak]) underlying41 yQ I (vW underlying41) e6 (wV (A:=[]) (B:=[_]) (C:=[_,_]) (cs:=[_]) (off:=0) (size:=1) I I I I I (wV (A:=[_]) (B:=[_]) (C:=[_]) (cs:=[_]) (off:=1) (size:=1) I I I I D.cells (wV (A:=[_,_]) (B:=[_]) (C:=[]) (cs:=[_]) (off:=2) (size:=1) I I I I H.cells qW)))) I (xY (A:=[]) (r':=.var b6 41 [vB s,v9,ak]) (zJ (k:=0) (cs:=[_,_,_]) (vs:=[_,_,_]) I I I (BW I (Aw D (Aw H Bf))) yC (bL I)) I I I (AN ?_));refine yI (λE S=>zS I (wM (cs:=[_,_,_]) Ar underlying41 I yC I) E S) ?_;have ab:=WW ad;exact vJ.fin ah hd0 (by rw[ab,Ek];exact D) (by rw[ab,Ek];exact H) (by rw[ab,Ek];exact M)
theorem R7{n:Int}(hn1:-9223372036854775808<=n)(hn2:n<9223372036854775808):
 Ae 99 #[vI n] w0 h0 (λh r=>∃u,r=.tuple #[u,vB (n<0)]/\Us .u32 h u (zB (AH n))):=by
 refine BI 15 (vI n) func99 hs ?_;refine tQ ?_;refine Bq (λC=>?_) λC=>?_
 ·
  refine AF ?_;refine gv (oB I O O) I (gv (RW (p:=(-(n+1)).toNat) (k':=.u64) (W:=18446744073709551616) underlying2 underlying169 I I (AV (AJ vI O)) O) I (gv (tZ (k:=.u64) (q:=1) (W:=18446744073709551616) I I I I O) I (cL (AU I) call165 (λw hs=>Il hs O) λU h1 J H=>(AZ ?_))));refine wS I I I ?_;rw[yU C,show (AH n)=(-(n+1)).toNat+1 by omega];exact⟨_,I,H⟩
 refine AR ?_;refine gv (RW (p:=n.toNat) (k':=.u64) (W:=18446744073709551616) underlying2 underlying169 I I (AV (AJ vI O)) O) I (cL (AU I) call165 (λw hs=>Il hs O) λM h1 J D=>(AR ?_));refine wS I I I ?_;rw[yH C,show (AH n)=n.toNat by omega];exact⟨_,I,D⟩
theorem iu{n:Int}(hn1:-9223372036854775808<=n)(hn2:n<9223372036854775808){d:Int}(hd1:-9223372036854775808<=d)(hd2:d<9223372036854775808):
 Ae 79 #[vI n,vI d] w0 h0 (λh r=>∃u,r=.tuple #[u,vI (if d=0 then 3 else 0)]/\vJ h u (sQ n d)):=by
 refine B0 29 (vI n) (vI d) func79 hs ?_;refine A5 ?_;refine zE (vD (cs:=[vB ((0:Rat).num<0),.slice none 0 0,.slice none 0 0]) yQ I (by simp only[zb];rfl)) I I I ?_;intro v4 r4 ad;obtain⟨b4,rfl,rfl⟩:=ad;refine iY (λC=>?_) λC=>?_
 ·
  refine A5 ?_;refine gv (xQ (ps':=[]) (vs:=[vB ((0:Rat).num<0),.slice none 0 0,.slice none 0 0]) underlying41 yQ I (vW underlying41) trivial (by simp only[zb];exact qW)) I (xY (A:=[]) (r':=.var b4 41 [vB ((0:Rat).num<0),.slice none 0 0,.slice none 0 0]) (zJ (k:=0) (cs:=[_,_,_]) (vs:=[_,_,_]) I I I I yC (bL I)) I I I (AR ?_));refine yI (λE S=>qG I (wM (cs:=[_,_,_]) Ar underlying41 I yC I) (gA I) E S) ?_;rw[AC C,C,Rn];exact⟨_,I,vJ.zero _⟩
 have ar:AH d≠0:=by omega
 refine AR ?_;refine cL (AU I) call99 (λw hs=>R7 hs O O) λam h1 aq ac=>?_;obtain⟨ao,rfl,D⟩:=ac;have ah:=kH (n:=n) O O;refine vV ?_;refine cL (AU I) call99 (λw hs=>R7 hs O O) λak h2 ai ab=>?_;obtain⟨an,rfl,aa⟩:=ab;have ae:=kH (n:=d) O O;refine uG ?_;refine gv (tY underlying4 I I) I (A5 ?_);replace D:=D.mono ai;refine cL (BM I I I) call146 (λw hs=>cG hs D aa O O (by first|(simp only[zF];omega)|(simp only[zF];first|exact Dh _|exact GR (Dh _) (Dh _)|exact Jr|assumption)|assumption)) λaj h3 ap H=>?_
 try simp only[zF] at H
 obtain⟨U,Z,rfl,J,M⟩:=H;refine xY (A:=[]) (r':=.var b4 41 [vB ((mkRat (sg (¬((n<0)↔(d<0))) ((AH (n)))) ((AH (d)))).num<0),U,Z]) (zJ (k:=0) (cs:=[_,_,_]) (vs:=[_,_,_]) I I I (BW I (Aw J (Aw M Bf))) yC (bL I)) I I I (AF ?_);refine yI (λE S=>qG I (wM (cs:=[_,_,_]) Ar underlying41 I yC I) (gA I) E S) ?_;rw[A8 C,<-QL C];exact⟨_,I,_,_,I,J,M⟩
theorem hO{n:Int}(hn1:-9223372036854775808<=n)(hn2:n<9223372036854775808):
 Ae 41 #[vI n] w0 h0 (λh r=>vJ h r (n:Rat)):=by
 refine BI 13 (vI n) func41 hs ?_;refine A5 ?_;refine zE (vD (cs:=[vB ((0:Rat).num<0),.slice none 0 0,.slice none 0 0]) yQ I (by simp only[zb];rfl)) I I I ?_;intro v2 r2 J;obtain⟨b2,rfl,rfl⟩:=J;refine AR ?_;refine cL (AU I) call99 (λw hs=>R7 hs O O) λv7 h1 Z H=>?_;obtain⟨M,rfl,D⟩:=H;have U:=kH (n:=n) O O;refine uG ?_;refine gv (xQ (ps':=[(0,_),(1,_)]) (vs:=[vB (n<0),M,.slice none 0 0]) underlying41 yQ I (vW underlying41) BR (wV (A:=[]) (B:=[_]) (C:=[_,_]) (cs:=[_]) (off:=0) (size:=1) I I I I I (wV (A:=[_]) (B:=[_]) (C:=[_]) (cs:=[_]) (off:=1) (size:=1) I I I I D.cells qW))) I (xY (A:=[]) (r':=.var b2 41 [vB (n<0),M,.slice none 0 0]) (zJ (k:=0) (cs:=[_,_,_]) (vs:=[_,_,_]) I I I (BW I (Aw D (BW I Bf))) yC (bL I)) I I I (AN ?_));refine yI (λE S=>zS I (wM (cs:=[_,_,_]) Ar underlying41 I yC I) E S) ?_;exact vJ.int D
theorem ta{n:Int}(hn1:-9223372036854775808<=n)(hn2:n<9223372036854775808){d:Int}(hd1:-9223372036854775808<=d)(hd2:d<9223372036854775808):
 Ae 42 #[vI n,vI d] w0 h0 (λh r=>vJ h r (sQ n d)):=by
 refine B0 14 (vI n) (vI d) func42 hs ?_;refine A5 ?_;refine zE (vD (cs:=[vB ((0:Rat).num<0),.slice none 0 0,.slice none 0 0]) yQ I (by simp only[zb];rfl)) I I I ?_;intro v4 r4 Z;obtain⟨b4,rfl,rfl⟩:=Z;refine AZ ?_;refine cL (AK I I) call79 (λw hs=>iu hs O O O O) λab h1 ac M=>?_;obtain⟨_,rfl,H,J,rfl,C,D⟩:=M;have aa:=MF (n:=n) (d:=d) O O O O;refine AN ?_;refine zE (vD (cs:=[vB ((0:Rat).num<0),.slice none 0 0,.slice none 0 0]) yQ I (by simp only[zb];rfl)) I I I ?_;intro v5 r5 U;obtain⟨b5,rfl,rfl⟩:=U;refine xY (A:=[]) (r':=.var b5 41 [vB ((sQ n d).num<0),H,J]) (zJ (k:=0) (cs:=[_,_,_]) (vs:=[_,_,_]) I I I (BW I (Aw C (Aw D Bf))) yC (bL I)) I I I (AZ ?_);refine xY (A:=[_]) (r':=.var b4 41 [vB ((sQ n d).num<0),H,J]) (zJ (k:=0) (cs:=[_,_,_]) (vs:=[_,_,_]) I I I (BW I (Aw C (Aw D Bf))) yC (bL I)) I I I (AN ?_);refine yI (λE S=>zS I (wM (cs:=[_,_,_]) Ax underlying41 I yC I) E S) ?_;exact⟨_,_,I,C,D⟩
theorem hF{qa:Rat}{vna vda:A2}(hna:Us .u32 h0 vna (zB (AH qa.num)))(hda:Us .u32 h0 vda (zB (wH qa.den))){qb:Rat}{vnb vdb:A2}(hnb:Us .u32 h0 vnb (zB (AH qb.num)))(hdb:Us .u32 h0 vdb (zB (wH qb.den)))(hqa:lq qa<=100000000000)(hqb:lq qb<=100000000000):
 Calls prog 56 #[.agg #[vB (qa.num<0),vna,vda],.agg #[vB (qb.num<0),vnb,vdb]] w0 (Bh w0 h0 (λ_ r=>r=vB (qa=qb))):=by
 have ah:=wW qa;have aj:=vT qa;have am:=wO qa;have ae:=wW qb;have ai:=vT qb;have ak:=wO qb;refine B0 26 (.agg #[vB (qa.num<0),vna,vda]) (.agg #[vB (qb.num<0),vnb,vdb]) func56 hs ?_;refine A5 ?_;refine zE (wE (cs:=[_,_,_]) I I) I I I ?_;intro v2 r2 ad;obtain⟨b2,rfl,rfl⟩:=ad;refine zE (wE (cs:=[_,_,_]) I I) I I I ?_;intro v3 r3 ac;obtain⟨b3,rfl,rfl⟩:=ac;refine Ak ?_;refine gv (nE underlying4 I I) I ?_;refine uH (ι:=A4) 8 (λJ=>MLe h0 J) (λ_=>[(17,vB (((qa.num<0)↔(qb.num<0))/\((cD (AH qa.num) (AH qb.num))=(0:Int)))),(2,vP b2 0),(3,vP b3 0)]) (λ_=>[.var b3 41 [vB (qb.num<0),vnb,vdb],.var b2 41 [vB (qa.num<0),vna,vda]]) (λJ=>J) ?_ ?_
 ·
  refine zY ((qa.num<0)↔(qb.num<0)) (λH=>?_) (λH=>?_)
  ·
   refine gT H I (Ak ?_);refine cL (AK I I) call112 (λw hs=>eH hs hna hnb) λao h1 M aa=>?_;subst aa;refine AF ?_;refine zV h1 M ⟨?_,I,I,AW⟩ I I;exact AV (xE H)
  refine gF H I (AX ?_);refine zV h0 (MLe.refl _) ⟨?_,I,I,AW⟩ I I;exact AV (xG H)
 intro D C;refine fM ?_;refine uH (ι:=A4) 8 (λJ=>MLe D J) (λ_=>[(25,vB ((((qa.num<0)↔(qb.num<0))/\((cD (AH qa.num) (AH qb.num))=(0:Int)))/\((cD ((wH qa.den)) ((wH qb.den)))=(0:Int))))]) (λ_=>[.var b3 41 [vB (qb.num<0),vnb,vdb],.var b2 41 [vB (qa.num<0),vna,vda]]) (λJ=>J) ?_ ?_
 ·
  refine zY (((qa.num<0)↔(qb.num<0))/\((cD (AH qa.num) (AH qb.num))=(0:Int))) (λH=>?_) (λH=>?_)
  ·
   refine gT H I (Ak ?_);replace hda:=hda.mono C;replace hdb:=hdb.mono C;refine cL (AK I I) call112 (λw hs=>eH hs hda hdb) λan h1 M Z=>?_;subst Z;refine AF ?_;refine zV h1 M ⟨?_,AW⟩ I I;exact AV (xE H)
  refine gF H I (AX ?_);refine zV D (MLe.refl _) ⟨?_,AW⟩ I I;exact AV (xG H)
 intro ab U;refine fM ?_;refine AF ?_;refine zC I I ?_;exact qQ te
theorem Pp{qa:Rat}{vna vda:A2}(hna:Us .u32 h0 vna (zB (AH qa.num)))(hda:Us .u32 h0 vda (zB (wH qa.den)))(hqa:lq qa<=100000000000):
 Calls prog 74 #[.agg #[vB (qa.num<0),vna,vda]] w0 (Bh w0 h0 (λ_ r=>r=vI (yK qa))):=by
 have J:=wW qa;have M:=vT qa;have U:=wO qa;refine BI 9 (.agg #[vB (qa.num<0),vna,vda]) func74 hs ?_;refine A5 ?_;refine zE (wE (cs:=[_,_,_]) I I) I I I ?_;intro v1 r1 H;obtain⟨Z,rfl,rfl⟩:=H;refine Fj (λD=>?_) λD=>?_
 ·
  refine Af ?_;refine zC I I ?_;rw[lG (aE D)]
 refine Bj (λC=>?_) λC=>?_
 ·
  refine Af ?_;refine zC I I ?_;rw[Ok C]
 refine AX ?_;refine zC I I ?_;rw[M9 (a2 D) C]
theorem XL{qa:Rat}{vna vda:A2}(hna:Us .u32 h0 vna (zB (AH qa.num)))(hda:Us .u32 h0 vda (zB (wH qa.den)))(hqa:lq qa<=100000000000):
 Calls prog 105 #[.agg #[vB (qa.num<0),vna,vda]] w0 (Bh w0 h0 (λh r=>vJ h r (-qa))):=by
 have J:=wW qa;have M:=vT qa;have U:=wO qa;refine BI 14 (.agg #[vB (qa.num<0),vna,vda]) func105 hs ?_;refine A5 ?_;refine zE (wE (cs:=[_,_,_]) I I) I I I ?_;intro v1 r1 H;obtain⟨b1,rfl,rfl⟩:=H;refine zE (vD (cs:=[vB ((0:Rat).num<0),.slice none 0 0,.slice none 0 0]) yQ I (by simp only[zb];rfl)) I I I ?_;intro v2 r2 D;obtain⟨Z,rfl,rfl⟩:=D;refine Af ?_;refine gU 6 11 (vB ((¬(qa.num<0))/\((0:Int)<(↑(A1 (zB (AH qa.num))):Int)))) ?_ ?_
 ·
  refine zY (¬(qa.num<0)) (λC=>?_) (λC=>?_)
  ·
   refine gT C I (vV ?_);refine Ay ?_;exact AV (xE C)
  refine gF C I (AZ ?_);refine Ay ?_;exact AV (xG C)
 refine A7 ?_;refine xY (A:=[_]) (r':=.var b1 41 [vB ((¬(qa.num<0))/\((0:Int)<(↑(A1 (zB (AH qa.num))):Int))),vna,vda]) (zJ (k:=0) (cs:=[_,_,_]) (vs:=[_]) I I I I OU (bL I)) I I I (AR ?_);refine xY (A:=[]) (r':=.var Z 41 [vB ((¬(qa.num<0))/\((0:Int)<(↑(A1 (zB (AH qa.num))):Int))),vna,vda]) (zJ (k:=0) (cs:=[_,_,_]) (vs:=[_,_,_]) I I I (BW I (Aw hna (Aw hda Bf))) yC (bL I)) I I I (AN ?_);refine yI (λE S=>zS I (wM (cs:=[_,_,_]) Ar underlying41 I yC I) E S) ?_;exact vJ.negB hna hda
theorem jo{qa:Rat}{vna vda:A2}(hna:Us .u32 h0 vna (zB (AH qa.num)))(hda:Us .u32 h0 vda (zB (wH qa.den)))(hqa:lq qa<=100000000000):
 Calls prog 96 #[.agg #[vB (qa.num<0),vna,vda]] w0 (Bh w0 h0 (λh r=>vJ h r (rJ qa))):=by
 have H:=wW qa;have J:=vT qa;have M:=wO qa;refine BI 5 (.agg #[vB (qa.num<0),vna,vda]) func96 hs ?_;refine A5 ?_;refine zE (wE (cs:=[_,_,_]) I I) I I I ?_;intro v1 r1 D;obtain⟨Z,rfl,rfl⟩:=D;refine zE (vD (cs:=[vB ((0:Rat).num<0),.slice none 0 0,.slice none 0 0]) yQ I (by simp only[zb];rfl)) I I I ?_;intro v2 r2 C;obtain⟨U,rfl,rfl⟩:=C;refine AR ?_;refine xY (A:=[_]) (r':=.var Z 41 [.bool false,vna,vda]) (zJ (k:=0) (cs:=[_,_,_]) (vs:=[_]) I I I I OU (bL I)) I I I (AR ?_);refine xY (A:=[]) (r':=.var U 41 [.bool false,vna,vda]) (zJ (k:=0) (cs:=[_,_,_]) (vs:=[_,_,_]) I I I (BW I (Aw hna (Aw hda Bf))) yC (bL I)) I I I (AN ?_);refine yI (λE S=>zS I (wM (cs:=[_,_,_]) Ar underlying41 I yC I) E S) ?_;exact vJ.abs hna hda
theorem SE{qa:Rat}{vna vda:A2}(hna:Us .u32 h0 vna (zB (AH qa.num)))(hda:Us .u32 h0 vda (zB (wH qa.den))){qb:Rat}{vnb vdb:A2}(hnb:Us .u32 h0 vnb (zB (AH qb.num)))(hdb:Us .u32 h0 vdb (zB (wH qb.den)))(hqa:lq qa<=100000000000)(hqb:lq qb<=100000000000):
 Calls prog 77 #[.agg #[vB (qa.num<0),vna,vda],.agg #[vB (qb.num<0),vnb,vdb]] w0 (Bh w0 h0 (λh r=>vJ h r (qa+qb))):=by
 have ca:=wW qa;have cc:=vT qa;have ce:=wO qa;have bz:=wW qb;have cb:=vT qb;have cd:=wO qb;refine B0 75 (.agg #[vB (qa.num<0),vna,vda]) (.agg #[vB (qb.num<0),vnb,vdb]) func77 hs ?_;refine A5 ?_;refine zE (wE (cs:=[_,_,_]) I I) I I I ?_;intro v2 r2 bq;obtain⟨b2,rfl,rfl⟩:=bq;refine zE (wE (cs:=[_,_,_]) I I) I I I ?_;intro v3 r3 bp;obtain⟨b3,rfl,rfl⟩:=bp;refine zE (vD (cs:=[vB ((0:Rat).num<0),.slice none 0 0,.slice none 0 0]) yQ I (by simp only[zb];rfl)) I I I ?_;intro v4 r4 bo;obtain⟨b4,rfl,rfl⟩:=bo;refine EI (λba=>?_) λba=>?_
 ·
  refine AN ?_;refine xY (A:=[]) (r':=.var b4 41 [vB (qb.num<0),vnb,vdb]) (zJ (k:=0) (cs:=[_,_,_]) (vs:=[_,_,_]) I I I (BW I (Aw hnb (Aw hdb Bf))) yC (bL I)) I I I (AF ?_);refine yI (λE S=>zS I (wM (cs:=[_,_,_]) Ar underlying41 I yC I) E S) ?_;rw[aE ba,Rat.zero_add];exact⟨_,_,I,hnb,hdb⟩
 refine EI (λaz=>?_) λaz=>?_
 ·
  refine AN ?_;refine xY (A:=[]) (r':=.var b4 41 [vB (qa.num<0),vna,vda]) (zJ (k:=0) (cs:=[_,_,_]) (vs:=[_,_,_]) I I I (BW I (Aw hna (Aw hda Bf))) yC (bL I)) I I I (AF ?_);refine yI (λE S=>zS I (wM (cs:=[_,_,_]) Ar underlying41 I yC I) E S) ?_;rw[aE az,Rat.add_zero];exact⟨_,_,I,hna,hda⟩
 refine AN ?_;refine zG 12 _ [] [(0,.q),(1,.q),(2,.q),(5,.q),(6,.q),(7,.q),(3,.c),(4,.c),(8,.c),(9,.c),(10,.q),(11,.q)] zX nX Ac nX (λr hr=>hr) (AZ ?_);refine AB I (sC (AU I) call145 (λw hs=>pF hs I hnb hdb) λcu h1 aq ay=>?_);rw[qH] at ay;refine AB I ?_;replace hna:=hna.mono aq;refine sC (AK I I) call144 (λw hs=>bU hs hna ay O O) λct h2 ap D=>?_
 try simp only[zF] at D
 have bw:=yV ((AH qa.num)) ((qb.den));refine AB I ?_;replace hna:=hna.mono ap;replace hda:=hda.mono (aq.trans ap);refine sC (AU I) call145 (λw hs=>pF hs I hna hda) λcq h3 ab ax=>?_;rw[qH] at ax;refine AB I ?_;replace hnb:=hnb.mono ((aq.trans ap).trans ab);refine sC (AK I I) call144 (λw hs=>bU hs hnb ax O O) λcp h4 aa C=>?_
 try simp only[zF] at C
 have bv:=yV ((AH qb.num)) ((qa.den));refine AR ?_;refine zG 6 _ [] [(0,.q),(2,.q),(1,.c),(3,.c),(4,.c),(5,.q)] zX nX Ac nX (λr hr=>hr) (A5 ?_);refine AB I ?_;replace hna:=hna.mono (ab.trans aa);replace hda:=hda.mono (ab.trans aa);refine sC (AU I) call145 (λw hs=>pF hs I hna hda) λco h5 Z M=>?_;rw[qH] at M;refine AB I ?_;replace hnb:=hnb.mono (aa.trans Z);replace hdb:=hdb.mono ((((aq.trans ap).trans ab).trans aa).trans Z);refine sC (AU I) call145 (λw hs=>pF hs I hnb hdb) λcn h6 ah aw=>?_;rw[qH] at aw;refine AB I ?_;replace M:=M.mono ah;refine sC (AK I I) call144 (λw hs=>bU hs M aw O O) λcm h7 ao H=>?_
 try simp only[zF] at H
 have bu:=yV ((qa.den)) ((qb.den));refine vV ?_;refine gv (nE underlying4 I I) I (BB (λU=>?_) λU=>?_)
 ·
  refine A7 ?_;refine zG 7 _ [] (Ah 0 4 [(5,.q),(4,.c),(6,.c),(7,.t)]) zX nX Ac nX (λr hr=>hr) (AR ?_);refine AB I ?_;replace D:=D.mono ((((ab.trans aa).trans Z).trans ah).trans ao);replace C:=C.mono ((Z.trans ah).trans ao);refine sC (AK I I) call147 (λw hs=>vd hs D C O O) λcl h8 J bm=>?_;have bt:=gE ((((AH qa.num))*((qb.den)))) ((((AH qb.num))*((qa.den))));refine AB I ?_;replace H:=H.mono J;refine sC (BM I I I) call146 (λw hs=>cG hs bm H O O (by first|(simp only[zF];omega)|(simp only[zF];first|exact Dh _|exact GR (Dh _) (Dh _)|exact Jr|assumption)|assumption)) λck h9 an av=>?_
  try simp only[zF] at av
  obtain⟨bd,bg,rfl,ae,ak⟩:=av;refine tC (A:=[]) (q':=.var b4 41 [vB ((mkRat (sg (qa.num<0) (((((((AH qa.num))*((qb.den))))+((((AH qb.num))*((qa.den)))))))) (((((qa.den))*((qb.den)))))).num<0),bd,bg]) I (zJ (k:=0) (cs:=[_,_,_]) (vs:=[_,_,_]) I I I (BW I (Aw ae (Aw ak Bf))) yC (bL I)) I (AF ?_);refine yI (λE S=>zS I (wM (cs:=[_,_,_]) Ar underlying41 I yC I) E S) ?_;rw[tp U] at ae ak ⊢;exact⟨_,_,I,ae,ak⟩
 refine Af ?_;replace D:=D.mono ((((ab.trans aa).trans Z).trans ah).trans ao);replace C:=C.mono ((Z.trans ah).trans ao);refine cL (AK I I) call112 (λw hs=>eH hs D C) λcj h8 J bl=>?_;subst bl;refine B4 (λam=>?_) λam=>?_
 ·
  refine AF ?_;replace D:=D.mono J;replace C:=C.mono J;refine cL (AK I I) call148 (λw hs=>ZV hs C D O) λci h9 an bk=>?_;obtain⟨cw,rfl,bi⟩:=bk;have bs:=yL (HC ((((AH qb.num))*((qa.den)))) ((((AH qa.num))*((qb.den)))));refine tQ ?_;replace H:=H.mono (J.trans an);refine cL (BM I I I) call146 (λw hs=>cG hs bi H O O (by first|(simp only[zF];omega)|(simp only[zF];first|exact Dh _|exact GR (Dh _) (Dh _)|exact Jr|assumption)|assumption)) λch bx bn au=>?_
  try simp only[zF] at au
  obtain⟨bc,bf,rfl,ad,aj⟩:=au;refine xY (A:=[]) (r':=.var b4 41 [vB ((mkRat (sg (qb.num<0) (((((((AH qb.num))*((qa.den))))-((((AH qa.num))*((qb.den)))))))) (((((qa.den))*((qb.den)))))).num<0),bc,bf]) (zJ (k:=0) (cs:=[_,_,_]) (vs:=[_,_,_]) I I I (BW I (Aw ad (Aw aj Bf))) yC (bL I)) I I I (AF ?_);refine yI (λE S=>zS I (wM (cs:=[_,_,_]) Ar underlying41 I yC I) E S) ?_;rw[hu U (by have:=pO.1 am;omega)] at ad aj ⊢;exact⟨_,_,I,ad,aj⟩
 refine AZ ?_;replace D:=D.mono J;replace C:=C.mono J;refine cL (AK I I) call148 (λw hs=>ZV hs D C O) λcg h9 an bj=>?_;obtain⟨cv,rfl,bh⟩:=bj;have br:=yL (HC ((((AH qa.num))*((qb.den)))) ((((AH qb.num))*((qa.den)))));refine tQ ?_;replace H:=H.mono (J.trans an);refine cL (BM I I I) call146 (λw hs=>cG hs bh H O O (by first|(simp only[zF];omega)|(simp only[zF];first|exact Dh _|exact GR (Dh _) (Dh _)|exact Jr|assumption)|assumption)) λcf bx bn ar=>?_
 try simp only[zF] at ar
 obtain⟨bb,be,rfl,ac,ai⟩:=ar;refine xY (A:=[]) (r':=.var b4 41 [vB ((mkRat (sg (qa.num<0) (((((((AH qa.num))*((qb.den))))-((((AH qb.num))*((qa.den)))))))) (((((qa.den))*((qb.den)))))).num<0),bb,be]) (zJ (k:=0) (cs:=[_,_,_]) (vs:=[_,_,_]) I I I (BW I (Aw ac (Aw ai Bf))) yC (bL I)) I I I (AN ?_);refine yI (λE S=>zS I (wM (cs:=[_,_,_]) Ar underlying41 I yC I) E S) ?_;rw[gk U (Jd (λh=>am (pO.2 h)))] at ac ai ⊢;exact⟨_,_,I,ac,ai⟩
theorem hj{qa:Rat}{vna vda:A2}(hna:Us .u32 h0 vna (zB (AH qa.num)))(hda:Us .u32 h0 vda (zB (wH qa.den))){qb:Rat}{vnb vdb:A2}(hnb:Us .u32 h0 vnb (zB (AH qb.num)))(hdb:Us .u32 h0 vdb (zB (wH qb.den)))(hqa:lq qa<=100000000000)(hqb:lq qb<=100000000000):
 Calls prog 95 #[.agg #[vB (qa.num<0),vna,vda],.agg #[vB (qb.num<0),vnb,vdb]] w0 (Bh w0 h0 (λh r=>vJ h r (qa-qb))):=by
 have ak:=wW qa;have an:=vT qa;have ap:=wO qa;have aj:=wW qb;have am:=vT qb;have ao:=wO qb;refine B0 9 (.agg #[vB (qa.num<0),vna,vda]) (.agg #[vB (qb.num<0),vnb,vdb]) func95 hs ?_;refine A5 ?_;refine zE (wE (cs:=[_,_,_]) I I) I I I ?_;intro v2 r2 ac;obtain⟨b2,rfl,rfl⟩:=ac;refine zE (wE (cs:=[_,_,_]) I I) I I I ?_;intro v3 r3 ab;obtain⟨b3,rfl,rfl⟩:=ab;refine zE (vD (cs:=[vB ((0:Rat).num<0),.slice none 0 0,.slice none 0 0]) yQ I (by simp only[zb];rfl)) I I I ?_;intro v4 r4 aa;obtain⟨b4,rfl,rfl⟩:=aa;refine AN ?_;refine zG 4 _ [] [(0,.q),(1,.q),(2,.c),(3,.c),(4,.t)] zX nX Ac nX (λr hr=>hr) (A5 ?_);refine AB I (sC (AU I) call105 (λw hs=>XL hs hnb hdb O) λv7 h1 H Z=>?_);obtain⟨aq,ar,rfl,ad,ae⟩:=Z;have ai:=z5 qb;refine AB I ?_;replace hna:=hna.mono H;replace hda:=hda.mono H;refine sC (AK I I) call77 (λw hs=>SE hs hna hda ad ae O O) λv8 h2 au U=>?_;obtain⟨J,M,rfl,C,D⟩:=U;have ah:=iD qa (-qb);refine tC (A:=[]) (q':=.var b4 41 [vB ((qa+(-qb)).num<0),J,M]) I (zJ (k:=0) (cs:=[_,_,_]) (vs:=[_,_,_]) I I I (BW I (Aw C (Aw D Bf))) yC (bL I)) I (AN ?_);refine yI (λE S=>zS I (wM (cs:=[_,_,_]) Ar underlying41 I yC I) E S) ?_;rw[<-Qw] at C D ⊢;exact⟨_,_,I,C,D⟩
theorem b0{qa:Rat}{vna vda:A2}(hna:Us .u32 h0 vna (zB (AH qa.num)))(hda:Us .u32 h0 vda (zB (wH qa.den))){qb:Rat}{vnb vdb:A2}(hnb:Us .u32 h0 vnb (zB (AH qb.num)))(hdb:Us .u32 h0 vdb (zB (wH qb.den)))(hqa:lq qa<=100000000000)(hqb:lq qb<=100000000000):
 Calls prog 98 #[.agg #[vB (qa.num<0),vna,vda],.agg #[vB (qb.num<0),vnb,vdb]] w0 (Bh w0 h0 (λh r=>vJ h r (qa*qb))):=by
 have ap:=wW qa;have ar:=vT qa;have av:=wO qa;have ao:=wW qb;have aq:=vT qb;have au:=wO qb;refine B0 21 (.agg #[vB (qa.num<0),vna,vda]) (.agg #[vB (qb.num<0),vnb,vdb]) func98 hs ?_;refine A5 ?_;refine zE (wE (cs:=[_,_,_]) I I) I I I ?_;intro v2 r2 aj;obtain⟨b2,rfl,rfl⟩:=aj;refine zE (wE (cs:=[_,_,_]) I I) I I I ?_;intro v3 r3 ai;obtain⟨b3,rfl,rfl⟩:=ai;refine zE (vD (cs:=[vB ((0:Rat).num<0),.slice none 0 0,.slice none 0 0]) yQ I (by simp only[zb];rfl)) I I I ?_;intro v4 r4 ah;obtain⟨b4,rfl,rfl⟩:=ah;refine AN ?_;refine zG 16 _ [] (Ah 0 9 [(10,.q),(12,.q),(9,.c),(11,.c),(13,.c),(14,.c),(15,.c),(16,.t)]) zX nX Ac nX (λr hr=>hr) (AF ?_);refine wK I (λ_ _=>tY underlying4 I I) I (AZ ?_);refine AB I (sC (AK I I) call144 (λw hs=>bU hs hna hnb O O) λba h1 M D=>?_)
 try simp only[zF] at D
 have am:=yV ((AH qa.num)) ((AH qb.num));refine AB I ?_;replace hna:=hna.mono M;replace hda:=hda.mono M;refine sC (AU I) call145 (λw hs=>pF hs I hna hda) λaz h2 ab C=>?_;rw[qH] at C;refine AB I ?_;replace hnb:=hnb.mono (M.trans ab);replace hdb:=hdb.mono (M.trans ab);refine sC (AU I) call145 (λw hs=>pF hs I hnb hdb) λay h3 ae aa=>?_;rw[qH] at aa;refine AB I ?_;replace C:=C.mono ae;refine sC (AK I I) call144 (λw hs=>bU hs C aa O O) λax h4 an Z=>?_
 try simp only[zF] at Z
 have ak:=yV ((qa.den)) ((qb.den));refine AB I ?_;replace D:=D.mono ((ab.trans ae).trans an);refine sC (BM I I I) call146 (λw hs=>cG hs D Z O O (by first|(simp only[zF];omega)|(simp only[zF];first|exact Dh _|exact GR (Dh _) (Dh _)|exact Jr|assumption)|assumption)) λaw h5 bb U=>?_
 try simp only[zF] at U
 obtain⟨ac,ad,rfl,H,J⟩:=U;refine tC (A:=[]) (q':=.var b4 41 [vB ((mkRat (sg (¬((qa.num<0)↔(qb.num<0))) (((((AH qa.num))*((AH qb.num)))))) (((((qa.den))*((qb.den)))))).num<0),ac,ad]) I (zJ (k:=0) (cs:=[_,_,_]) (vs:=[_,_,_]) I I I (BW I (Aw H (Aw J Bf))) yC (bL I)) I (AN ?_);refine yI (λE S=>zS I (wM (cs:=[_,_,_]) Ar underlying41 I yC I) E S) ?_;rw[b1] at H J ⊢;exact⟨_,_,I,H,J⟩
theorem mi{qa:Rat}{vna vda:A2}(hna:Us .u32 h0 vna (zB (AH qa.num)))(hda:Us .u32 h0 vda (zB (wH qa.den))){qb:Rat}{vnb vdb:A2}(hnb:Us .u32 h0 vnb (zB (AH qb.num)))(hdb:Us .u32 h0 vdb (zB (wH qb.den)))(hqa:lq qa<=100000000000)(hqb:lq qb<=100000000000):
 Calls prog 94 #[.agg #[vB (qa.num<0),vna,vda],.agg #[vB (qb.num<0),vnb,vdb]] w0 (Bh w0 h0 (λh r=>∃u,r=.tuple #[u,vI (if qb=0 then 3 else 0)]/\vJ h u (if qb=0 then 0 else qa/qb))):=by
 have au:=wW qa;have aw:=vT qa;have ay:=wO qa;have ar:=wW qb;have av:=vT qb;have ax:=wO qb;refine B0 27 (.agg #[vB (qa.num<0),vna,vda]) (.agg #[vB (qb.num<0),vnb,vdb]) func94 hs ?_;refine A5 ?_;refine zE (wE (cs:=[_,_,_]) I I) I I I ?_;intro v2 r2 am;obtain⟨b2,rfl,rfl⟩:=am;refine zE (wE (cs:=[_,_,_]) I I) I I I ?_;intro v3 r3 ak;obtain⟨b3,rfl,rfl⟩:=ak;refine zE (vD (cs:=[vB ((0:Rat).num<0),.slice none 0 0,.slice none 0 0]) yQ I (by simp only[zb];rfl)) I I I ?_;intro v4 r4 aj;obtain⟨b4,rfl,rfl⟩:=aj;refine Fj (λJ=>?_) λJ=>?_
 ·
  refine A5 ?_;refine gv (xQ (ps':=[]) (vs:=[vB ((0:Rat).num<0),.slice none 0 0,.slice none 0 0]) underlying41 yQ I (vW underlying41) trivial (by simp only[zb];exact qW)) I (xY (A:=[]) (r':=.var b4 41 [vB ((0:Rat).num<0),.slice none 0 0,.slice none 0 0]) (zJ (k:=0) (cs:=[_,_,_]) (vs:=[_,_,_]) I I I I yC (bL I)) I I I (AR ?_));refine yI (λE S=>qG I (wM (cs:=[_,_,_]) Ar underlying41 I yC I) (gA I) E S) ?_;rw[AC (aE J),AC (aE J)];exact⟨_,I,vJ.zero _⟩
 have M:=a2 J;have aq:=Lb.2 M;have bf:qa.den*AH qb.num≠0:=GR qa.den_nz aq;refine AN ?_;refine zG 16 _ [] (Ah 0 8 [(10,.q),(12,.q),(13,.q),(8,.c),(9,.c),(11,.c),(14,.c),(15,.c),(16,.t),(17,.t)]) zX nX Ac nX (λr hr=>hr) (AF ?_);refine wK I (λ_ _=>tY underlying4 I I) I (AZ ?_);refine AB I (sC (AU I) call145 (λw hs=>pF hs I hnb hdb) λbd h1 ad ab=>?_);rw[qH] at ab;refine AB I ?_;replace hna:=hna.mono ad;refine sC (AK I I) call144 (λw hs=>bU hs hna ab O O) λbc h2 ac C=>?_
 try simp only[zF] at C
 have ao:=yV ((AH qa.num)) ((qb.den));refine AB I ?_;replace hna:=hna.mono ac;replace hda:=hda.mono (ad.trans ac);refine sC (AU I) call145 (λw hs=>pF hs I hna hda) λbb h3 ai aa=>?_;rw[qH] at aa;refine AB I ?_;replace hnb:=hnb.mono ((ad.trans ac).trans ai);refine sC (AK I I) call144 (λw hs=>bU hs aa hnb O O) λba h4 ap Z=>?_
 try simp only[zF] at Z
 have an:=yV ((qa.den)) ((AH qb.num));refine AB I ?_;replace C:=C.mono (ai.trans ap);refine sC (BM I I I) call146 (λw hs=>cG hs C Z O O (by first|(simp only[zF];omega)|(simp only[zF];first|exact Dh _|exact GR (Dh _) (Dh _)|exact Jr|assumption)|assumption)) λaz h5 be U=>?_
 try simp only[zF] at U
 obtain⟨ae,ah,rfl,D,H⟩:=U;refine tC (A:=[]) (q':=.var b4 41 [vB ((mkRat (sg (¬((qa.num<0)↔(qb.num<0))) (((((AH qa.num))*((qb.den)))))) (((((qa.den))*((AH qb.num)))))).num<0),ae,ah]) I (zJ (k:=0) (cs:=[_,_,_]) (vs:=[_,_,_]) I I I (BW I (Aw D (Aw H Bf))) yC (bL I)) I (nW I (rN (v:=vI (0)) I) I (AN ?_));refine yI (λE S=>qG I (wM (cs:=[_,_,_]) Ar underlying41 I yC I) (gA I) E S) ?_;rw[A8 M,A8 M];rw[U7 _ M] at D H ⊢;exact⟨_,I,_,_,I,D,H⟩
theorem vq{qa:Rat}{vna vda:A2}(hna:Us .u32 h0 vna (zB (AH qa.num)))(hda:Us .u32 h0 vda (zB (wH qa.den))){qb:Rat}{vnb vdb:A2}(hnb:Us .u32 h0 vnb (zB (AH qb.num)))(hdb:Us .u32 h0 vdb (zB (wH qb.den)))(hqa:lq qa<=100000000000)(hqb:lq qb<=100000000000):
 Calls prog 97 #[.agg #[vB (qa.num<0),vna,vda],.agg #[vB (qb.num<0),vnb,vdb]] w0 (Bh w0 h0 (λ_ r=>r=vI (wA qa qb))):=by
 have aw:=wW qa;have ay:=vT qa;have ba:=wO qa;have av:=wW qb;have ax:=vT qb;have az:=wO qb;have bi:-1<=cD (AH qa.num*qb.den) (AH qb.num*qa.den)/\cD (AH qa.num*qb.den) (AH qb.num*qa.den)<=1:=Ua qa qb;refine B0 34 (.agg #[vB (qa.num<0),vna,vda]) (.agg #[vB (qb.num<0),vnb,vdb]) func97 hs ?_;refine A5 ?_;refine zE (wE (cs:=[_,_,_]) I I) I I I ?_;intro v2 r2 ao;obtain⟨b2,rfl,rfl⟩:=ao;refine zE (wE (cs:=[_,_,_]) I I) I I I ?_;intro v3 r3 an;obtain⟨b3,rfl,rfl⟩:=an;refine AR ?_;refine zG 6 _ [] [(0,.q),(2,.q),(1,.c),(3,.c),(4,.q),(5,.q)] zX nX Ac nX (λr hr=>hr) (A5 ?_);refine AB I (sC (AU I) call74 (λw hs=>Pp hs hna hda O) λv9 h1 U am=>?_);have au:=yZ qa;subst am;refine AB I ?_;replace hnb:=hnb.mono U;replace hdb:=hdb.mono U;refine sC (AU I) call74 (λw hs=>Pp hs hnb hdb O) λbg h2 M ai=>?_;have ak:=yZ qb;subst ai;refine EI (λD=>?_) λD=>?_
 ·
  refine DU (λJ=>?_) λJ=>?_
  ·
   refine AX ?_;refine zC I I ?_;rw[OD D,AC J]
  refine Ak ?_;refine zC I I ?_;rw[OD D,A8 J]
 have ae:=Y5 D;refine AN ?_;refine zG 12 _ [] [(0,.q),(1,.q),(2,.q),(5,.q),(6,.q),(7,.q),(3,.c),(4,.c),(8,.c),(9,.c),(10,.c),(11,.q)] zX nX Ac nX (λr hr=>hr) (AZ ?_);refine AB I ?_;replace hnb:=hnb.mono M;replace hdb:=hdb.mono M;refine sC (AU I) call145 (λw hs=>pF hs I hnb hdb) λbf h3 ad ab=>?_;rw[qH] at ab;refine AB I ?_;replace hna:=hna.mono ((U.trans M).trans ad);refine sC (AK I I) call144 (λw hs=>bU hs hna ab O O) λbe h4 ac C=>?_
 try simp only[zF] at C
 have aq:=yV ((AH qa.num)) ((qb.den));refine AB I ?_;replace hna:=hna.mono ac;replace hda:=hda.mono (((U.trans M).trans ad).trans ac);refine sC (AU I) call145 (λw hs=>pF hs I hna hda) λbd h5 aj aa=>?_;rw[qH] at aa;refine AB I ?_;replace hnb:=hnb.mono ((ad.trans ac).trans aj);refine sC (AK I I) call144 (λw hs=>bU hs hnb aa O O) λbc h6 ar Z=>?_
 try simp only[zF] at Z
 have ap:=yV ((AH qb.num)) ((qa.den));refine AB I ?_;replace C:=C.mono (aj.trans ar);refine sC (AK I I) call112 (λw hs=>eH hs C Z) λbb h7 bh ah=>?_;subst ah;refine iY (λH=>?_) λH=>?_
 ·
  refine AN ?_;refine gv (oB I O O) I (AR ?_);refine zC I I ?_;rw[WI ae H];rfl
 refine Ak ?_;refine zC I I ?_;rw[Xz ae H];rfl
theorem bf{qa:Rat}{vna vda:A2}(hna:Us .u32 h0 vna (zB (AH qa.num)))(hda:Us .u32 h0 vda (zB (wH qa.den))){qb:Rat}{vnb vdb:A2}(hnb:Us .u32 h0 vnb (zB (AH qb.num)))(hdb:Us .u32 h0 vdb (zB (wH qb.den)))(hqa:lq qa<=10000000000)(hqb:lq qb<=10000000000):
 Calls prog 258 #[.agg #[vB (qa.num<0),vna,vda],.agg #[vB (qb.num<0),vnb,vdb]] w0 (Bh w0 h0 (λh r=>vJ h r (iX qa qb))):=by
 have ap:=wW qa;have ar:=vT qa;have av:=wO qa;have ao:=wW qb;have aq:=vT qb;have au:=wO qb;refine B0 10 (.agg #[vB (qa.num<0),vna,vda]) (.agg #[vB (qb.num<0),vnb,vdb]) func258 hs ?_;refine A5 ?_;refine zE (wE (cs:=[_,_,_]) I I) I I I ?_;intro v2 r2 ah;obtain⟨b2,rfl,rfl⟩:=ah;refine zE (wE (cs:=[_,_,_]) I I) I I I ?_;intro v3 r3 ae;obtain⟨b3,rfl,rfl⟩:=ae;refine zE (vD (cs:=[vB ((0:Rat).num<0),.slice none 0 0,.slice none 0 0]) yQ I (by simp only[zb];rfl)) I I I ?_;intro v4 r4 ad;obtain⟨b4,rfl,rfl⟩:=ad;refine AZ ?_;refine cL (AK I I) call77 (λw hs=>SE hs hna hda hnb hdb O O) λv7 h1 bb ac=>?_;obtain⟨ax,az,rfl,D,J⟩:=ac;have an:=iD qa qb;refine cL (vs:=[vI (1),vI (2)]) Al call42 (λw hs=>ta hs O O O O) λv8 h2 M ab=>?_;have am:=MF (n:=(1:Int)) (d:=(2:Int)) O O O O;obtain⟨aw,ay,rfl,ai,aj⟩:=ab;replace D:=D.mono M;replace J:=J.mono M;refine cL (AK I I) call98 (λw hs=>b0 hs D J ai aj O O) λv9 h3 ba aa=>?_;obtain⟨U,Z,rfl,C,H⟩:=aa;have ak:=iC (qa+qb) (sQ (1:Int) (2:Int));refine xY (A:=[]) (r':=.var b4 41 [vB (((qa+qb)*(sQ (1:Int) (2:Int))).num<0),U,Z]) (zJ (k:=0) (cs:=[_,_,_]) (vs:=[_,_,_]) I I I (BW I (Aw C (Aw H Bf))) yC (bL I)) I I I (AN ?_);refine yI (λE S=>zS I (wM (cs:=[_,_,_]) Ar underlying41 I yC I) E S) ?_;rw[TZ] at C H ⊢;exact⟨_,_,I,C,H⟩
theorem sy{qa:Rat}{vna vda:A2}(hna:Us .u32 h0 vna (zB (AH qa.num)))(hda:Us .u32 h0 vda (zB (wH qa.den)))(hqa:lq qa<=100000000000):
 Calls prog 108 #[.agg #[vB (qa.num<0),vna,vda]] w0 (Bh w0 h0 (λ_ r=>r=.string (uR (qF qa)))):=by
 have ad:=wW qa;have ae:=vT qa;have ah:=wO qa;refine BI 22 (.agg #[vB (qa.num<0),vna,vda]) func108 hs ?_;refine A5 ?_;refine zE (wE (cs:=[_,_,_]) I I) I I I ?_;intro v1 r1 aa;obtain⟨b1,rfl,rfl⟩:=aa;refine Af ?_;refine cL (AU I) call175 (λw hs=>Qa hs hna O) λv6 h1 U M=>?_
 try simp only[zF] at M
 subst M;have ac:=mA ((AH qa.num));refine iY (λH=>?_) λH=>?_
 ·
  refine A5 ?_;refine gv (jL (pa:=([45]:List Nat)) (pb:=(BZ ((AH qa.num)))) I I DS) I ?_;replace hda:=hda.mono U;refine Fj (λC=>?_) λC=>?_
  ·
   refine AF ?_;refine cL (AU I) call175 (λw hs=>Qa hs hda O) λZ h2 ab D=>?_
   try simp only[zF] at D
   subst D;have J:=mA (((wH qa.den)));refine gv (jL (pa:=([47]:List Nat)) (pb:=(BZ (((wH qa.den))))) I I DS) I (gv (jL (pa:=(([45]:List Nat)++(BZ ((AH qa.num))))) (pb:=(([47]:List Nat)++(BZ (((wH qa.den)))))) I I DS) I (vV ?_));refine zC I I ?_;rw[<-UH H C]
  refine Ak ?_;refine zC I I ?_;rw[<-Tj H C]
 replace hda:=hda.mono U;refine EI (λC=>?_) λC=>?_
 ·
  refine AF ?_;refine cL (AU I) call175 (λw hs=>Qa hs hda O) λZ h2 ab D=>?_
  try simp only[zF] at D
  subst D;have J:=mA (((wH qa.den)));refine gv (jL (pa:=([47]:List Nat)) (pb:=(BZ (((wH qa.den))))) I I DS) I (gv (jL (pa:=(BZ ((AH qa.num)))) (pb:=(([47]:List Nat)++(BZ (((wH qa.den)))))) I I DS) I (vV ?_));refine zC I I ?_;rw[<-Yd H C]
 refine Ak ?_;refine zC I I ?_;rw[<-Xw H C]
theorem dq{qa:Rat}{vna vda:A2}(hna:Us .u32 h0 vna (zB (AH qa.num)))(hda:Us .u32 h0 vda (zB (wH qa.den)))(hqa:lq qa<=100000000000):
 Calls prog 177 #[.agg #[vB (qa.num<0),vna,vda]] w0 (Bh w0 h0 (λ_ r=>r=.string (uR (qF qa)))):=by
 have ad:=wW qa;have ae:=vT qa;have ah:=wO qa;refine BI 22 (.agg #[vB (qa.num<0),vna,vda]) func177 hs ?_;refine A5 ?_;refine zE (wE (cs:=[_,_,_]) I I) I I I ?_;intro v1 r1 aa;obtain⟨b1,rfl,rfl⟩:=aa;refine Af ?_;refine cL (AU I) call228 (λw hs=>Q5 hs hna O) λv6 h1 M Z=>?_;subst Z;have ac:=mA ((AH qa.num));refine iY (λH=>?_) λH=>?_
 ·
  refine A5 ?_;refine gv (jL (pa:=([45]:List Nat)) (pb:=(BZ ((AH qa.num)))) I I DS) I ?_;replace hda:=hda.mono M;refine Fj (λC=>?_) λC=>?_
  ·
   refine AF ?_;refine cL (AU I) call228 (λw hs=>Q5 hs hda O) λU h2 ab D=>?_;subst D;have J:=mA (((wH qa.den)));refine gv (jL (pa:=([47]:List Nat)) (pb:=(BZ (((wH qa.den))))) I I DS) I (gv (jL (pa:=(([45]:List Nat)++(BZ ((AH qa.num))))) (pb:=(([47]:List Nat)++(BZ (((wH qa.den)))))) I I DS) I (vV ?_));refine zC I I ?_;rw[<-UH H C]
  refine Ak ?_;refine zC I I ?_;rw[<-Tj H C]
 replace hda:=hda.mono M;refine EI (λC=>?_) λC=>?_
 ·
  refine AF ?_;refine cL (AU I) call228 (λw hs=>Q5 hs hda O) λU h2 ab D=>?_;subst D;have J:=mA (((wH qa.den)));refine gv (jL (pa:=([47]:List Nat)) (pb:=(BZ (((wH qa.den))))) I I DS) I (gv (jL (pa:=(BZ ((AH qa.num)))) (pb:=(([47]:List Nat)++(BZ (((wH qa.den)))))) I I DS) I (vV ?_));refine zC I I ?_;rw[<-Yd H C]
 refine Ak ?_;refine zC I I ?_;rw[<-Xw H C]
theorem rO{k l:Nat}{va:A2}{a:Rat}(ra:(AE k).Is h0 va a){vb:A2}{b:Rat}(rb:(AE l).Is h0 vb b)(H0:k+l<=10000000000):
 Ae 156 #[va,vb] w0 h0 (λh r=>(AE (k+l+1)).Is h r (a+b)):=by
 obtain⟨U,aa,rfl,D,J,ac⟩:=uL ra;obtain⟨M,Z,rfl,C,H,ab⟩:=uL rb;exact(a3 hs D J C H O O).mono (kC λh r x=>oI x (by have:=iD a b;omega))
theorem jM{k l:Nat}{va:A2}{a:Rat}(ra:(AE k).Is h0 va a){vb:A2}{b:Rat}(rb:(AE l).Is h0 vb b)(H0:k+l<=10000000000):
 Ae 83 #[va,vb] w0 h0 (λh r=>(AE (k+l+1)).Is h r (a-b)):=by
 obtain⟨U,aa,rfl,D,J,ac⟩:=uL ra;obtain⟨M,Z,rfl,C,H,ab⟩:=uL rb;exact(jk hs D J C H O O).mono (kC λh r x=>oI x (by have:=Ke a b;omega))
theorem jN{k l:Nat}{va:A2}{a:Rat}(ra:(AE k).Is h0 va a){vb:A2}{b:Rat}(rb:(AE l).Is h0 vb b)(H0:k+l<=10000000000):
 Ae 157 #[va,vb] w0 h0 (λh r=>(AE (k+l)).Is h r (a*b)):=by
 obtain⟨U,aa,rfl,D,J,ac⟩:=uL ra;obtain⟨M,Z,rfl,C,H,ab⟩:=uL rb;exact(UQ hs D J C H O O).mono (kC λh r x=>oI x (by have:=iC a b;omega))
theorem kq{k l:Nat}{va:A2}{a:Rat}(ra:(AE k).Is h0 va a){vb:A2}{b:Rat}(rb:(AE l).Is h0 vb b)(H0:k+l<=10000000000):
 Ae 88 #[va,vb] w0 h0 (λh r=>(AE (k+l+2)).Is h r (iX a b)):=by
 obtain⟨U,aa,rfl,D,J,ac⟩:=uL ra;obtain⟨M,Z,rfl,C,H,ab⟩:=uL rb;exact(ny hs D J C H O O).mono (kC λh r x=>oI x (by have:=UC a b;omega))
theorem j0{k:Nat}{va:A2}{a:Rat}(ra:(AE k).Is h0 va a){vb:A2}{b:Rat}(rb:(AE k).Is h0 vb b)(H0:k<=10000000000):
 Ae 182 #[va,vb] w0 h0 (λh r=>(AE k).Is h r (s6 a b)):=by
 obtain⟨U,aa,rfl,D,J,ac⟩:=uL ra;obtain⟨M,Z,rfl,C,H,ab⟩:=uL rb;exact(hd hs D J C H O O).mono (kC λh r x=>oI x (by have:=h9 a b;omega))
theorem j1{k:Nat}{va:A2}{a:Rat}(ra:(AE k).Is h0 va a){vb:A2}{b:Rat}(rb:(AE k).Is h0 vb b)(H0:k<=10000000000):
 Ae 183 #[va,vb] w0 h0 (λh r=>(AE k).Is h r (s7 a b)):=by
 obtain⟨U,aa,rfl,D,J,ac⟩:=uL ra;obtain⟨M,Z,rfl,C,H,ab⟩:=uL rb;exact(im hs D J C H O O).mono (kC λh r x=>oI x (by have:=dt a b;omega))
theorem sJ{k l:Nat}{va:A2}{a:Rat}(ra:(AE k).Is h0 va a){vb:A2}{b:Rat}(rb:(AE l).Is h0 vb b)(H0:k+l<=10000000000):
 Ae 87 #[va,vb] w0 h0 (λ_ r=>r=vI (wA a b)):=by
 obtain⟨U,aa,rfl,D,J,ac⟩:=uL ra;obtain⟨M,Z,rfl,C,H,ab⟩:=uL rb;exact Q9 hs D J C H O O
theorem kV{k:Nat}{va:A2}{a:Rat}(ra:(AE k).Is h0 va a)(H0:k<=10000000000):
 Ae 85 #[va] w0 h0 (λ_ r=>r=vI (yK a)):=by
 obtain⟨H,J,rfl,C,D,M⟩:=uL ra;exact Ou hs C D O
theorem S6{k l:Nat}{va:A2}{a:Rat}(ra:(AE k).Is h0 va a){vb:A2}{b:Rat}(rb:(AE l).Is h0 vb b)(H0:k+l<=10000000000):
 Ae 235 #[va,vb] w0 h0 (λ_ r=>r=vB (a=b)):=by
 obtain⟨U,aa,rfl,D,J,ac⟩:=uL ra;obtain⟨M,Z,rfl,C,H,ab⟩:=uL rb;exact ig hs D J C H O O
theorem oF{k l:Nat}{va:A2}{a:Rat}(ra:(AE k).Is h0 va a){vb:A2}{b:Rat}(rb:(AE l).Is h0 vb b)(H0:k+l<=10000000000):
 Ae 82 #[va,vb] w0 h0 (λh r=>∃u0,r=.tuple #[u0,vI (if b=0 then 3 else 0)]/\(AE (k+l)).Is h u0 (if b=0 then 0 else a/b)):=by
 obtain⟨U,aa,rfl,D,J,ac⟩:=uL ra;obtain⟨M,Z,rfl,C,H,ab⟩:=uL rb;exact(b6 hs D J C H O O).mono (kC λh r x=>by obtain⟨u,e,y⟩:=x;exact⟨u,e,oI y (by have:=Qx a b;omega)⟩)
theorem eT{k l:Nat}{va:A2}{a:Rat}(ra:(AE k).Is h0 va a){vb:A2}{b:Rat}(rb:(AE l).Is h0 vb b)(H0:k+l<=10000000000):
 Ae 77 #[va,vb] w0 h0 (λh r=>(AE (k+l+1)).Is h r (a+b)):=by
 obtain⟨U,aa,rfl,D,J,ac⟩:=uL ra;obtain⟨M,Z,rfl,C,H,ab⟩:=uL rb;exact(SE hs D J C H O O).mono (kC λh r x=>oI x (by have:=iD a b;omega))
theorem tK{k l:Nat}{va:A2}{a:Rat}(ra:(AE k).Is h0 va a){vb:A2}{b:Rat}(rb:(AE l).Is h0 vb b)(H0:k+l<=10000000000):
 Ae 95 #[va,vb] w0 h0 (λh r=>(AE (k+l+1)).Is h r (a-b)):=by
 obtain⟨U,aa,rfl,D,J,ac⟩:=uL ra;obtain⟨M,Z,rfl,C,H,ab⟩:=uL rb;exact(hj hs D J C H O O).mono (kC λh r x=>oI x (by have:=Ke a b;omega))
theorem jH{k l:Nat}{va:A2}{a:Rat}(ra:(AE k).Is h0 va a){vb:A2}{b:Rat}(rb:(AE l).Is h0 vb b)(H0:k+l<=10000000000):
 Ae 98 #[va,vb] w0 h0 (λh r=>(AE (k+l)).Is h r (a*b)):=by
 obtain⟨U,aa,rfl,D,J,ac⟩:=uL ra;obtain⟨M,Z,rfl,C,H,ab⟩:=uL rb;exact(b0 hs D J C H O O).mono (kC λh r x=>oI x (by have:=iC a b;omega))
theorem V8{k l:Nat}{va:A2}{a:Rat}(ra:(AE k).Is h0 va a){vb:A2}{b:Rat}(rb:(AE l).Is h0 vb b)(H0:k+l<=10000000000):
 Ae 258 #[va,vb] w0 h0 (λh r=>(AE (k+l+2)).Is h r (iX a b)):=by
 obtain⟨U,aa,rfl,D,J,ac⟩:=uL ra;obtain⟨M,Z,rfl,C,H,ab⟩:=uL rb;exact(bf hs D J C H O O).mono (kC λh r x=>oI x (by have:=UC a b;omega))
theorem tL{k l:Nat}{va:A2}{a:Rat}(ra:(AE k).Is h0 va a){vb:A2}{b:Rat}(rb:(AE l).Is h0 vb b)(H0:k+l<=10000000000):
 Ae 97 #[va,vb] w0 h0 (λ_ r=>r=vI (wA a b)):=by
 obtain⟨U,aa,rfl,D,J,ac⟩:=uL ra;obtain⟨M,Z,rfl,C,H,ab⟩:=uL rb;exact vq hs D J C H O O
theorem qA{k:Nat}{va:A2}{a:Rat}(ra:(AE k).Is h0 va a)(H0:k<=10000000000):
 Ae 74 #[va] w0 h0 (λ_ r=>r=vI (yK a)):=by
 obtain⟨H,J,rfl,C,D,M⟩:=uL ra;exact Pp hs C D O
theorem gZ{k l:Nat}{va:A2}{a:Rat}(ra:(AE k).Is h0 va a){vb:A2}{b:Rat}(rb:(AE l).Is h0 vb b)(H0:k+l<=10000000000):
 Ae 56 #[va,vb] w0 h0 (λ_ r=>r=vB (a=b)):=by
 obtain⟨U,aa,rfl,D,J,ac⟩:=uL ra;obtain⟨M,Z,rfl,C,H,ab⟩:=uL rb;exact hF hs D J C H O O
theorem p4{k l:Nat}{va:A2}{a:Rat}(ra:(AE k).Is h0 va a){vb:A2}{b:Rat}(rb:(AE l).Is h0 vb b)(H0:k+l<=10000000000):
 Ae 94 #[va,vb] w0 h0 (λh r=>∃u0,r=.tuple #[u0,vI (if b=0 then 3 else 0)]/\(AE (k+l)).Is h u0 (if b=0 then 0 else a/b)):=by
 obtain⟨U,aa,rfl,D,J,ac⟩:=uL ra;obtain⟨M,Z,rfl,C,H,ab⟩:=uL rb;exact(mi hs D J C H O O).mono (kC λh r x=>by obtain⟨u,e,y⟩:=x;exact⟨u,e,oI y (by have:=Qx a b;omega)⟩)
theorem eS{k:Nat}{va:A2}{a:Rat}(ra:(AE k).Is h0 va a)(H0:k<=10000000000):
 Ae 105 #[va] w0 h0 (λh r=>(AE k).Is h r (-a)):=by
 obtain⟨H,J,rfl,C,D,M⟩:=uL ra;exact(XL hs C D O).mono (kC λh r x=>oI x (by have:=z5 a;omega))
theorem fc{k:Nat}{va:A2}{a:Rat}(ra:(AE k).Is h0 va a)(H0:k<=10000000000):
 Ae 96 #[va] w0 h0 (λh r=>(AE k).Is h r (rJ a)):=by
 obtain⟨H,J,rfl,C,D,M⟩:=uL ra;exact(jo hs C D O).mono (kC λh r x=>oI x (by have:=QM a;omega))
theorem gN{n:Int}(hn1:-9223372036854775808<=n)(hn2:n<9223372036854775808):
 Ae 41 #[vI n] w0 h0 (λh r=>(AE 2).Is h r ((n:Int):Rat)):=by
 exact(hO hs hn1 hn2).mono (kC λh r x=>oI x (by exact mP n hn1 hn2))
theorem bK{n:Int}(hn1:-9223372036854775808<=n)(hn2:n<9223372036854775808):
 Ae 89 #[vI n] w0 h0 (λh r=>(AE 2).Is h r ((n:Int):Rat)):=by
 exact(g4 hs hn1 hn2).mono (kC λh r x=>oI x (by exact mP n hn1 hn2))
theorem i0{n m:Int}(hm:0<m)(hm2:m<4611686018427387904):
 Ae 50 #[vI n,vI m] w0 h0 (λ_ r=>r=vI (JU n m)):=by
 have D:=X8 n hm;refine B0 14 (vI n) (vI m) func50 hs ?_;refine Ak ?_;refine gv (vA I I O) I (iY (λC=>?_) λC=>?_)
 ·
  refine fJ ?_;refine zC I I ?_;rw[JU,AC C]
 refine Ak ?_;refine zC I I ?_;rw[JU,A8 C]
theorem dn{vl:A2}{xs:List Int}(hl:Is h0 vl xs):
 Ae 9 #[vl] w0 h0 (λ_ r=>r=vB ((↑(A1 xs):Int)<=500)):=by
 refine BI 6 vl func9 hs ?_;refine AX ?_;refine gv (To underlying22 I hl) I (AR ?_);refine zC I I ?_
 rfl
theorem dB{vl:A2}{xs:List Int}(hl:Is h0 vl xs):
 Calls prog 11 #[vl] w0 (gV w0 h0 (λ_ r L=>∃b,r=vP b 0/\L=[.var b 80 [vl,vI ↑0]])):=by
 refine BI 6 vl func11 hs ?_;refine AX ?_;refine gv (xQ (ps':=[(0,_)]) (vs:=[vl,vI 0]) underlying80 n7 I (ks underlying80) Al (wV (A:=[]) (B:=[_]) (C:=[_]) (cs:=[_]) (off:=0) (size:=1) I I I I hl.cells qW)) I (zE (wE (cs:=[_,_]) I I) I I I ?_);intro H J D;obtain⟨M,rfl,rfl⟩:=D;refine AF ?_;refine qU I I ?_;exact⟨_,I,I⟩
end
theorem uC{w0 w:AP}{h0 h:A4}{b k:Nat}{vl:A2}{xs:List Int}(hl:Is h vl xs)(hk:k<=A1 xs){n:Int}(hn:0<n)(hn2:n<4611686018427387904){L:List AG}(hs:St w0 h0 (.var b 80 [vl,vI ↑k]::L) h w):
 Calls prog 14 #[vP b 0,vI n] w (Im w0 h0 h L (λg r q'=>∃k':Nat,∃z,q'=.var b 80 [vl,vI ↑k']/\k'<=A1 xs/\(r=vI z/\0<=z/\z<n))):=by
 have U:=hl.lt63;refine jZ (n:=35) (e:=[(0,vP b 0),(1,vI n)]) (vs:=[vP b 0,vI n]) func14 rfl rfl (bL rfl) hs Al (Af ?_);refine zG 10 _ [] (Ah 0 10 []) zX nX Ac nX (λr J=>J) (A7 ?_);refine wK I (λ_ _=>gX I) I (AN ?_);refine wK I (λ_ _=>gX I) I (A5 ?_);refine B3 I (λh' L' hh hR=>To underlying22 I (hl.mono hh)) I (B4 (λH=>?_) λH=>?_)
 ·
  refine Af ?_;refine qU I I ?_;exact⟨_,(EU _),(MLe.refl _),k,0,I,hk,I,A3,hn⟩
 refine AR ?_;refine gv (gX I) I (AN ?_);refine gv (gX I) I (A7 ?_);refine xY (A:=[]) (r':=.var b 80 [vl,vI ((↑k:Int)+(1:Int))]) (zJ (k:=1) (cs:=[_,_]) (vs:=[_]) I I I I kv (bL I)) I I I (AN ?_);refine zG 14 _ [] (Ah 0 12 [(12,.c),(13,.q)]) zX nX Ac nX (λr J=>J) (A7 ?_);refine wK I (λ_ _=>gX I) I (AN ?_);refine wK I (λ_ _=>gX I) I (AN ?_);refine B3 I (λh' L' hh hR=>fa (k) underlying22 sizeOf3 I I (hl.mono hh) O O) I (B3 I (λh' L' hh hR=>ut isAgg3 I (hl.mono hh) O) I (A7 ?_));refine AB I (sC (AK I I) call50 (λw hs=>i0 hs O O) λZ h1 M D=>?_);have C:=ec (A0 (xs) (k) 0) (q:=n) O;subst D;refine AF ?_;refine qU I I ?_;exact⟨_,(EU _),M,k+1,_,I,A3,I,C.1,C.2⟩
section
variable{w0:AP}{h0:A4}(hs:MLe h0 (BE w0))
include hs
theorem rf{qa:Rat}{vna vda:A2}(hna:Us .u32 h0 vna (zB (AH qa.num)))(hda:Us .u32 h0 vda (zB (wH qa.den))):
 Calls prog 236 #[.agg #[vB (qa.num<0),vna,vda]] w0 (Bh w0 h0 (λ_ r=>r=.tuple #[vI (Be qa),vB (Bs qa)])):=by
 refine BI 33 (.agg #[vB (qa.num<0),vna,vda]) func236 hs ?_;refine A5 ?_;refine zE (wE (cs:=[_,_,_]) I I) I I I ?_;intro v1 r1 aa;obtain⟨b1,rfl,rfl⟩:=aa;refine uG ?_;refine gU 6 14 (vB (((0:Int)<(↑(A1 (zB (wH qa.den))):Int))\/((1:Int)<(↑(A1 (zB (AH qa.num))):Int)))) ?_ ?_
 ·
  refine zY ((0:Int)<(↑(A1 (zB (wH qa.den))):Int)) (λU=>?_) (λU=>?_)
  ·
   refine gT U I (AZ ?_);refine Ay ?_;exact AV (vN U)
  refine gF U I (vV ?_);refine Ay ?_;exact AV (vO U)
 refine BB (λC=>?_) λC=>?_
 ·
  refine AX ?_;refine wS I I I ?_;obtain⟨e1,e2⟩:=cf C;rw[e1,yH e2]
 refine EI (λH=>?_) λH=>?_
 ·
  refine AX ?_;refine wS I I I ?_;obtain⟨e1,e2⟩:=bn C H;rw[e1,yU e2]
 obtain⟨Z,ac,J⟩:=ju C H;have ab:=Wh C;refine AZ ?_;refine gv (yB (q:=0) (0) underlying39 sizeOf176 I I hna I O) I (A7 ?_);rw[Z];refine gv (VQ (k:=.u32) underlying176 underlying2 I O) I (iY (λD=>?_) λD=>?_)
 ·
  have M:=D;refine AN ?_;refine gv (oB I O O) I (AX ?_);refine wS I I I ?_;exact X5 O (Iff.trans O J.symm)
 have M:=D;refine uF ?_;refine wS I I I ?_;exact X5 O (Iff.trans O J.symm)
theorem tM{k:Nat}{va:A2}{a:Rat}(ra:(AE k).Is h0 va a):Ae 236 #[va] w0 h0 (λ_ r=>r=.tuple #[vI (Be a),vB (Bs a)]):=by
 obtain⟨H,J,rfl,C,D,M⟩:=uL ra;exact rf hs C D
theorem Y0{n:Int}(hn1:-9223372036854775808<=n)(hn2:n<9223372036854775808):
 Ae 238 #[vI n] w0 h0 (λ_ r=>r=vI (GF n)):=by
 refine BI 9 (vI n) func238 hs ?_;refine fJ ?_;refine Bq (λC=>?_) λC=>?_
 ·
  refine AX ?_;refine zC I I ?_;unfold GF;rw[AC C]
 refine DV (λD=>?_) λD=>?_
 ·
  refine AX ?_;refine zC I I ?_;unfold GF;rw[A8 C,AC D]
 refine Ak ?_;refine zC I I ?_;unfold GF;rw[A8 C,A8 D]
theorem Rf{k:Nat}{vp:A2}{p:Tq}(rp:(AD k).Is h0 vp p){i:Nat}{j:Nat}(H0:i<3)(H1:j<3):
 Ae 255 #[vp,vI ↑i,vI ↑j] w0 h0 (λh r=>r=.tuple #[vI (Be (p.at i)),vI (Be (p.at j)),vB (Bs (p.at i)/\Bs (p.at j))]):=by
 refine Cs 33 vp (vI ↑i) (vI ↑j) func255 hs ?_;refine A5 ?_;refine nB rp λH ai C=>(AX ?_);refine gv ((zM (sz:=3) i underlying43 sizeOf41 I I I O).cv (show _=vP H ((i*3+0)) from AJ (vP H) O)) I (lX (xB zU (Pc.ta pH i O) C) λad Z=>(cL (AU I) call236 (λw hs=>tM hs Z) λac h1 ah U=>?_));obtain rfl:=U;refine vV ?_;refine gv ((zM (sz:=3) j underlying43 sizeOf41 I I I O).cv (show _=vP H ((j*3+0)) from AJ (vP H) O)) I (lX (xB zU (Pc.ta pH j O) C) λab M=>(cL (AU I) call236 (λw hs=>tM hs M) λaa h2 ae J=>?_));obtain rfl:=J;refine uF ?_;refine gU 3 32 (vB ((Bs (p.at i))/\(Bs (p.at j)))) ?_ ?_
 ·
  refine zY (Bs (p.at i)) (λD=>?_) (λD=>?_)
  ·
   refine gT D I (AF ?_);refine Ay ?_;exact AV (xE D)
  refine gF D I (AN ?_);refine Ay ?_;exact AV (xG D)
 refine AZ ?_;refine jC I I I I ?_
 rfl
theorem Xp{k:Nat}{va:A2}{a:Tq}(ra:(AD k).Is h0 va a){vb:A2}{b:Tq}(rb:(AD k).Is h0 vb b){vc:A2}{c:Tq}(rc:(AD k).Is h0 vc c){i:Nat}{j:Nat}(H0:i<3)(H1:j<3)(H2:k<=1000000000):
 Ae 232 #[va,vb,vc,vI ↑i,vI ↑j] w0 h0 (λ_ r=>r=vI (Ai (pr a i j) (pr b i j) (pr c i j))):=by
 refine kA (n:=100) (e:=[(0,va),(1,vb),(2,vc),(3,vI ↑i),(4,vI ↑j)]) (vs:=[va,vb,vc,vI ↑i,vI ↑j]) func232 rfl rfl (bL rfl) hs e5 (A5 ?_);refine nB ra λU di C=>(nB rb λb6 dh aa=>(nB rc λb7 df Z=>(AR ?_)));refine lX (xB zI pH C) λcl bl=>(A5 ?_);refine cL (BM I I I) call255 (λw hs=>Rf (i:=i) (j:=j) hs bl O O) λck h1 dd bk=>?_;obtain rfl:=bk;refine uG ?_;refine lX (xB zI pH aa) λcj bj=>(A5 ?_);refine cL (BM I I I) call255 (λw hs=>Rf (i:=i) (j:=j) hs bj O O) λci h2 dc bi=>?_;obtain rfl:=bi;refine uG ?_;refine lX (xB zI pH Z) λch bh=>(A5 ?_);refine cL (BM I I I) call255 (λw hs=>Rf (i:=i) (j:=j) hs bh O O) λcg h3 db bg=>?_;obtain rfl:=bg;refine tQ ?_
 let eX0:=((Bs (a.at i)/\Bs (a.at j))/\(Bs (b.at i)/\Bs (b.at j)))
 refine gU 3 48 (vB eX0) ?_ ?_
 ·
  refine zY (Bs (a.at i)/\Bs (a.at j)) (λD=>?_) (λD=>?_)
  ·
   refine gT D I (AF ?_);refine Ay ?_;exact AV (xE D)
  refine gF D I (AN ?_);refine Ay ?_;exact AV (xG D)
 refine gU 3 51 (vB (eX0/\(Bs (c.at i)/\Bs (c.at j)))) ?_ ?_
 ·
  refine zY eX0 (λD=>?_) (λD=>?_)
  ·
   refine gT D I (AF ?_);refine Ay ?_;exact AV (xE D)
  refine gF D I (AN ?_);refine Ay ?_;exact AV (xG D)
 refine BB (λH=>?_) λH=>?_
 ·
  obtain⟨⟨⟨aq,ap⟩,ao,an⟩,M,J⟩:=H;have ct:=(rU aq).2;have cq:=(rU ap).2;have cp:=(rU ao).2;have co:=(rU an).2;have cn:=(rU M).2;have cm:=(rU J).2;have kp:=Zf (u:=Be (b.at i)-Be (a.at i)) (v:=Be (c.at j)-Be (a.at j)) O O O O;have kq:=Zf (u:=Be (b.at j)-Be (a.at j)) (v:=Be (c.at i)-Be (a.at i)) O O O O;refine AX ?_;refine gv (gM I I O O) I (AZ ?_);refine gv (gM I I O O) I (A7 ?_);refine cL (AU I) call238 (λw hs=>Y0 hs O O) λau h4 bm bf=>?_;obtain rfl:au=vI (GF ((((Be (b.at i))-(Be (a.at i)))*((Be (c.at j))-(Be (a.at j))))-(((Be (b.at j))-(Be (a.at j)))*((Be (c.at i))-(Be (a.at i)))))):=bf;refine AR ?_;refine zC I I ?_;exact AJ vI (hk (a:=pr a i j) (b:=pr b i j) (c:=pr c i j) ⟨aq,ap⟩ ⟨ao,an⟩ ⟨M,J⟩)
 refine AN ?_;refine zG 16 _ [(15,(20,41,[.bool false,.slice none 0 0,.slice none 0 0]))] (Ah 0 6 (Ah 7 6 [(6,.c),(13,.c),(14,.c),(15,.a),(16,.t)])) zX (uY.cons I I (vG yQ I I) uY.nil) (xU Ac) (vH I I qT) (λr hr=>hr) (A7 ?_);refine wK I (λ_ _=>(zM (sz:=3) i underlying43 sizeOf41 I I I O).cv (show _=vP b6 ((i*3+0)) from AJ (vP b6) O)) I (wX I (xB zU (Pc.ta pH i O) aa) λcf be=>(A7 ?_));refine wK I (λ_ _=>(zM (sz:=3) i underlying43 sizeOf41 I I I O).cv (show _=vP U ((i*3+0)) from AJ (vP U) O)) I (wX I (xB zU (Pc.ta pH i O) C) λce bd=>(A7 ?_));refine wK I (λ_ _=>(zM (sz:=3) j underlying43 sizeOf41 I I I O).cv (show _=vP b7 ((j*3+0)) from AJ (vP b7) O)) I (wX I (xB zU (Pc.ta pH j O) Z) λcc bc=>(A7 ?_));refine wK I (λ_ _=>(zM (sz:=3) j underlying43 sizeOf41 I I I O).cv (show _=vP U ((j*3+0)) from AJ (vP U) O)) I (wX I (xB zU (Pc.ta pH j O) C) λcb bb=>?_);refine AB I (sC (AK I I) call83 (λw hs=>jM hs be bd O) λcd h4 bm ai=>?_);replace ai:=Rp.Is.le ai (AL (2*k+1));refine AB I (sC (AK I I) call83 (λw hs=>jM hs bc.up bb.up O) λca h5 da ah=>?_);replace ah:=Rp.Is.le ah (AL (2*k+1));refine AB I (sC (AK I I) call157 (λw hs=>jN hs ai.up ah O) λbz h6 cz ae=>?_);replace ae:=Rp.Is.le ae (AL (4*k+2));refine CA I I (λdj=>?_);have am:(AE 1).R h6 [.bool false,.slice none 0 0,.slice none 0 0] (0:Rat):=(zR dC);have aj:=(AL (4*k+2)).R am;refine yD (A:=[]) I (uB sizeOf41 pH aj ae) λbp ak=>(AN ?_);refine zG 18 _ [] (Ah 0 7 (Ah 8 6 [(7,.c),(14,.c),(15,.c),(16,.c),(17,.q)])) zX nX (xU Ac) nX (λr hr=>hr) (wX I (xB zU pH ak) λbx ba=>(A7 ?_));refine wK I (λ_ _=>(zM (sz:=3) j underlying43 sizeOf41 I I I O).cv (show _=vP b6 ((j*3+0)) from AJ (vP b6) O)) I (wX I (xB zU (Pc.ta pH j O) aa) λbw az=>(A7 ?_));refine wK I (λ_ _=>(zM (sz:=3) j underlying43 sizeOf41 I I I O).cv (show _=vP U ((j*3+0)) from AJ (vP U) O)) I (wX I (xB zU (Pc.ta pH j O) C) λbv ay=>(A7 ?_));refine wK I (λ_ _=>(zM (sz:=3) i underlying43 sizeOf41 I I I O).cv (show _=vP b7 ((i*3+0)) from AJ (vP b7) O)) I (wX I (xB zU (Pc.ta pH i O) Z) λbt ax=>(A7 ?_));refine wK I (λ_ _=>(zM (sz:=3) i underlying43 sizeOf41 I I I O).cv (show _=vP U ((i*3+0)) from AJ (vP U) O)) I (wX I (xB zU (Pc.ta pH i O) C) λbs aw=>?_);refine AB I (sC (AK I I) call83 (λw hs=>jM hs az ay O) λbu h7 cy ad=>?_);replace ad:=Rp.Is.le ad (AL (2*k+1));refine AB I (sC (AK I I) call83 (λw hs=>jM hs ax.up aw.up O) λbr h8 cw ac=>?_);replace ac:=Rp.Is.le ac (AL (2*k+1));refine AB I (sC (AK I I) call157 (λw hs=>jN hs ad.up ac O) λbq h9 cu ab=>?_);replace ab:=Rp.Is.le ab (AL (4*k+2));refine AB I (sC (AK I I) call87 (λw hs=>sJ hs ba.up ab O) λar de bo av=>?_);obtain rfl:ar=vI (wA (((b.at i)-(a.at i))*((c.at j)-(a.at j))) (((b.at j)-(a.at j))*((c.at i)-(a.at i)))):=av;have bn:=uJ (((b.at i)-(a.at i))*((c.at j)-(a.at j))) (((b.at j)-(a.at j))*((c.at i)-(a.at i)));refine AF ?_;refine zC I I ?_;exact AJ vI (hq (pr a i j) (pr b i j) (pr c i j))
theorem VN{k:Nat}{va:A2}{a:Rat}(ra:(AE k).Is h0 va a){vb:A2}{b:Rat}(rb:(AE k).Is h0 vb b){vx:A2}{x:Rat}(rx:(AE k).Is h0 vx x)(H0:k<=1000000000):
 Ae 254 #[va,vb,vx] w0 h0 (λ_ r=>r=vB (fF a b x)):=by
 refine Cs 29 va vb vx func254 hs ?_;refine A5 ?_;refine nB ra λb3 aq U=>(nB rb λb4 ap M=>(nB rx λb5 ao D=>(AF ?_)));refine zG 8 _ [] [(0,.q),(1,.q),(3,.q),(4,.q),(2,.c),(5,.c),(6,.q),(7,.q)] zX nX Ac nX (λr hr=>hr) (wX I (xB zU pH U) λv9 r9=>(wX I (xB zU pH D) λak ad=>(wX I (xB zU pH D) λaj ab=>(wX I (xB zU pH M) λai aa=>?_))));refine AB I (sC (AK I I) call87 (λw hs=>sJ hs r9 ad O) λJ h1 an ac=>?_);obtain rfl:J=vI (wA a x):=ac;have ah:=uJ a x;refine AB I (sC (AK I I) call87 (λw hs=>sJ hs ab.up aa.up O) λH h2 am Z=>?_);obtain rfl:H=vI (wA x b):=Z;have ae:=uJ x b;refine AX ?_
 let eX0:=(((wA a x)<=(0:Int))/\((wA x b)<=(0:Int)))
 refine gU 4 20 (vB eX0) ?_ ?_
 ·
  refine zY ((wA a x)<=(0:Int)) (λC=>?_) (λC=>?_)
  ·
   refine gT C I (AZ ?_);refine Ay ?_;exact AV (xE C)
  refine gF C I (AF ?_);refine Ay ?_;exact AV (xG C)
 refine gU 8 28 (vB (eX0\/(((0:Int)<=(wA a x))/\((0:Int)<=(wA x b))))) ?_ ?_
 ·
  refine zY eX0 (λC=>?_) (λC=>?_)
  ·
   refine gT C I (AX ?_);refine Ay ?_;exact AV (vN C)
  refine gF C I (AF ?_);refine gU 4 27 (vB (((0:Int)<=(wA a x))/\((0:Int)<=(wA x b)))) ?_ ?_
  ·
   refine zY ((0:Int)<=(wA a x)) (λC=>?_) (λC=>?_)
   ·
    refine A7 ?_;refine gT C I (Af ?_);refine Ay ?_;exact AV (xE C)
   refine A7 ?_;refine gF C I (AR ?_);refine Ay ?_;exact AV (xG C)
  refine A5 ?_;refine Ay ?_;exact AV (vO C)
 refine AF ?_;refine zC I I ?_;exact qQ tf
theorem ri{k:Nat}{va:A2}{a:Tq}(ra:(AD k).Is h0 va a){vb:A2}{b:Tq}(rb:(AD k).Is h0 vb b){vp:A2}{p:Tq}(rp:(AD k).Is h0 vp p){i:Nat}{j:Nat}(H0:i<3)(H1:j<3)(H2:k<=1000000000):
 Ae 231 #[va,vb,vp,vI ↑i,vI ↑j] w0 h0 (λ_ r=>r=vB (BX (pr a i j) (pr b i j) (pr p i j))):=by
 refine kA (n:=42) (e:=[(0,va),(1,vb),(2,vp),(3,vI ↑i),(4,vI ↑j)]) (vs:=[va,vb,vp,vI ↑i,vI ↑j]) func231 rfl rfl (bL rfl) hs e5 (A5 ?_);refine nB ra λb5 bj M=>(nB rb λZ bi J=>(nB rp λU bh H=>(AF ?_)));refine zG 32 _ [] (Ah 0 9 ((9,.c)::Ah 10 10 ((20,.c)::Ah 21 7 [(28,.c),(29,.q),(30,.q),(31,.q)]))) zX nX (xU Ac) nX (λr hr=>hr) (A7 ?_);refine wK I (λ_ _=>(zM (sz:=3) i underlying43 sizeOf41 I I I O).cv (show _=vP b5 ((i*3+0)) from AJ (vP b5) O)) I (wX I (xB zU (Pc.ta pH i O) M) λbd ar=>(A7 ?_));refine wK I (λ_ _=>(zM (sz:=3) i underlying43 sizeOf41 I I I O).cv (show _=vP Z ((i*3+0)) from AJ (vP Z) O)) I (wX I (xB zU (Pc.ta pH i O) J) λbc aq=>(A7 ?_));refine wK I (λ_ _=>(zM (sz:=3) i underlying43 sizeOf41 I I I O).cv (show _=vP U ((i*3+0)) from AJ (vP U) O)) I (wX I (xB zU (Pc.ta pH i O) H) λbb ap=>?_);refine AB I (sC (BM I I I) call254 (λw hs=>VN hs ar aq ap O) λac h1 bg ao=>?_);obtain rfl:ac=vB (fF (a.at i) (b.at i) (p.at i)):=ao;refine A7 ?_;refine qC (fF (a.at i) (b.at i) (p.at i)) (λD=>?_) (λD=>?_)
 ·
  rw[yU D];refine yS I I I (λh' L' hh hR=>xK I) I (yS I I I (λh' L' hh hR=>(zM (sz:=3) j underlying43 sizeOf41 I I I O).cv (show _=vP b5 ((j*3+0)) from AJ (vP b5) O)) I (oX I (xB zU (Pc.ta pH j O) M) λba an=>(yS I I I (λh' L' hh hR=>xK I) I (yS I I I (λh' L' hh hR=>(zM (sz:=3) j underlying43 sizeOf41 I I I O).cv (show _=vP Z ((j*3+0)) from AJ (vP Z) O)) I (oX I (xB zU (Pc.ta pH j O) J) λaz am=>(yS I I I (λh' L' hh hR=>xK I) I (yS I I I (λh' L' hh hR=>(zM (sz:=3) j underlying43 sizeOf41 I I I O).cv (show _=vP U ((j*3+0)) from AJ (vP U) O)) I (oX I (xB zU (Pc.ta pH j O) H) λay ak=>?_))))))));refine AB I (ES I I (sC (BM I I I) call254 (λw hs=>VN hs an am ak O) λab h2 bf aj=>?_));obtain rfl:ab=vB (fF (a.at j) (b.at j) (p.at j)):=aj;refine A5 ?_;refine qC (fF (a.at j) (b.at j) (p.at j)) (λC=>?_) (λC=>?_)
  ·
   rw[yU C];refine oX I (xB zI pH M) λax ai=>(oX I (xB zI pH J) λaw ah=>(oX I (xB zI pH H) λav ae=>(yS I I I (λh' L' hh hR=>xK I) I (yS I I I (λh' L' hh hR=>xK I) I ?_))));refine AB I (ES I I (sC (vs:=[_,_,_,_,_]) e5 call232 (λw hs=>Xp (i:=i) (j:=j) hs ai ah ae O O O) λaa h3 be ad=>?_));obtain rfl:aa=vI (Ai (pr a i j) (pr b i j) (pr p i j)):=ad;have au:=sD (pr a i j) (pr b i j) (pr p i j);refine AZ ?_;refine zC I I ?_
   first|exact qQ (by unfold BX;simp only[pr,<-fT] at *;grind)|exact(yU (by unfold BX;simp only[pr,<-fT] at *;grind)).symm|exact(yH (by unfold BX;simp only[pr,<-fT] at *;grind)).symm
  rw[yH C];refine AR ?_;refine AB I (bD I I I I (AZ ?_));refine zC I I ?_
  first|exact qQ (by unfold BX;simp only[pr,<-fT] at *;grind)|exact(yU (by unfold BX;simp only[pr,<-fT] at *;grind)).symm|exact(yH (by unfold BX;simp only[pr,<-fT] at *;grind)).symm
 rw[yH D];refine Ak ?_;refine AB I (bD I I I I (Af ?_));refine AB I (bD I I I I (AZ ?_));refine zC I I ?_
 first|exact qQ (by unfold BX;simp only[pr,<-fT] at *;grind)|exact(yU (by unfold BX;simp only[pr,<-fT] at *;grind)).symm|exact(yH (by unfold BX;simp only[pr,<-fT] at *;grind)).symm
theorem ly{k:Nat}{vl:A2}{l:(List Tq)}(rl:(Aq k).Is h0 vl l){vp:A2}{p:Tq}(rp:(AD k).Is h0 vp p){i:Nat}{j:Nat}(H0:i<3)(H1:j<3)(H2:k<=100000000)(H3:A1 l<=1000):
 Ae 186 #[vl,vp,vI ↑i,vI ↑j] w0 h0 (λ_ r=>r=vI (aS l (pr p i j) i j)):=by
 refine kA (n:=78) (e:=[(0,vl),(1,vp),(2,vI ↑i),(3,vI ↑j)]) (vs:=[vl,vp,vI ↑i,vI ↑j]) func186 rfl rfl (bL rfl) hs BR (A5 ?_);refine nB rp λb5 bq ab=>(nH ?_);refine An (ι:=Nat×A4) (λ(m,ma)=>(MLe h0 ma/\(m<=A1 l/\∀q,q<m->¬BX (qJ l i j q) (qI l i j q) (pr p i j)),[(0,vl),(2,vI ↑i),(3,vI ↑j),(5,vP b5 0),(9,vB (sE l (pr p i j) i j m)),(16,vl),(17,vI (↑(A1 (l)):Int)),(18,vI ↑m)],[.var b5 43 bq],ma,A1 l-m)) (0,h0) ?_ ?_ (he:=⟨I,I,I,I,AV (yH id).symm,I,I,I,AW⟩)
 · exact⟨AM,A3,λq hq=>by omega⟩
 rintro⟨m,ma⟩ ⟨br,aj,U⟩
 refine yO ?_;refine Ba (λak=>?_) λak=>?_
 ·
  refine Af ?_;refine lX (xI zT m underlying28 zI rl) λcj bl=>(lX (xA zI bl) λci bk=>(nA (ρ:=(AD 1)) (X:=zT) yA (yN (zR dC)) λan bu ai=>(A7 ?_)));have ae:=(AI (k+1)).R ai;refine zP (A:=[]) (uB sizeOf43 pH ae (bk.le (AI (k+1)))) λbs M=>(Ak ?_);refine gv (wI I I O O) I (lX (xI zT ((m+1)%A1 l) underlying28 zI rl (hi:=by exact BQ _ O)) λch bj=>(lX (xA zI bj) λcg bi=>(nA (ρ:=(AD 1)) (X:=zT) yA (yN (zR dC)) λam bt ah=>?_)));have ad:=(AI (k+1)).R ah;refine zP (A:=[]) (uB sizeOf43 pH ad (bi.le (AI (k+1)))) λbp J=>(AR ?_);refine lX (xB zI pH M) λcf bh=>(lX (xB zI pH J) λce bg=>(lX (xB zI pH ab) λcd bf=>(A5 ?_)));refine cL (vs:=[_,_,_,_,_]) e5 call231 (λw hs=>ri (i:=i) (j:=j) hs bh bg (bf.le (AI (k+1))) O O O) λar h1 cn be=>?_;obtain rfl:ar=vB (BX (pr (A0 l m zT) i j) (pr (A0 l ((m+1)%A1 l) zT) i j) (pr p i j)):=be;refine BB (λH=>?_) λH=>?_
  ·
   refine uF ?_;refine zC I I ?_;exact AJ vI (Xa O H)
  refine AN ?_;refine zG 18 _ [] (Ah 0 6 (Ah 8 6 [(6,.c),(7,.q),(14,.c),(15,.q),(16,.q),(17,.q)])) zX nX (xU Ac) nX (λr hr=>hr) (A7 ?_);refine wK I (λ_ _=>(zM (sz:=3) j underlying43 sizeOf41 I I I O).cv (show _=vP an ((j*3+0)) from AJ (vP an) O)) I (wX I (xB zU (Pc.ta pH j O) M) λcc bd=>(A7 ?_));refine wK I (λ_ _=>(zM (sz:=3) j underlying43 sizeOf41 I I I O).cv (show _=vP b5 ((j*3+0)) from AJ (vP b5) O)) I (wX I (xB zU (Pc.ta pH j O) ab) λcb bc=>(A7 ?_));refine wK I (λ_ _=>(zM (sz:=3) j underlying43 sizeOf41 I I I O).cv (show _=vP am ((j*3+0)) from AJ (vP am) O)) I (wX I (xB zU (Pc.ta pH j O) J) λca ba=>(A7 ?_));refine wK I (λ_ _=>(zM (sz:=3) j underlying43 sizeOf41 I I I O).cv (show _=vP b5 ((j*3+0)) from AJ (vP b5) O)) I (wX I (xB zU (Pc.ta pH j O) ab) λbz az=>?_);refine AB I (sC (AK I I) call87 (λw hs=>sJ hs bd bc O) λaq h2 cm bb=>?_);obtain rfl:aq=vI (wA ((A0 l m zT).at j) (p.at j)):=bb;have bo:=uJ ((A0 l m zT).at j) (p.at j);refine A7 ?_;refine AB I (sC (AK I I) call87 (λw hs=>sJ hs ba.up az.up O) λap h3 cl ay=>?_);obtain rfl:ap=vI (wA ((A0 l ((m+1)%A1 l) zT).at j) (p.at j)):=ay;have bn:=uJ ((A0 l ((m+1)%A1 l) zT).at j) (p.at j);refine vV ?_;refine gv (nE underlying4 I I) I (BB (λaa=>?_) λaa=>?_)
  ·
   have ac:(qJ l i j m).2<=(pr p i j).2↔(qI l i j m).2<=(pr p i j).2:=by have h:=aa;rw[kF,kF] at h;exact h
   refine AX ?_;refine yE (A:=[]) (yE (A:=[]) ?_);refine Ad ((m+1),h3) ?_ ?_ (he:=⟨I,I,I,I,AJ (λz=>some (vB z)) (pz ac),I,I,I,AW⟩)
   · exact⟨AM,A3,KQ U H⟩
   omega
  have ac:¬((qJ l i j m).2<=(pr p i j).2↔(qI l i j m).2<=(pr p i j).2):=by have h:=aa;rw[kF,kF] at h;exact h
  refine AF ?_;refine lX (xB zI pH M) λbx ax=>(lX (xB zI pH J) λbw aw=>(lX (xB zI pH ab) λbv av=>(A5 ?_)));refine cL (vs:=[_,_,_,_,_]) e5 call232 (λw hs=>Xp (i:=i) (j:=j) hs ax aw (av.le (AI (k+1))) O O O) λao h4 ck au=>?_;obtain rfl:ao=vI (Ai (pr (A0 l m zT) i j) (pr (A0 l ((m+1)%A1 l) zT) i j) (pr p i j)):=au;have bm:=sD (pr (A0 l m zT) i j) (pr (A0 l ((m+1)%A1 l) zT) i j) (pr p i j);refine AZ ?_;refine gU 4 66 (vB (((wA ((A0 l m zT).at j) (p.at j))<=(0:Int))/\((0:Int)<(Ai (pr (A0 l m zT) i j) (pr (A0 l ((m+1)%A1 l) zT) i j) (pr p i j))))) ?_ ?_
  ·
   refine zY ((wA ((A0 l m zT).at j) (p.at j))<=(0:Int)) (λC=>?_) (λC=>?_)
   ·
    refine gT C I (AZ ?_);refine Ay ?_;exact AV (xE C)
   refine gF C I (AF ?_);refine Ay ?_;exact AV (xG C)
  refine gU 7 73 (vB ((((wA ((A0 l m zT).at j) (p.at j))<=(0:Int))/\((0:Int)<(Ai (pr (A0 l m zT) i j) (pr (A0 l ((m+1)%A1 l) zT) i j) (pr p i j))))\/(((wA ((A0 l ((m+1)%A1 l) zT).at j) (p.at j))<=(0:Int))/\((Ai (pr (A0 l m zT) i j) (pr (A0 l ((m+1)%A1 l) zT) i j) (pr p i j))<(0:Int))))) ?_ ?_
  ·
   refine zY (((wA ((A0 l m zT).at j) (p.at j))<=(0:Int))/\((0:Int)<(Ai (pr (A0 l m zT) i j) (pr (A0 l ((m+1)%A1 l) zT) i j) (pr p i j)))) (λC=>?_) (λC=>?_)
   ·
    refine gT C I (Af ?_);refine Ay ?_;exact AV (vN C)
   refine gF C I (A5 ?_);refine gU 4 72 (vB (((wA ((A0 l ((m+1)%A1 l) zT).at j) (p.at j))<=(0:Int))/\((Ai (pr (A0 l m zT) i j) (pr (A0 l ((m+1)%A1 l) zT) i j) (pr p i j))<(0:Int)))) ?_ ?_
   ·
    refine zY ((wA ((A0 l ((m+1)%A1 l) zT).at j) (p.at j))<=(0:Int)) (λC=>?_) (λC=>?_)
    ·
     refine A7 ?_;refine gT C I (Af ?_);refine Ay ?_;exact AV (xE C)
    refine A7 ?_;refine gF C I (AR ?_);refine Ay ?_;exact AV (xG C)
   refine A5 ?_;refine Ay ?_;exact AV (vO C)
  refine BB (λD=>?_) λD=>?_
  ·
   rw[kF,kF] at D;refine uG ?_;refine yE (A:=[]) (yE (A:=[]) ?_);refine Ad ((m+1),h4) ?_ ?_ (he:=⟨I,I,I,I,AJ (λz=>some (vB z)) (k4 ac D),I,I,I,AW⟩)
   · exact⟨AM,A3,KQ U H⟩
   omega
  rw[kF,kF] at D;refine Af ?_;refine yE (A:=[]) (yE (A:=[]) ?_);refine Ad ((m+1),h4) ?_ ?_ (he:=⟨I,I,I,I,AJ (λz=>some (vB z)) (jg D),I,I,I,AW⟩)
  · exact⟨AM,A3,KQ U H⟩
  omega
 refine EI (λZ=>?_) λZ=>?_
 ·
  refine Af ?_;refine zC I I ?_;exact AJ vI (Z1 O aj U Z)
 refine AX ?_;refine zC I I ?_;exact AJ vI (Vz O aj U Z)
end
end Go.Proofs.YtlpflnindligbaaGreat
namespace Bk
open Go Go.RowKit
theorem Is.up{h h':A4}{v:A2}{xs:List Int}(r:Is h v xs)(hm:MLe h h':=by exact AM):Is h' v xs:=r.mono hm
end Bk
namespace Go.Proofs.YtlpflnindligbaaGreat
open Bk Go Tryz
attribute [local irreducible] GL GC GQ W OpV
section
variable{w0:AP}{h0:A4}(hs:MLe h0 (BE w0))
include hs
theorem VK{k l:Nat}{va:A2}{a:Tq}(ra:(AD k).Is h0 va a){vb:A2}{b:Tq}(rb:(AD l).Is h0 vb b)(H0:k+l<=1000000000):
 Ae 76 #[va,vb] w0 h0 (λh r=>(AD (k+3*l+3)).Is h r (T3.mk (a.x-b.x) (a.y-b.y) (a.z-b.z))):=by
 refine B0 20 va vb func76 hs ?_;refine A5 ?_;refine nB ra λb2 bo av=>(nB rb λb3 bn ak=>(nA (ρ:=(AD (k+3*l+3))) (X:=zT) yA (yN (zR O)) λb4 bm bd=>(Ak ?_)));refine fC (AF ?_);refine gv (OpV.tr dC (yW (q:=3) I I)) I (Af ?_);refine zG 9 _ [] (Ah 0 7 [(7,.c),(8,.q),(9,.t)]) zX nX Ac nX (λr hr=>hr) (AN ?_);refine wX I (xB zU (BL pH) av) λbc au=>(A5 ?_);refine wX I (xB zU (BL pH) ak) λaz ap=>?_;refine AB I (sC (AK I I) call95 (λw hs=>tK hs au ap O) λab h1 bl M=>?_)
 change (AE (k+l+1)).Is h1 ab (a.x-b.x) at M
 refine A7 ?_;have ae:=(AI (k+l+1)).R av;refine yD (A:=[_,_]) I (uB sizeOf41 (BL pH) ae M) λbh J=>(AR ?_);refine gv ((yF (q:=1) I I O O).cv (show _=vI (1) from I)) I (A5 ?_);refine wJ (AF ?_);refine gv (OpV.tr dC (yW (q:=3) I I)) I (Af ?_);refine zG 9 _ [] (Ah 0 7 [(7,.c),(8,.q),(9,.t)]) zX nX Ac nX (λr hr=>hr) (AN ?_);refine wX I (xB zU (BC pH) J) λbb ar=>(A5 ?_);refine wX I (xB zU (BC pH) ak) λay ao=>?_;refine AB I (sC (AK I I) call95 (λw hs=>tK hs ar ao O) λaa h2 bk D=>?_)
 change (AE ((k+l+1)+l+1)).Is h2 aa (a.y-b.y) at D
 replace D:=Rp.Is.le D (AL (k+2*l+2));refine A7 ?_;have ad:=(AI (k+2*l+2)).R J;refine yD (A:=[_,_]) I (uB sizeOf41 (BC pH) ad D) λbg H=>(AR ?_);refine gv ((yF (q:=1) I I O O).cv (show _=vI (2) from I)) I (A5 ?_);refine wJ (AF ?_);refine gv (OpV.tr dC (yW (q:=3) I I)) I (Af ?_);refine zG 9 _ [] (Ah 0 7 [(7,.c),(8,.q),(9,.t)]) zX nX Ac nX (λr hr=>hr) (AN ?_);refine wX I (xB zU (Bi pH) H) λba aq=>(A5 ?_);refine wX I (xB zU (Bi pH) ak) λax an=>?_;refine AB I (sC (AK I I) call95 (λw hs=>tK hs aq an O) λZ h3 bj C=>?_)
 change (AE ((k+2*l+2)+l+1)).Is h3 Z (a.z-b.z) at C
 replace C:=Rp.Is.le C (AL (k+3*l+3));refine A7 ?_;have ac:=(AI (k+3*l+3)).R H;refine yD (A:=[_,_]) I (uB sizeOf41 (Bi pH) ac C) λbf aj=>(AR ?_);refine gv ((yF (q:=1) I I O O).cv (show _=vI (3) from I)) I (A5 ?_);refine wJ (AF ?_);refine gv (OpV.fa dC (yW (q:=3) I I)) I (vV ?_);refine lX (xB zI pH aj) λaw am=>(zP (A:=[]) (uB sizeOf43 pH bd am) λbe ai=>(AN ?_));refine xW (qV (t:=4) zI Ar I ai) ?_;intro bi U ah;refine yI (λE S=>zS I U E S) ?_;exact ah
theorem UN{l k:Nat}{vq:A2}{q:Rat}(rq:(AE l).Is h0 vq q){va:A2}{a:Tq}(ra:(AD k).Is h0 va a)(H0:k+l<=1000000000):
 Ae 40 #[vq,va] w0 h0 (λh r=>(AD (k+3*l+1)).Is h r (T3.mk (q*a.x) (q*a.y) (q*a.z))):=by
 refine B0 18 vq va func40 hs ?_;refine A5 ?_;refine nB rq λb2 bo aq=>(nB ra λb3 bn av=>(nA (ρ:=(AD (k+3*l+1))) (X:=zT) yA (yN (zR O)) λb4 bm bd=>(Ak ?_)));refine fC (AF ?_);refine gv (OpV.tr dC (yW (q:=3) I I)) I (Af ?_);refine zG 7 _ [] (Ah 0 5 [(5,.c),(6,.q),(7,.t)]) zX nX Ac nX (λr hr=>hr) (A7 ?_);refine wX I (xB zU pH aq) λbc au=>(A5 ?_);refine wX I (xB zU (BL pH) av) λbb ar=>?_;refine AB I (sC (AK I I) call98 (λw hs=>jH hs au ar O) λai h1 bl H=>?_)
 change (AE (l+k)).Is h1 ai (q*a.x) at H
 replace H:=Rp.Is.le H (AL (k+l));refine A7 ?_;have am:=(AI (k+l)).R av;refine yD (A:=[_]) I (uB sizeOf41 (BL pH) am H) λbh M=>(AR ?_);refine gv ((yF (q:=1) I I O O).cv (show _=vI (1) from I)) I (A5 ?_);refine wJ (AF ?_);refine gv (OpV.tr dC (yW (q:=3) I I)) I (Af ?_);refine zG 7 _ [] (Ah 0 5 [(5,.c),(6,.q),(7,.t)]) zX nX Ac nX (λr hr=>hr) (A7 ?_);refine wX I (xB zU pH aq) λba ae=>(A5 ?_);refine wX I (xB zU (BC pH) M) λay ac=>?_;refine AB I (sC (AK I I) call98 (λw hs=>jH hs ae ac O) λZ h2 bk D=>?_)
 change (AE (l+(k+l))).Is h2 Z (q*a.y) at D
 replace D:=Rp.Is.le D (AL (k+2*l));refine A7 ?_;have ak:=(AI (k+2*l)).R M;refine yD (A:=[_]) I (uB sizeOf41 (BC pH) ak D) λbg J=>(AR ?_);refine gv ((yF (q:=1) I I O O).cv (show _=vI (2) from I)) I (A5 ?_);refine wJ (AF ?_);refine gv (OpV.tr dC (yW (q:=3) I I)) I (Af ?_);refine zG 7 _ [] (Ah 0 5 [(5,.c),(6,.q),(7,.t)]) zX nX Ac nX (λr hr=>hr) (A7 ?_);refine wX I (xB zU pH aq) λaz ad=>(A5 ?_);refine wX I (xB zU (Bi pH) J) λax ab=>?_;refine AB I (sC (AK I I) call98 (λw hs=>jH hs ad ab O) λU h3 bj C=>?_)
 change (AE (l+(k+2*l))).Is h3 U (q*a.z) at C
 replace C:=Rp.Is.le C (AL (k+3*l));refine A7 ?_;have aj:=(AI (k+3*l)).R J;refine yD (A:=[_]) I (uB sizeOf41 (Bi pH) aj C) λbf ap=>(AR ?_);refine gv ((yF (q:=1) I I O O).cv (show _=vI (3) from I)) I (A5 ?_);refine wJ (AF ?_);refine gv (OpV.fa dC (yW (q:=3) I I)) I (vV ?_);refine lX (xB zI pH ap) λaw aa=>(zP (A:=[]) (uB sizeOf43 pH bd (aa.le (AI (k+3*l+1)))) λbe ao=>(AN ?_));refine xW (qV (t:=4) zI Ar I ao) ?_;intro bi ah an;refine yI (λE S=>zS I ah E S) ?_;exact an
theorem rB{x:Int}(hx1:-9223372036854775808<=x)(hx2:x<9223372036854775808){y:Int}(hy1:-9223372036854775808<=y)(hy2:y<9223372036854775808){z:Int}(hz1:-9223372036854775808<=z)(hz2:z<9223372036854775808):
 Ae 45 #[vI x,vI y,vI z] w0 h0 (λh r=>(AD 2).Is h r (T3.mk ((x:Int):Rat) ((y:Int):Rat) ((z:Int):Rat))):=by
 refine Cs 14 (vI x) (vI y) (vI z) func45 hs ?_;refine A5 ?_;refine nA (ρ:=(AD 1)) (X:=zT) yA (yN (zR dC)) λb6 am M=>(AR ?_);refine cL (AU I) call41 (λw hs=>gN hs O O) λv8 h1 ak r8=>(A7 ?_);refine cL (AU I) call41 (λw hs=>gN hs O O) λah h2 aj aa=>(A7 ?_);refine cL (AU I) call41 (λw hs=>gN hs O O) λae h3 ai Z=>(lX (xV (ρ:=(AD 2)) (xD (ps':=[(0,_),(1,_),(2,_)]) underlying43 yA I I sizeOf41 e6 I (yN (zR dC)) (zD I (BL (AA _)) r8.up (zD I (BC (AA _)) aa.up (zD I (Bi (AA _)) Z zO))))) λad U=>?_);have D:=(AI 2).R M;refine zP (A:=[]) (uB sizeOf43 pH D U) λab J=>(AN ?_);refine xW (qV (t:=6) zI Ar I J) ?_;intro ac C H;refine yI (λE S=>zS I C E S) ?_;exact H
end
end Go.Proofs.YtlpflnindligbaaGreat
namespace Bk
open Go Go.RowKit
open Classical
abbrev Pl:=Pt×Rat
theorem tH{x:Rat}:yK x=1↔0<x:=by
 have h2:=yZ x;rw[<-Rj];omega
theorem gW{x:Rat}:yK x= -1↔x<0:=by
 have h2:=yZ x;rw[<-kZ];omega
theorem cF{a b:Pt}:a=b↔a.x=b.x/\a.y=b.y/\a.z=b.z:=by cases a;cases b;exact T3.mk.injEq ..▸Iff.rfl
def As(n:Pt):Nat:=if 0<n.z then 0 else if n.z<0 then 1 else if 0<n.y then 2 else if n.y<0 then 0 else if 0<n.x then 1 else if n.x<0 then 2 else 1
def At(n:Pt):Nat:=if 0<n.z then 1 else if n.z<0 then 0 else if 0<n.y then 0 else if n.y<0 then 2 else if 0<n.x then 2 else if n.x<0 then 1 else 2
def Bn(n:Pt):Nat:=if n.z≠0 then 2 else if n.y≠0 then 1 else 0
theorem x8(n:Pt):(0<n.z/\As n=0/\At n=1/\Bn n=2)\/(n.z<0/\As n=1/\At n=0/\Bn n=2)\/(n.z=0/\0<n.y/\As n=2/\At n=0/\Bn n=1)\/(n.z=0/\n.y<0/\As n=0/\At n=2/\Bn n=1)\/
 (n.z=0/\n.y=0/\0<n.x/\As n=1/\At n=2/\Bn n=0)\/(n.z=0/\n.y=0/\n.x<0/\As n=2/\At n=1/\Bn n=0)\/(n.z=0/\n.y=0/\n.x=0/\As n=1/\At n=2/\Bn n=0):=by
 have C:∀a:Rat,0<a\/(a<0/\¬0<a)\/(a=0/\¬0<a/\¬a<0):=λa=>by grind
 unfold As At Bn
 rcases C n.z with h|⟨h,h'⟩|⟨h,h',h''⟩
 · left;simp only[AC h,AC (show n.z≠0 by grind)];exact⟨h,AW,AW,AW⟩
 · right;left;simp only[A8 h',AC h,AC (show n.z≠0 by grind)];exact⟨h,AW,AW,AW⟩
 · simp only[A8 h',A8 h'',A8 (show ¬n.z≠0 by grind)]
   rcases C n.y with k|⟨k,k'⟩|⟨k,k',k''⟩
   · right;right;left;simp only[AC k,AC (show n.y≠0 by grind)];exact⟨h,k,AW,AW,AW⟩
   · right;right;right;left;simp only[A8 k',AC k,AC (show n.y≠0 by grind)];exact⟨h,k,AW,AW,AW⟩
   · simp only[A8 k',A8 k'',A8 (show ¬n.y≠0 by grind)]
     rcases C n.x with l|⟨l,l'⟩|⟨l,l',l''⟩
     · right;right;right;right;left;simp only[AC l];exact⟨h,k,l,AW,AW,AW⟩
     · right;right;right;right;right;left;simp only[A8 l',AC l];exact⟨h,k,l,AW,AW,AW⟩
     · right;right;right;right;right;right;simp only[A8 l',A8 l''];exact⟨h,k,l,AW,AW,AW⟩
theorem x7(n:Pt):As n+At n<=3/\As n<3/\At n<3/\Bn n=3-As n-At n:=by
 rcases x8 n with h|h|h|h|h|h|h<;>omega
theorem bR(n:Pt):As n<3:=(x7 n).2.1
theorem bQ(n:Pt):At n<3:=(x7 n).2.2.1
theorem ML(n:Pt):Bn n<3:=by
 rcases x8 n with h|h|h|h|h|h|h<;>omega
theorem r5(n:Pt):n.at (Bn n)=0↔n=T3.mk (0:Rat) 0 0:=by
 obtain⟨x,y,z⟩:=n;rw[T3.mk.injEq]
 rcases x8 ⟨x,y,z⟩ with h|h|h|h|h|h|h<;>simp only at h<;>obtain⟨h,h1⟩:=h
 all_goals first|rw[h1.2.2]|rw[h1.2.2.2]|rw[h1.2.2.2.2]
 all_goals simp only[T3.at]
 all_goals grind
def jO(pl:Pl)(p:Pt):Pt:=T3.mk (p.at (As pl.1)) (p.at (At pl.1)) (0:Rat)
def Pm(pl:Pl)(q:Pt):Rat:=if pl.1.at (Bn pl.1)=0 then 0 else(pl.2-(pl.1.at (As pl.1)*q.x+pl.1.at (At pl.1)*q.y))/pl.1.at (Bn pl.1)
def bF(pl:Pl)(q:Pt):Pt:=if pl.1.at (Bn pl.1)=0 then T3.mk (0:Rat) 0 0 else(((T3.mk (0:Rat) 0 0).set (As pl.1) q.x).set (At pl.1) q.y).set (Bn pl.1) (Pm pl q)
def wL(a b:Pt):Rat:=a.x*b.x+a.y*b.y+a.z*b.z
def xS(a b:Pt):Pt:=T3.mk (a.y*b.z-a.z*b.y) (a.z*b.x-a.x*b.z) (a.x*b.y-a.y*b.x)
def qX(a b:Pt):Pt:=T3.mk (a.x-b.x) (a.y-b.y) (a.z-b.z)
theorem Tw(a b c:Pt):qN [a,b,c] 0 1 3=(b.x-a.x)*(c.y-a.y)-(b.y-a.y)*(c.x-a.x):=by
 simp[qN,gp,T3.at];grind
theorem WB{ni nj nk d ai aj ak bi bj bk ci cj ck:Rat}(ha:nk*ak=d-(ni*ai+nj*aj))(hb:nk*bk=d-(ni*bi+nj*bj))(hc:nk*ck=d-(ni*ci+nj*cj)):
 nk*(((bj-aj)*(ck-ak)-(bk-ak)*(cj-aj))*ni+((bk-ak)*(ci-ai)-(bi-ai)*(ck-ak))*nj+((bi-ai)*(cj-aj)-(bj-aj)*(ci-ai))*nk)=(ni*ni+nj*nj+nk*nk)*((bi-ai)*(cj-aj)-(bj-aj)*(ci-ai)):=by
 grind
theorem Wx(a:Rat):wA a 0=yK a:=by rw[SG,show a-0=a by grind]
theorem dL{c:Rat}(hc:0<c)(x:Rat):yK (c*x)=yK x:=by
 have h:=cg x 0 c;rw[Nn,Wx,Wx,tH.2 hc,Int.mul_one,Rat.mul_comm] at h;exact h
theorem U2{c e x y:Rat}(hc:0<c)(he:0<e)(h:c*x=e*y):yK x=yK y:=by
 rw[<-dL hc x,<-dL he y,h]
theorem Xq{i j k:Rat}(hk:k≠0):0<i*i+j*j+k*k:=by
 have h1:0<=i*i:=by rcases @Rat.le_total 0 i with h|h;exact Hp h h;have:=Hp (a:=-i) (b:=-i) Bo Bo;grind
 have h2:0<=j*j:=by rcases @Rat.le_total 0 j with h|h;exact Hp h h;have:=Hp (a:=-j) (b:=-j) Bo Bo;grind
 have h3:0<k*k:=by
  rcases @Rat.le_total 0 k with h|h
  · exact GN Bo Bo
  · have:=GN (a:=-k) (b:=-k) Bo Bo;grind
 grind
theorem NW{n d m q:Rat}(h:¬n=0):n*((d-m)/n)=d-m:=by
 rw[Rat.mul_comm,MD h]
theorem Q2{ni nj nk d ai aj ak bi bj bk ci cj ck:Rat}(hk:0<nk)(ha:nk*ak=d-(ni*ai+nj*aj))(hb:nk*bk=d-(ni*bi+nj*bj))(hc:nk*ck=d-(ni*ci+nj*cj)){X:Rat}
    (hX:X=((bj-aj)*(ck-ak)-(bk-ak)*(cj-aj))*ni+((bk-ak)*(ci-ai)-(bi-ai)*(ck-ak))*nj+((bi-ai)*(cj-aj)-(bj-aj)*(ci-ai))*nk):
    yK ((bi-ai)*(cj-aj)-(bj-aj)*(ci-ai))=yK X:=by
 rw[hX];exact(U2 hk (Xq Bo) (WB ha hb hc)).symm
theorem Po{ni nj nk d ai aj ak bi bj bk ci cj ck:Rat}(hk:nk<0)(ha:nk*ak=d-(ni*ai+nj*aj))(hb:nk*bk=d-(ni*bi+nj*bj))(hc:nk*ck=d-(ni*ci+nj*cj)){X:Rat}
    (hX:X= -(((bj-aj)*(ck-ak)-(bk-ak)*(cj-aj))*ni+((bk-ak)*(ci-ai)-(bi-ai)*(ck-ak))*nj+((bi-ai)*(cj-aj)-(bj-aj)*(ci-ai))*nk)):
    yK ((bi-ai)*(cj-aj)-(bj-aj)*(ci-ai))=yK X:=by
 refine(U2 (c:=-nk) Bo (Xq (i:=ni) (j:=nj) (k:=nk) Bo) ?_).symm;rw[hX,<-WB ha hb hc];grind
theorem o3(pl:Pl)(p q r:Pt)(h:¬pl.1.at (Bn pl.1)=0):
 yK (qN [jO pl (bF pl p),jO pl (bF pl q),jO pl (bF pl r)] 0 1 3)=yK (wL (xS (qX (bF pl q) (bF pl p)) (qX (bF pl r) (bF pl p))) pl.1):=by
 rw[Tw];have Z:=NW (d:=pl.2) (m:=pl.1.at (As pl.1)*p.x+pl.1.at (At pl.1)*p.y) (q:=0) h;have U:=NW (d:=pl.2) (m:=pl.1.at (As pl.1)*q.x+pl.1.at (At pl.1)*q.y) (q:=0) h;have M:=NW (d:=pl.2) (m:=pl.1.at (As pl.1)*r.x+pl.1.at (At pl.1)*r.y) (q:=0) h;unfold bF Pm jO;rw[A8 h,A8 h,A8 h,A8 h,A8 h,A8 h];generalize (pl.2-(pl.1.at (As pl.1)*p.x+pl.1.at (At pl.1)*p.y))/pl.1.at (Bn pl.1)=u at *;generalize (pl.2-(pl.1.at (As pl.1)*q.x+pl.1.at (At pl.1)*q.y))/pl.1.at (Bn pl.1)=v at *;generalize (pl.2-(pl.1.at (As pl.1)*r.x+pl.1.at (At pl.1)*r.y))/pl.1.at (Bn pl.1)=w at *;obtain⟨⟨x,y,z⟩,d⟩:=pl;obtain⟨p1,p2,p3⟩:=p;obtain⟨q1,q2,q3⟩:=q;obtain⟨r1,r2,r3⟩:=r
 rcases x8 ⟨x,y,z⟩ with e|e|e|e|e|e|e
 · obtain⟨J,H,D,C⟩:=e
   simp only[H,D,C,T3.at,T3.set,wL,xS,qX] at *;exact Q2 J Z U M Bo
 · obtain⟨J,H,D,C⟩:=e
   simp only[H,D,C,T3.at,T3.set,wL,xS,qX] at *;exact Po J Z U M Bo
 · obtain⟨h1,J,H,D,C⟩:=e
   simp only[H,D,C,T3.at,T3.set,wL,xS,qX] at *;exact Q2 J Z U M Bo
 · obtain⟨h1,J,H,D,C⟩:=e
   simp only[H,D,C,T3.at,T3.set,wL,xS,qX] at *;exact Po J Z U M Bo
 · obtain⟨h1,h2,J,H,D,C⟩:=e
   simp only[H,D,C,T3.at,T3.set,wL,xS,qX] at *;exact Q2 J Z U M Bo
 · obtain⟨h1,h2,J,H,D,C⟩:=e
   simp only[H,D,C,T3.at,T3.set,wL,xS,qX] at *;exact Po J Z U M Bo
 · obtain⟨h1,h2,h3,H,D,C⟩:=e
   rw[C] at h;exact absurd h3 h
theorem fo(n:Pt):(As n=0/\At n=1/\Bn n=2)\/(As n=1/\At n=0/\Bn n=2)\/(As n=2/\At n=0/\Bn n=1)\/(As n=0/\At n=2/\Bn n=1)\/(As n=1/\At n=2/\Bn n=0)\/(As n=2/\At n=1/\Bn n=0):=by
 rcases x8 n with h|h|h|h|h|h|h<;>omega
theorem Pb{s:Pl}{p:Pt}(h:¬s.1.at (Bn s.1)=0)(hs:yK (wL s.1 p-s.2)=0):bF s (jO s p)=p:=by
 rw[qK] at hs;have C:=NW (d:=s.2) (m:=s.1.at (As s.1)*p.at (As s.1)+s.1.at (At s.1)*p.at (At s.1)) (q:=0) h;unfold bF Pm jO;rw[A8 h,A8 h];simp only;generalize (s.2-(s.1.at (As s.1)*p.at (As s.1)+s.1.at (At s.1)*p.at (At s.1)))/s.1.at (Bn s.1)=u at *;obtain⟨⟨x,y,z⟩,d⟩:=s;obtain⟨a,b,c⟩:=p;have hz:∀{n u v:Rat},¬n=0->n*u=n*v->u=v:=λ{n u v} h e=>by
  have h1:n*(u-v)=0:=by grind
  rcases IU.1 h1 with h2|h2
  · exact absurd h2 h
  · grind
 rcases fo ⟨x,y,z⟩ with⟨e1,e2,e3⟩|⟨e1,e2,e3⟩|⟨e1,e2,e3⟩|⟨e1,e2,e3⟩|⟨e1,e2,e3⟩|⟨e1,e2,e3⟩<;>simp only[e1,e2,e3,T3.at,T3.set,wL] at *<;>rw[T3.mk.injEq]<;>simp only[true_and,and_true]<;>exact hz h Bo
end Bk
namespace Bk
open Classical
def i3(x y z:Int):Pt:=T3.mk ((x:Int):Rat) ((y:Int):Rat) ((z:Int):Rat)
end Bk
namespace Go.Proofs.YtlpflnindligbaaGreat
open Bk Go Tryz
attribute [local irreducible] GL GC GQ W OpV
section
variable{w0:AP}{h0:A4}(hs:MLe h0 (BE w0))
include hs
theorem gr{qa:Rat}{vna vda:A2}(hna:Us .u32 h0 vna (zB (AH qa.num)))(hda:Us .u32 h0 vda (zB (wH qa.den)))(hqa:lq qa<=100000000000):
 Calls prog 110 #[.agg #[vB (qa.num<0),vna,vda]] w0 (Bh w0 h0 (λh r=>vJ h r qa)):=by
 have ah:=wW qa;have ai:=vT qa;have aj:=wO qa;refine BI 12 (.agg #[vB (qa.num<0),vna,vda]) func110 hs ?_;refine A5 ?_;refine zE (wE (cs:=[_,_,_]) I I) I I I ?_;intro v1 r1 ac;obtain⟨b1,rfl,rfl⟩:=ac;refine zE (vD (cs:=[vB ((0:Rat).num<0),.slice none 0 0,.slice none 0 0]) yQ I (by simp only[zb];rfl)) I I I ?_;intro v2 r2 ab;obtain⟨b2,rfl,rfl⟩:=ab;refine AN ?_;refine zG 9 _ [] (Ah 0 4 [(5,.q),(6,.q),(4,.c),(7,.c),(8,.c),(9,.t)]) zX nX Ac nX (λr hr=>hr) (AZ ?_);refine AB I ?_;refine eF (vs:=[_]) call176 ⟨I,AW⟩ (λw hs=>lY hs hna O) I ?_;intro v7 h1 L7 Z aa;obtain rfl:=aa;refine AB I ?_;replace hda:=hda.mono Z;refine eF (vs:=[_]) call176 ⟨I,AW⟩ (λw hs=>lY hs hda O) I ?_;intro J h2 ak U M;obtain rfl:=M;refine AB I ?_;replace hna:=hna.mono (Z.trans U);refine OZ (A:=[_]) (by exact hna.lt) (by simp only[BY,Bv,or_false];rintro r (rfl|rfl) _<;>simp) ?_;intro h3 ae D;replace hda:=hda.mono (U.trans ae);refine OZ (A:=[]) (by exact hda.lt) (by simp only[BY,Bv,or_false];rintro r (rfl|rfl) _<;>simp) ?_;intro h4 ad H;replace D:=D.mono ad;refine Oo (λX=>xQ (ps':=[(0,_),(1,_),(2,_)]) (vs:=[vB (qa.num<0),v7,J]) underlying41 yQ I (vW underlying41) e6 (wV (A:=[]) (B:=[_]) (C:=[_,_]) (cs:=[_]) (off:=0) (size:=1) I I I I I (wV (A:=[_]) (B:=[_]) (C:=[_]) (cs:=[_]) (off:=1) (size:=1) I I I I D.cells (wV (A:=[_,_]) (B:=[_]) (C:=[]) (cs:=[_]) (off:=2) (size:=1) I I I I H.cells qW)))) I (tC (A:=[]) (q':=.var b2 41 [vB (qa.num<0),v7,J]) I (zJ (k:=0) (cs:=[_,_,_]) (vs:=[_,_,_]) I I I (BW I (Aw D (Aw H Bf))) yC (bL I)) I (AN ?_));refine yI (λE S=>zS I (wM (cs:=[_,_,_]) Ar underlying41 I yC I) E S) ?_;exact⟨_,_,I,D,H⟩
theorem lJ{k:Nat}{va:A2}{a:Rat}(ra:(AE k).Is h0 va a)(H0:k<=10000000000):
 Ae 110 #[va] w0 h0 (λh r=>(AE k).Is h r a):=by
 obtain⟨H,J,rfl,C,D,M⟩:=uL ra;exact(gr hs C D O).mono (kC λh r x=>oI x O)
theorem j4{k:Nat}{vn:A2}{n:Tq}(rn:(AD k).Is h0 vn n)(H0:k<=1000000000):
 Ae 122 #[vn] w0 h0 (λh r=>r=.tuple #[vI (↑(As n):Int),vI (↑(At n):Int)]):=by
 refine BI 29 vn func122 hs ?_;refine A5 ?_;refine nB rn λb1 av aa=>(uG ?_);refine fC (AF ?_);refine gv (OpV.tr dC (aD (q:=0) I I)) I (vV ?_);refine gv ((yF (q:=1) I I O O).cv (show _=vI (3) from I)) I (gv ((wI (q:=3) I I O O).cv (show _=vI (0) from I)) I (A7 ?_));refine gv ((yF (q:=2) I I O O).cv (show _=vI (4) from I)) I (gv ((wI (q:=3) I I O O).cv (show _=vI (1) from I)) I (AX ?_));refine lX (xB zU (Bi pH) aa) λap ai=>(cL (AU I) call85 (λw hs=>kV hs ai O) λZ h1 au ad=>?_);obtain rfl:Z=vI (yK n.z):=ad;have am:=yZ n.z;refine Bj (λD=>?_) λD=>?_
 ·
  refine rX ?_;refine wS I I I ?_;have J:As n=0:=by unfold As;simp only[tH,gW] at *;grind
  have H:At n=1:=by unfold At;simp only[tH,gW] at *;grind
  rw[J,H];rfl
 refine Ba (λC=>?_) λC=>?_
 ·
  refine rX ?_;refine wS I I I ?_;have J:As n=1:=by unfold As;simp only[tH,gW] at *;grind
  have H:At n=0:=by unfold At;simp only[tH,gW] at *;grind
  rw[J,H];rfl
 refine AZ ?_;refine gv ((jA (q:=1) I I O O).cv (show _=vI (1) from I)) I (A5 ?_);refine wJ (AF ?_);refine gv (OpV.tr dC (aD (q:=0) I I)) I (vV ?_);refine gv ((yF (q:=1) I I O O).cv (show _=vI (2) from I)) I (gv ((wI (q:=3) I I O O).cv (show _=vI (2) from I)) I (A7 ?_));refine gv ((yF (q:=2) I I O O).cv (show _=vI (3) from I)) I (gv ((wI (q:=3) I I O O).cv (show _=vI (0) from I)) I (AX ?_));refine lX (xB zU (BC pH) aa) λao ah=>(cL (AU I) call85 (λw hs=>kV hs ah O) λU h2 ar ac=>?_);obtain rfl:U=vI (yK n.y):=ac;have ak:=yZ n.y;refine Bj (λD=>?_) λD=>?_
 ·
  refine rX ?_;refine wS I I I ?_;have J:As n=2:=by unfold As;simp only[tH,gW] at *;grind
  have H:At n=0:=by unfold At;simp only[tH,gW] at *;grind
  rw[J,H];rfl
 refine Ba (λC=>?_) λC=>?_
 ·
  refine rX ?_;refine wS I I I ?_;have J:As n=0:=by unfold As;simp only[tH,gW] at *;grind
  have H:At n=2:=by unfold At;simp only[tH,gW] at *;grind
  rw[J,H];rfl
 refine AZ ?_;refine gv ((jA (q:=1) I I O O).cv (show _=vI (0) from I)) I (A5 ?_);refine wJ (AF ?_);refine gv (OpV.tr dC (aD (q:=0) I I)) I (vV ?_);refine gv ((yF (q:=1) I I O O).cv (show _=vI (1) from I)) I (gv ((wI (q:=3) I I O O).cv (show _=vI (1) from I)) I (A7 ?_));refine gv ((yF (q:=2) I I O O).cv (show _=vI (2) from I)) I (gv ((wI (q:=3) I I O O).cv (show _=vI (2) from I)) I (AX ?_));refine lX (xB zU (BL pH) aa) λan ae=>(cL (AU I) call85 (λw hs=>kV hs ae O) λM h3 aq ab=>?_);obtain rfl:M=vI (yK n.x):=ab;have aj:=yZ n.x;refine Bj (λD=>?_) λD=>?_
 ·
  refine rX ?_;refine wS I I I ?_;have J:As n=1:=by unfold As;simp only[tH,gW] at *;grind
  have H:At n=2:=by unfold At;simp only[tH,gW] at *;grind
  rw[J,H];rfl
 refine Ba (λC=>?_) λC=>?_
 ·
  refine rX ?_;refine wS I I I ?_;have J:As n=2:=by unfold As;simp only[tH,gW] at *;grind
  have H:At n=1:=by unfold At;simp only[tH,gW] at *;grind
  rw[J,H];rfl
 refine AZ ?_;refine gv ((jA (q:=1) I I O O).cv (show _=vI (-1) from I)) I (A5 ?_);refine wJ (AF ?_);refine gv (OpV.fa dC (aD (q:=0) I I)) I (rX ?_);refine wS I I I ?_;have J:As n=1:=by unfold As;simp only[tH,gW] at *;grind
 have H:At n=2:=by unfold At;simp only[tH,gW] at *;grind
 rw[J,H];rfl
theorem ug{m l k:Nat}{vs:A2}{s:Pq}(rs:(Aj m l).Is h0 vs s){vq:A2}{q:Tq}(rq:(AD k).Is h0 vq q)(H0:k<=1000000000)(H1:l<=1000000000)(H2:m<=1000000000):
 Ae 184 #[vs,vq] w0 h0 (λh r=>∃u0,r=.tuple #[u0,vB (¬s.1.at (Bn s.1)=0)]/\(AD (4*k+l+4*m+9)).Is h u0 (bF s q)):=by
 have dh:=x7 s.1;refine B0 67 vs vq func184 hs ?_;refine A5 ?_;refine nB rs λb2 dk H=>(nB rq λb3 dj M=>(nA (ρ:=(AD (4*k+l+4*m+9))) (X:=zT) yA (yN (zR O)) λb4 di ar=>(AZ ?_)));refine lX (xB zI (AT pH) H) λcw bn=>(cL (AU I) call122 (λw hs=>j4 hs bn O) λcu h1 df bm=>?_);obtain rfl:=bm;refine vV ?_;refine gv (jA (p:=3) I I O O) I (AZ ?_)
 let eX0:List A2:=[.bool false,.slice none 0 0,.slice none 0 0]
 refine zG 19 _ [(18,(9,41,eX0))] (Ah 0 8 (Ah 9 6 [(8,.c),(15,.c),(16,.c),(17,.c),(18,.a),(19,.t)])) zX (uY.cons I I (vG yQ I I) uY.nil) (xU Ac) (vH I I qT) (λr hr=>hr) (A7 ?_);refine wX I (xB zU (AQ pH) H) λct bl=>(A5 ?_);refine wK I (λ_ _=>(zM (sz:=3) (As s.1) underlying43 sizeOf41 I I B5 (by exact bR _)).cv (show _=vP b2 (((As s.1)*3+0)) from AJ (vP b2) O)) I (wX I (xB zU (AT (Pc.ta pH (As s.1) (by exact bR _))) H) λcq bk=>(A7 ?_));refine wX I (xB zU (BL pH) M) λcp bj=>(A5 ?_);refine wK I (λ_ _=>(zM (sz:=3) (At s.1) underlying43 sizeOf41 I I B5 (by exact bQ _)).cv (show _=vP b2 (((At s.1)*3+0)) from AJ (vP b2) O)) I (wX I (xB zU (AT (Pc.ta pH (At s.1) (by exact bQ _))) H) λcn bi=>(A7 ?_));refine wX I (xB zU (BC pH) M) λcm bh=>?_;refine AB I (sC (AK I I) call157 (λw hs=>jN hs bk bj O) λco h2 de ak=>?_);replace ak:=Rp.Is.le ak (AL (k+m));refine AB I (sC (AK I I) call157 (λw hs=>jN hs bi.up bh.up O) λcl h3 dd aj=>?_);replace aj:=Rp.Is.le aj (AL (k+m));refine AB I (sC (AK I I) call156 (λw hs=>rO hs ak.up aj O) λck h4 dc ai=>?_);replace ai:=Rp.Is.le ai (AL (2*k+2*m+1));refine AB I (sC (AK I I) call83 (λw hs=>jM hs bl.up ai O) λcj h5 db ah=>?_);replace ah:=Rp.Is.le ah (AL (2*k+l+2*m+2));refine CA I I (λb9=>?_);have aw:(AE (2*k+l+2*m+9)).R h5 eX0 (0:Rat):=(zR O);refine yD (A:=[]) I (uB sizeOf41 pH aw (ah.le (AL (2*k+l+2*m+9)))) λbv aq=>(AN ?_);refine zG 12 _ [(9,(10,41,eX0))] (Ah 0 5 [(5,.c),(6,.q),(7,.q),(8,.q),(9,.a),(10,.c),(11,.q)]) zX (uY.cons I I (vG yQ I I) uY.nil) (xU Ac) (vH I I qT) (λr hr=>hr) (wX I (xB zU pH aq) λci bg=>(A5 ?_));refine wK I (λ_ _=>(zM (sz:=3) (Bn s.1) underlying43 sizeOf41 I I O (by exact ML _)).cv (show _=vP b2 (((Bn s.1)*3+0)) from AJ (vP b2) O)) I (wX I (xB zU (AT (Pc.ta pH (Bn s.1) (by exact ML _))) H) λch bf=>?_);refine AB I (sC (AK I I) call82 (λw hs=>oF hs bg bf O) λcg h6 da be=>?_);obtain⟨Z,rfl,C⟩:=be
 change (AE ((2*k+l+2*m+9)+m)).Is h6 Z (if(s.1.at (Bn s.1))=0 then 0 else(s.2-(((s.1.at (As s.1))*q.x)+((s.1.at (At s.1))*q.y)))/(s.1.at (Bn s.1))) at C
 replace C:=Rp.Is.le C (AL (2*k+l+3*m+9));refine AN ?_;refine CA I I (λdl=>?_);have av:(AE (4*k+l+4*m+9)).R h6 eX0 (0:Rat):=(zR O);refine AB I (kB (A:=[]) (uB sizeOf41 pH av (C.le (AL (4*k+l+4*m+9)))) (yP BU) λbu ap=>(iY (λJ=>?_) λJ=>?_))
 ·
  have hz:s.1.at (Bn s.1)=0:=by have h:=J;grind
  refine A5 ?_;refine lX (xV (ρ:=(AD 1)) (xD (ps':=[]) underlying43 yA I I sizeOf41 trivial I (yN (zR dC)) zO)) λcf bd=>(zP (A:=[_,_]) (uB sizeOf43 pH ar (bd.le (AI (4*k+l+4*m+9)))) λbt ao=>(AR ?_));refine xW (qV (t:=4) zI C6 I ao) ?_;intro bx am an;refine yI (λE S=>qG I am (gA I) E S) ?_;refine⟨_,?_,(Rp.Is.cast an (by exact(AC hz).symm))⟩;rw[yH (λe=>e hz)]
 have hz:¬s.1.at (Bn s.1)=0:=by have h:=J;grind
 refine AF ?_;refine nA (ρ:=(AD (4*k+l+4*m+9))) (X:=zT) yA (yN (zR O)) λD bw au=>(AN ?_);refine qM (A:=[]) 16 [] (Ah 0 5 [(6,.q),(7,.q),(9,.q),(5,.c),(10,.q),(8,.c),(11,.c),(12,.q),(13,.c),(14,.q),(15,.c)]) zX nX (xU Ac) nX (AF ?_);refine wX I (xB zU (BL pH) M) λce bc=>(A7 ?_);refine wX I (xB zU (BC pH) M) λcc ba=>(wX I (xB zU pH ap) λca ay=>?_);refine AB I (sC (AU I) call110 (λw hs=>lJ hs bc O) λcd h7 cz bb=>(wK I (λ_ _=>(zM (sz:=3) (As s.1) underlying43 sizeOf41 I I B5 (by exact bR _)).cv (show _=vP D (((As s.1)*3+0)) from AJ (vP D) O)) I ?_));refine AB I (sC (AU I) call110 (λw hs=>lJ hs ba.up O) λcb h8 cy az=>?_);refine AB I (kB (A:=[]) (uB sizeOf41 (Pc.ta pH (As s.1) (by exact bR _)) au (bb.le (AL (4*k+l+4*m+9)))) (yP BU) λbs ae=>(wK I (λ_ _=>(zM (sz:=3) (At s.1) underlying43 sizeOf41 I I B5 (by exact bQ _)).cv (show _=vP D (((At s.1)*3+0)) from AJ (vP D) O)) I ?_));refine AB I (kB (A:=[]) (uB sizeOf41 (Pc.ta pH (At s.1) (by exact bQ _)) ae (az.le (AL (4*k+l+4*m+9)))) (yP BU) λbq ad=>(wK I (λ_ _=>(zM (sz:=3) (Bn s.1) underlying43 sizeOf41 I I O (by exact ML _)).cv (show _=vP D (((Bn s.1)*3+0)) from AJ (vP D) O)) I ?_));refine AB I (kB (A:=[]) (uB sizeOf41 (Pc.ta pH (Bn s.1) (by exact ML _)) ad ay) (yP BU) λbp ac=>(AF ?_));refine lX (xB zI pH ac) λbz ax=>(zP (A:=[_,_,_]) (uB sizeOf43 pH ar ax) λbo ab=>(AF ?_));refine xW (qV (t:=4) zI DT I ab) ?_;intro br U aa;refine yI (λE S=>qG I U (gA I) E S) ?_;refine⟨_,?_,(Rp.Is.cast aa (by exact(A8 hz).symm))⟩;rw[yU hz]
theorem j3{k l:Nat}{va:A2}{a:Tq}(ra:(AD k).Is h0 va a){vb:A2}{b:Tq}(rb:(AD l).Is h0 vb b)(H0:k+l<=1000000000):
 Ae 34 #[va,vb] w0 h0 (λ_ r=>r=vB (a=b)):=by
 refine B0 24 va vb func34 hs ?_;refine A5 ?_;refine nB ra λb2 ac J=>(nB rb λb3 ab H=>(AZ ?_));refine lX (xB zU (BL pH) J) λv6 r6=>(A7 ?_);refine lX (xB zU (BL pH) H) λv8 r8=>(cL (AK I I) call56 (λw hs=>gZ hs r6 r8 O) λv9 h1 av r9=>?_);obtain rfl:v9=vB (a.x=b.x):=r9;refine uH (ι:=A4) 7 (λM=>MLe h1 M) (λ_=>[(16,vB ((a.x=b.x)/\(a.y=b.y))),(2,vP b2 0),(3,vP b3 0)]) (λ_=>[.var b3 43 ab,.var b2 43 ac]) (λM=>M) ?_ ?_
 ·
  refine zY (a.x=b.x) (λD=>?_) (λD=>?_)
  ·
   refine gT D I (AN ?_);refine lX (xB zU (BC pH) J) λau ao=>(AN ?_);refine lX (xB zU (BC pH) H) λar an=>(A7 ?_);refine cL (AK I I) call56 (λw hs=>gZ hs ao an O) λah h2 U am=>?_;obtain rfl:ah=vB (a.y=b.y):=am;refine A5 ?_;refine zV h2 U ⟨?_,I,I,AW⟩ I I;exact AV (xE D)
  refine gF D I (Af ?_);refine zV h1 (MLe.refl _) ⟨?_,I,I,AW⟩ I I;exact AV (xG D)
 intro C aa;refine fM ?_;refine uH (ι:=A4) 7 (λM=>MLe C M) (λ_=>[(23,vB (((a.x=b.x)/\(a.y=b.y))/\(a.z=b.z)))]) (λ_=>[.var b3 43 ab,.var b2 43 ac]) (λM=>M) ?_ ?_
 ·
  refine zY ((a.x=b.x)/\(a.y=b.y)) (λD=>?_) (λD=>?_)
  ·
   refine gT D I (AN ?_);refine lX (xB zU (Bi pH) J) λaq ak=>(AN ?_);refine lX (xB zU (Bi pH) H) λap aj=>(A7 ?_);refine cL (AK I I) call56 (λw hs=>gZ hs ak aj O) λae h2 U ai=>?_;obtain rfl:ae=vB (a.z=b.z):=ai;refine A5 ?_;refine zV h2 U ⟨?_,AW⟩ I I;exact AV (xE D)
  refine gF D I (Af ?_);refine zV C (MLe.refl _) ⟨?_,AW⟩ I I;exact AV (xG D)
 intro ad Z;refine fM ?_;refine AF ?_;refine zC I I ?_
 first|exact qQ (by rw[cF];grind)|exact(yU (by rw[cF];grind)).symm|exact(yH (by rw[cF];grind)).symm
theorem Q3{k:Nat}{va:A2}{a:Tq}(ra:(AD k).Is h0 va a)(H0:k<=1000000):
 Ae 72 #[va] w0 h0 (λ_ r=>r=vB (a=zT)):=by
 refine BI 6 va func72 hs ?_;refine A5 ?_;refine nB ra λU M C=>(AR ?_);refine lX (xB zI pH C) λv3 r3=>(lX (xV (ρ:=(AD 1)) (xD (ps':=[]) underlying43 yA I I sizeOf41 trivial I (yN (zR dC)) zO)) λv4 r4=>(cL (AK I I) call34 (λw hs=>j3 hs r3 r4 O) λD h1 J H=>?_));obtain rfl:D=vB (a=zT):=H;refine AF ?_;refine zC I I ?_
 rfl
theorem dY{k l:Nat}{va:A2}{a:Tq}(ra:(AD k).Is h0 va a){vb:A2}{b:Tq}(rb:(AD l).Is h0 vb b)(H0:k+l<=1000000000):
 Ae 93 #[va,vb] w0 h0 (λh r=>(AE (3*k+3*l+9)).Is h r (wL a b)):=by
 refine B0 21 va vb func93 hs ?_;refine A5 ?_;refine nB ra λb2 cg au=>(nB rb λb3 cf ar=>(nA (ρ:=(AE (3*k+3*l+9))) (X:=(0:Rat)) yQ (zR O) λb4 ce bq=>(AF ?_)));refine nA (ρ:=(AE 1)) (X:=(0:Rat)) yQ (zR dC) λb5 cd bf=>(Ak ?_);refine fC (AF ?_);refine gv (OpV.tr dC (yW (q:=3) I I)) I (Af ?_);refine zG 9 _ [] (Ah 0 7 [(7,.c),(8,.c),(9,.t)]) zX nX Ac nX (λr hr=>hr) (wX I (xB zU pH bf) λbp be=>(A5 ?_));refine wX I (xB zU (BL pH) au) λbm bb=>(A5 ?_);refine wX I (xB zU (BL pH) ar) λbj ay=>?_;refine AB I (sC (AK I I) call98 (λw hs=>jH hs bb ay O) λaj h1 cc aa=>?_)
 change (AE (k+l)).Is h1 aj (a.x*b.x) at aa
 refine AB I (sC (AK I I) call77 (λw hs=>eT hs be.up aa O) λae h2 cb H=>?_)
 change (AE (1+(k+l)+1)).Is h2 ae ((0:Rat)+(a.x*b.x)) at H
 replace H:=Rp.Is.le H (AL (k+l+2));have an:=(AL (k+l+2)).R bf;refine yD (A:=[]) I (uB sizeOf41 pH an H) λbu M=>(AR ?_);refine gv ((yF (q:=1) I I O O).cv (show _=vI (1) from I)) I (A5 ?_);refine wJ (AF ?_);refine gv (OpV.tr dC (yW (q:=3) I I)) I (Af ?_);refine zG 9 _ [] (Ah 0 7 [(7,.c),(8,.c),(9,.t)]) zX nX Ac nX (λr hr=>hr) (wX I (xB zU pH M) λbo bd=>(A5 ?_));refine wX I (xB zU (BC pH) au) λbl ba=>(A5 ?_);refine wX I (xB zU (BC pH) ar) λbi ax=>?_;refine AB I (sC (AK I I) call98 (λw hs=>jH hs ba ax O) λai h3 ca Z=>?_)
 change (AE (k+l)).Is h3 ai (a.y*b.y) at Z
 refine AB I (sC (AK I I) call77 (λw hs=>eT hs bd.up Z O) λad h4 bz D=>?_)
 change (AE ((k+l+2)+(k+l)+1)).Is h4 ad (((0:Rat)+(a.x*b.x))+(a.y*b.y)) at D
 replace D:=Rp.Is.le D (AL (2*k+2*l+3));have am:=(AL (2*k+2*l+3)).R M;refine yD (A:=[]) I (uB sizeOf41 pH am D) λbt J=>(AR ?_);refine gv ((yF (q:=1) I I O O).cv (show _=vI (2) from I)) I (A5 ?_);refine wJ (AF ?_);refine gv (OpV.tr dC (yW (q:=3) I I)) I (Af ?_);refine zG 9 _ [] (Ah 0 7 [(7,.c),(8,.c),(9,.t)]) zX nX Ac nX (λr hr=>hr) (wX I (xB zU pH J) λbn bc=>(A5 ?_));refine wX I (xB zU (Bi pH) au) λbk az=>(A5 ?_);refine wX I (xB zU (Bi pH) ar) λbh aw=>?_;refine AB I (sC (AK I I) call98 (λw hs=>jH hs az aw O) λah h5 bx U=>?_)
 change (AE (k+l)).Is h5 ah (a.z*b.z) at U
 refine AB I (sC (AK I I) call77 (λw hs=>eT hs bc.up U O) λac h6 bw C=>?_)
 change (AE ((2*k+2*l+3)+(k+l)+1)).Is h6 ac ((((0:Rat)+(a.x*b.x))+(a.y*b.y))+(a.z*b.z)) at C
 replace C:=Rp.Is.le C (AL (3*k+3*l+4));have ak:=(AL (3*k+3*l+4)).R J;refine yD (A:=[]) I (uB sizeOf41 pH ak C) λbs aq=>(AR ?_);refine gv ((yF (q:=1) I I O O).cv (show _=vI (3) from I)) I (A5 ?_);refine wJ (AF ?_);refine gv (OpV.fa dC (yW (q:=3) I I)) I (vV ?_);refine lX (xB zU pH aq) λbg av=>(zP (A:=[_]) (uB sizeOf41 pH bq (av.le (AL (3*k+3*l+9)))) λbr ap=>(AN ?_));refine xW (qV (t:=4) zU Ax I ap) ?_;intro bv ab ao;refine yI (λE S=>zS I ab E S) ?_;exact(Rp.Is.cast ao (by unfold wL;grind))
theorem Y9{k l:Nat}{va:A2}{a:Tq}(ra:(AD k).Is h0 va a){vb:A2}{b:Tq}(rb:(AD l).Is h0 vb b)(H0:k+l<=1000000000):
 Ae 78 #[va,vb] w0 h0 (λh r=>(AD (2*k+2*l+3)).Is h r (xS a b)):=by
 refine B0 37 va vb func78 hs ?_;refine A5 ?_;refine nB ra λb2 cu ab=>(nB rb λb3 ct aa=>(nA (ρ:=(AD (2*k+2*l+3))) (X:=zT) yA (yN (zR O)) λb4 cq ca=>(AF ?_)));refine nA (ρ:=(AD (2*k+2*l+3))) (X:=zT) yA (yN (zR O)) λb5 cp bz=>(Ak ?_);refine fC (AF ?_);refine gv (OpV.tr dC (yW (q:=3) I I)) I (vV ?_);refine gv ((yF (q:=1) I I O O).cv (show _=vI (1) from I)) I (gv ((wI (q:=3) I I O O).cv (show _=vI (1) from I)) I (A7 ?_));refine gv ((yF (q:=2) I I O O).cv (show _=vI (2) from I)) I (gv ((wI (q:=3) I I O O).cv (show _=vI (2) from I)) I (AF ?_));refine zG 17 _ [] (Ah 0 7 (Ah 8 6 [(7,.c),(14,.c),(15,.c),(16,.q),(17,.t)])) zX nX (xU Ac) nX (λr hr=>hr) (AN ?_);refine wX I (xB zU (BC pH) ab) λbx bk=>(A5 ?_);refine wX I (xB zU (Bi pH) aa) λbw bj=>(A5 ?_);refine wX I (xB zU (Bi pH) ab) λbv bi=>(A5 ?_);refine wX I (xB zU (BC pH) aa) λbu bh=>?_;refine AB I (sC (AK I I) call98 (λw hs=>jH hs bk bj O) λbb h1 co ad=>?_)
 change (AE (k+l)).Is h1 bb (a.y*b.z) at ad
 refine AB I (sC (AK I I) call98 (λw hs=>jH hs bi.up bh.up O) λba h2 cn ac=>?_)
 change (AE (k+l)).Is h2 ba (a.z*b.y) at ac
 refine AB I (sC (AK I I) call95 (λw hs=>tK hs ad.up ac O) λaz h3 cm H=>?_)
 change (AE ((k+l)+(k+l)+1)).Is h3 az ((a.y*b.z)-(a.z*b.y)) at H
 replace H:=Rp.Is.le H (AL (2*k+2*l+1));refine A7 ?_;refine yD (A:=[]) I (uB sizeOf41 (BL pH) bz (H.le (AL (2*k+2*l+3)))) λce bg=>(AR ?_);refine gv ((yF (q:=1) I I O O).cv (show _=vI (1) from I)) I (A5 ?_);refine wJ (AF ?_);refine gv (OpV.tr dC (yW (q:=3) I I)) I (vV ?_);refine gv ((yF (q:=1) I I O O).cv (show _=vI (2) from I)) I (gv ((wI (q:=3) I I O O).cv (show _=vI (2) from I)) I (A7 ?_));refine gv ((yF (q:=2) I I O O).cv (show _=vI (3) from I)) I (gv ((wI (q:=3) I I O O).cv (show _=vI (0) from I)) I (AF ?_));refine zG 17 _ [] (Ah 0 7 (Ah 8 6 [(7,.c),(14,.c),(15,.c),(16,.q),(17,.t)])) zX nX (xU Ac) nX (λr hr=>hr) (AN ?_);refine wX I (xB zU (Bi pH) ab) λbt ax=>(A5 ?_);refine wX I (xB zU (BL pH) aa) λbr av=>(A5 ?_);refine wX I (xB zU (BL pH) ab) λbp ar=>(A5 ?_);refine wX I (xB zU (Bi pH) aa) λbn ap=>?_;refine AB I (sC (AK I I) call98 (λw hs=>jH hs ax av O) λam h4 cl Z=>?_)
 change (AE (k+l)).Is h4 am (a.z*b.x) at Z
 refine AB I (sC (AK I I) call98 (λw hs=>jH hs ar.up ap.up O) λaj h5 ck M=>?_)
 change (AE (k+l)).Is h5 aj (a.x*b.z) at M
 refine AB I (sC (AK I I) call95 (λw hs=>tK hs Z.up M O) λah h6 cj D=>?_)
 change (AE ((k+l)+(k+l)+1)).Is h6 ah ((a.z*b.x)-(a.x*b.z)) at D
 replace D:=Rp.Is.le D (AL (2*k+2*l+1));refine A7 ?_;refine yD (A:=[]) I (uB sizeOf41 (BC pH) bg (D.le (AL (2*k+2*l+3)))) λcd bf=>(AR ?_);refine gv ((yF (q:=1) I I O O).cv (show _=vI (2) from I)) I (A5 ?_);refine wJ (AF ?_);refine gv (OpV.tr dC (yW (q:=3) I I)) I (vV ?_);refine gv ((yF (q:=1) I I O O).cv (show _=vI (3) from I)) I (gv ((wI (q:=3) I I O O).cv (show _=vI (0) from I)) I (A7 ?_));refine gv ((yF (q:=2) I I O O).cv (show _=vI (4) from I)) I (gv ((wI (q:=3) I I O O).cv (show _=vI (1) from I)) I (AF ?_));refine zG 17 _ [] (Ah 0 7 (Ah 8 6 [(7,.c),(14,.c),(15,.c),(16,.q),(17,.t)])) zX nX (xU Ac) nX (λr hr=>hr) (AN ?_);refine wX I (xB zU (BL pH) ab) λbs aw=>(A5 ?_);refine wX I (xB zU (BC pH) aa) λbq au=>(A5 ?_);refine wX I (xB zU (BC pH) ab) λbo aq=>(A5 ?_);refine wX I (xB zU (BL pH) aa) λbm ao=>?_;refine AB I (sC (AK I I) call98 (λw hs=>jH hs aw au O) λak h7 ci U=>?_)
 change (AE (k+l)).Is h7 ak (a.x*b.y) at U
 refine AB I (sC (AK I I) call98 (λw hs=>jH hs aq.up ao.up O) λai h8 ch J=>?_)
 change (AE (k+l)).Is h8 ai (a.y*b.x) at J
 refine AB I (sC (AK I I) call95 (λw hs=>tK hs U.up J O) λae h9 cg C=>?_)
 change (AE ((k+l)+(k+l)+1)).Is h9 ae ((a.x*b.y)-(a.y*b.x)) at C
 replace C:=Rp.Is.le C (AL (2*k+2*l+1));refine A7 ?_;refine yD (A:=[]) I (uB sizeOf41 (Bi pH) bf (C.le (AL (2*k+2*l+3)))) λcc be=>(AR ?_);refine gv ((yF (q:=1) I I O O).cv (show _=vI (3) from I)) I (A5 ?_);refine wJ (AF ?_);refine gv (OpV.fa dC (yW (q:=3) I I)) I (vV ?_);refine lX (xB zI pH be) λbl an=>(zP (A:=[_]) (uB sizeOf43 pH ca an) λcb bd=>(AN ?_));refine xW (qV (t:=4) zI Ax I bd) ?_;intro cf ay bc;refine yI (λE S=>zS I ay E S) ?_;exact bc
theorem bi{m l:Nat}{vs:A2}{s:Pq}(rs:(Aj m l).Is h0 vs s)(H0:m<=1000000000):
 Ae 133 #[vs] w0 h0 (λh r=>r=.tuple #[vI (↑(As s.1):Int),vI (↑(At s.1):Int),vI (↑(Bn s.1):Int)]):=by
 refine BI 29 vs func133 hs ?_;refine A5 ?_;refine nB rs λb1 av H=>(nH ?_);refine lX (xB zU (AT (Bi pH)) H) λar ak=>(cL (AU I) call74 (λw hs=>qA hs ak O) λae h1 au aj=>?_);obtain rfl:ae=vI (yK s.1.z):=aj;have an:=yZ s.1.z;refine B4 (λac=>?_) λac=>?_
 ·
  refine uG ?_;refine lX (xB zU (AT (BC pH)) H) λaq ai=>(cL (AU I) call74 (λw hs=>qA hs ai O) λad h2 ap ah=>?_);obtain rfl:ad=vI (yK s.1.y):=ah;have am:=yZ s.1.y;refine B4 (λab=>?_) λab=>?_
  ·
   refine uF ?_;refine lX (xB zU (AT (BL pH)) H) λaa M=>(cL (AU I) call74 (λw hs=>qA hs M O) λD h3 ao J=>?_);obtain rfl:D=vI (yK s.1.x):=J;have U:=yZ s.1.x;refine B4 (λC=>?_) λC=>?_
   ·
    refine L7 ?_;refine jC I I I I ?_;have eI:As s.1=2:=by unfold As;simp only[qK,kZ] at *;grind
    have eJ:At s.1=1:=by unfold At;simp only[qK,kZ] at *;grind
    have Z:Bn s.1=0:=by unfold Bn;simp only[qK,kZ] at *;grind
    rw[eI,eJ,Z];rfl
   refine tQ ?_;refine jC I I I I ?_;have eI:As s.1=1:=by unfold As;simp only[qK,kZ] at *;grind
   have eJ:At s.1=2:=by unfold At;simp only[qK,kZ] at *;grind
   have Z:Bn s.1=0:=by unfold Bn;simp only[qK,kZ] at *;grind
   rw[eI,eJ,Z];rfl
  refine AX ?_;refine lX (xB zU (AT (BC pH)) H) λaa M=>(cL (AU I) call74 (λw hs=>qA hs M O) λD h3 ao J=>?_);obtain rfl:D=vI (yK s.1.y):=J;have U:=yZ s.1.y;refine B4 (λC=>?_) λC=>?_
  ·
   refine L7 ?_;refine jC I I I I ?_;have eI:As s.1=0:=by unfold As;simp only[qK,kZ] at *;grind
   have eJ:At s.1=2:=by unfold At;simp only[qK,kZ] at *;grind
   have Z:Bn s.1=1:=by unfold Bn;simp only[qK,kZ] at *;grind
   rw[eI,eJ,Z];rfl
  refine tQ ?_;refine jC I I I I ?_;have eI:As s.1=2:=by unfold As;simp only[qK,kZ] at *;grind
  have eJ:At s.1=0:=by unfold At;simp only[qK,kZ] at *;grind
  have Z:Bn s.1=1:=by unfold Bn;simp only[qK,kZ] at *;grind
  rw[eI,eJ,Z];rfl
 refine AX ?_;refine lX (xB zU (AT (Bi pH)) H) λaa M=>(cL (AU I) call74 (λw hs=>qA hs M O) λD h2 ap J=>?_);obtain rfl:D=vI (yK s.1.z):=J;have U:=yZ s.1.z;refine B4 (λC=>?_) λC=>?_
 ·
  refine L7 ?_;refine jC I I I I ?_;have eI:As s.1=1:=by unfold As;simp only[qK,kZ] at *;grind
  have eJ:At s.1=0:=by unfold At;simp only[qK,kZ] at *;grind
  have Z:Bn s.1=2:=by unfold Bn;simp only[qK,kZ] at *;grind
  rw[eI,eJ,Z];rfl
 refine tQ ?_;refine jC I I I I ?_;have eI:As s.1=0:=by unfold As;simp only[qK,kZ] at *;grind
 have eJ:At s.1=1:=by unfold At;simp only[qK,kZ] at *;grind
 have Z:Bn s.1=2:=by unfold Bn;simp only[qK,kZ] at *;grind
 rw[eI,eJ,Z];rfl
theorem m2{m l k:Nat}{vs:A2}{s:Pq}(rs:(Aj m l).Is h0 vs s){vp:A2}{p:Tq}(rp:(AD k).Is h0 vp p)(H0:k<=1000000000)(H1:m<=1000000000):
 Ae 67 #[vs,vp] w0 h0 (λh r=>(AD (k+1)).Is h r (jO s p)):=by
 refine B0 21 vs vp func67 hs ?_;refine A5 ?_;refine nB rs λb2 aq Z=>(nB rp λM ap J=>(nA (ρ:=(AD (k+1))) (X:=zT) yA (yN (zR O)) λb4 ao U=>(AF ?_)));refine lX (xB qZ pH Z) λv9 r9=>(cL (AU I) call133 (λw hs=>bi hs r9 O) λam h1 an ad=>?_);obtain rfl:=ad;refine vV ?_;refine zG 7 _ [] (Ah 0 7 [(7,.t)]) zX nX Ac nX (λr hr=>hr) (A7 ?_);refine wK I (λ_ _=>(zM (sz:=3) (As s.1) underlying43 sizeOf41 I I B5 (by exact bR _)).cv (show _=vP M (((As s.1)*3+0)) from AJ (vP M) O)) I (wX I (xB zU (Pc.ta pH (As s.1) (by exact bR _)) J) λak ac=>(A7 ?_));refine wK I (λ_ _=>(zM (sz:=3) (At s.1) underlying43 sizeOf41 I I B5 (by exact bQ _)).cv (show _=vP M (((At s.1)*3+0)) from AJ (vP M) O)) I (wX I (xB zU (Pc.ta pH (At s.1) (by exact bQ _)) J) λaj ab=>(wX I (xV (ρ:=(AD (k+1))) (xD (ps':=[(0,_),(1,_)]) underlying43 yA I I sizeOf41 BR I (yN (zR O)) (zD I (BL (AA _)) (ac.le (AL (k+1))) (zD I (BC (AA _)) (ab.le (AL (k+1))) zO)))) λai aa=>(yD (A:=[]) I (uB sizeOf43 pH U aa) λae H=>(AN ?_))));refine xW (qV (t:=4) zI Ar I H) ?_;intro ah C D;refine yI (λE S=>zS I C E S) ?_;exact D
theorem me{m l k:Nat}{vs:A2}{s:Pq}(rs:(Aj m l).Is h0 vs s){vp:A2}{p:Tq}(rp:(AD k).Is h0 vp p)(H0:k<=1000000)(H1:l<=1000000)(H2:m<=1000000):
 Ae 73 #[vs,vp] w0 h0 (λ_ r=>r=vI (yK (wL s.1 p-s.2))):=by
 refine B0 13 vs vp func73 hs ?_;refine A5 ?_;refine nB rs λb2 aj D=>(nB rp λb3 ai J=>(AF ?_));refine zG 9 _ [] [(0,.q),(1,.q),(2,.q),(4,.q),(5,.q),(3,.c),(6,.c),(7,.c),(8,.q)] zX nX Ac nX (λr hr=>hr) (A7 ?_);refine wX I (xB zI (AT pH) D) λv6 r6=>(wX I (xB zI pH J) λv7 r7=>(A7 ?_));refine wX I (xB zU (AQ pH) D) λac Z=>?_;refine AB I (sC (AK I I) call93 (λw hs=>dY hs r6 r7 O) λv8 h1 ah M=>?_);replace M:=Rp.Is.le M (AL (3*k+3*m+9));refine AB I (sC (AK I I) call95 (λw hs=>tK hs M Z.up O) λab h2 ae C=>?_);replace C:=Rp.Is.le C (AL (3*k+l+3*m+10));refine AB I (sC (AU I) call74 (λw hs=>qA hs C O) λH h3 ad U=>?_);obtain rfl:H=vI (yK ((wL s.1 p)-s.2)):=U;have aa:=yZ ((wL s.1 p)-s.2);refine AF ?_;refine zC I I ?_
 rfl
end
end Go.Proofs.YtlpflnindligbaaGreat
namespace Bk
open Classical
def Ji(x:List Int):Prop:=(3<=A1 x/\A1 x<=64)/\∀i,i<A1 x->(0<=(A0 x i 0)/\(A0 x i 0)<512)/\∀k,k<i->¬(A0 x i 0)=(A0 x k 0)
def CB(L:List (List Int)):Prop:=(1<=A1 L/\A1 L<=16)/\∀l,l<A1 L->Ji ((A0 L l []))
def Gy(F:List (List (List Int))):Prop:=A1 F<=256/\∀f,f<A1 F->CB ((A0 F f []))
abbrev H:=Int×Int×Int×Int×Int
def P3(x:List Int)(f l:Nat):Nat->List H:=qB λi=>((A0 x i 0),(A0 x ((i+1)%A1 x) 0),(f:Int),(l:Int),(i:Int))
def Jc(L:List (List Int))(f:Nat):Nat->List H:=rY λl=>P3 ((A0 L l [])) f l (A1 ((A0 L l [])))
def I7(F:List (List (List Int))):Nat->List H:=rY λf=>Jc ((A0 F f [])) f (A1 ((A0 F f [])))
def Bg(F:List (List (List Int))):List H:=I7 F (A1 F)
abbrev e0:H:=((0:Int),(0:Int),(0:Int),(0:Int),(0:Int))
def P8(e:H)(a b:Int):Prop:=e.1=a/\e.2.1=b
def Ea(E:List H)(a b:Int):Nat->Int
  |0=>0
  |m+1=>if P8 ((A0 E m ((0:Int),(0:Int),(0:Int),(0:Int),(0:Int)))) a b then Ea E a b m+1 else Ea E a b m
theorem Mz(E:List H)(a b:Int):∀m,0<=Ea E a b m/\Ea E a b m<=m
  |0=>by unfold Ea;omega
  |m+1=>by
   have h:=Mz E a b m;unfold Ea
   split<;>omega
theorem cn{E:List H}{a b:Int}{m:Nat}(h:P8 ((A0 E m ((0:Int),(0:Int),(0:Int),(0:Int),(0:Int)))) a b):Ea E a b m+1=Ea E a b (m+1):=(AC h).symm
theorem hn{E:List H}{a b:Int}{m:Nat}(h:¬P8 ((A0 E m ((0:Int),(0:Int),(0:Int),(0:Int),(0:Int)))) a b):Ea E a b m=Ea E a b (m+1):=(A8 h).symm
def JE(E:List H)(a b:Int):Int:=Ea E a b (A1 E)
def UV(E:List H)(i:Nat):Prop:=JE E ((A0 E i ((0:Int),(0:Int),(0:Int),(0:Int),(0:Int)))).2.1 ((A0 E i ((0:Int),(0:Int),(0:Int),(0:Int),(0:Int)))).1<JE E ((A0 E i ((0:Int),(0:Int),(0:Int),(0:Int),(0:Int)))).1 ((A0 E i ((0:Int),(0:Int),(0:Int),(0:Int),(0:Int)))).2.1
def Qf(E:List H):Nat->List H:=bC (UV E) λi=>((30:Int),(-1:Int),((A0 E i ((0:Int),(0:Int),(0:Int),(0:Int),(0:Int)))).2.2.1,((A0 E i ((0:Int),(0:Int),(0:Int),(0:Int),(0:Int)))).2.2.2.1,((A0 E i ((0:Int),(0:Int),(0:Int),(0:Int),(0:Int)))).2.2.2.2)
def JS(F:List (List (List Int))):List H:=if Gy F then Qf (Bg F) (A1 (Bg F)) else[((1:Int),(-1:Int),(-1:Int),(-1:Int),(-1:Int))]
theorem Yl(x:List Int)(f l m:Nat):A1 (P3 x f l m)=m:=xN _ _
theorem P9{L:List (List Int)}(h:∀l,l<A1 L->A1 ((A0 L l []))<=64)(f:Nat):∀m,m<=A1 L->A1 (Jc L f m)<=64*m
  |0,_=>B1 _
  |m+1,hm=>by
   have h1:=P9 h f m A3;have h2:=h m A3
   show List.length (Jc L f m++P3 (A0 L m []) f m (A1 (A0 L m [])))<=_
   rw[BJ,Yl];omega
theorem NY{F:List (List (List Int))}(h:∀f,f<A1 F->A1 ((A0 F f []))<=16/\∀l,l<A1 ((A0 F f []))->A1 ((A0 ((A0 F f [])) l []))<=64):∀m,m<=A1 F->A1 (I7 F m)<=1024*m
  |0,_=>B1 _
  |m+1,hm=>by
   have h1:=NY h m A3;have h2:=h m A3;have h3:=P9 h2.2 m _ (B1 _)
   show List.length (I7 F m++Jc (A0 F m []) m (A1 (A0 F m [])))<=_
   rw[BJ];omega
end Bk
namespace Bk
open Go Go.RowKit
section
variable {P:D}{n:Nat}{w0:AP}{h0:A4}{e:List (Nat×A2)}{L:List AG}{h:A4}{Q:BH->Av->AP->Prop}
variable {ty:Ab}{ps:String}{af:Array Edge}
end
end Bk
namespace Go.Proofs.YtlpflnindligbaaGreat
open Bk Go Tryz
attribute [local irreducible] GL GC GQ W OpV
section
variable{w0:AP}{h0:A4}(hs:MLe h0 (BE w0))
include hs
theorem dX{vL:A2}{L:(List (List Int))}(rL:Cv.Is h0 vL L):
 Ae 193 #[vL] w0 h0 (λ_ r=>r=vB (CB L)):=by
 refine BI 65 vL func193 hs ?_;refine uG ?_;refine gU 5 14 (vB (((↑(A1 (L)):Int)<(1:Int))\/((16:Int)<(↑(A1 (L)):Int)))) ?_ ?_
 ·
  refine zY ((↑(A1 (L)):Int)<(1:Int)) (λC=>?_) (λC=>?_)
  ·
   refine gT C I (AR ?_);refine Ay ?_;exact AV (vN C)
  refine gF C I (AX ?_);refine Ay ?_;exact AV (vO C)
 refine BB (λaj=>?_) λaj=>?_
 ·
  refine Af ?_;refine zC I I ?_;exact(yH (λe=>by have:=e.1;omega)).symm
 refine Ak ?_;refine An (ι:=Nat×A4) (λ(l,Z)=>(MLe h0 Z/\(l<=A1 L/\∀u,u<l->Ji (A0 L u [])),[(0,vL),(3,vI ↑l)],[],Z,A1 L-l)) (0,h0) ?_ ?_
 · exact⟨AM,A3,λu h=>by omega⟩
 rintro⟨l,Z⟩ ⟨bc,bq,aa⟩
 refine yO ?_;refine Bj (λai=>?_) λai=>?_
 ·
  refine AX ?_;refine lX (xI [] l underlying51 fH rL) λbp av=>(lX (xA fH av) λM H=>(Ak ?_));refine gU 5 32 (vB (((↑(A1 ((A0 L l []))):Int)<(3:Int))\/((64:Int)<(↑(A1 ((A0 L l []))):Int)))) ?_ ?_
  ·
   refine zY ((↑(A1 ((A0 L l []))):Int)<(3:Int)) (λC=>?_) (λC=>?_)
   ·
    refine gT C I (AR ?_);refine Ay ?_;exact AV (vN C)
   refine gF C I (AX ?_);refine Ay ?_;exact AV (vO C)
  refine BB (λah=>?_) λah=>?_
  ·
   refine uF ?_;refine zC I I ?_;exact(yH (λe=>by have:=(e.2 l O).1;omega)).symm
  refine AX ?_;refine An (ι:=Nat×A4) (λ(i,J)=>(MLe Z J/\(i<=A1 (A0 L l [])/\∀u,u<i->(0<=A0 (A0 L l []) u 0/\A0 (A0 L l []) u 0<512)/\∀k,k<u->¬A0 (A0 L l []) u 0=A0 (A0 L l []) k 0),[(0,vL),(3,vI ↑l),(4,M),(5,vI ↑i)],[],J,A1 (A0 L l [])-i)) (0,Z) ?_ ?_
  · exact⟨AM,A3,λu h=>by omega⟩
  rintro⟨i,J⟩ ⟨bb,bs,BA⟩
  refine yO ?_;refine Bj (λae=>?_) λae=>?_
  ·
   refine Ak ?_;refine lX (xI (0:Int) i underlying22 B8 H) λbo au=>(lX (xA B8 au) λbn ar=>?_);obtain⟨rfl,bg,az⟩:=jV ar;refine A7 ?_;refine gU 7 50 (vB (((A0 (A0 L l []) i (0:Int))<(0:Int))\/((512:Int)<=(A0 (A0 L l []) i (0:Int))))) ?_ ?_
   ·
    refine zY ((A0 (A0 L l []) i (0:Int))<(0:Int)) (λC=>?_) (λC=>?_)
    ·
     refine gT C I (Af ?_);refine Ay ?_;exact AV (vN C)
    refine gF C I (AR ?_);refine lX (xI (0:Int) i underlying22 B8 H) λbm aq=>(A7 ?_);refine lX (xA B8 aq) λbl ap=>?_;obtain⟨rfl,bf,ay⟩:=jV ap;refine AF ?_;refine Ay ?_;exact AV (vO C)
   refine BB (λad=>?_) λad=>?_
   ·
    refine y7 ?_;refine zC I I ?_;exact(yH (λe=>by have:=((e.2 l O).2 i O).1;omega)).symm
   refine AX ?_;refine An (ι:=Nat×A4) (λ(k,U)=>(MLe J U/\(k<=i/\∀v,v<k->¬A0 (A0 L l []) i 0=A0 (A0 L l []) v 0),[(0,vL),(3,vI ↑l),(4,M),(5,vI ↑i),(6,vI ↑k)],[],U,i-k)) (0,J) ?_ ?_
   · exact⟨AM,A3,λu h=>by omega⟩
   rintro⟨k,U⟩ ⟨ba,br,ab⟩
   refine yO ?_;refine DU (λac=>?_) λac=>?_
   ·
    refine AR ?_;refine zG 9 _ [] (Ah 0 9 []) zX nX Ac nX (λr hr=>hr) (A5 ?_);refine wX I (xI (0:Int) i underlying22 B8 H) λbk ao=>(wX I (xA B8 ao) λbj an=>?_);obtain⟨rfl,be,ax⟩:=jV an;refine A5 ?_;refine wX I (xI (0:Int) k underlying22 B8 H) λbi am=>(wX I (xA B8 am) λbh ak=>?_);obtain⟨rfl,bd,aw⟩:=jV ak;refine B4 (λD=>?_) λD=>?_
    ·
     refine Jl ?_;refine zC I I ?_;exact(yH (λe=>((e.2 l O).2 i O).2 k O D)).symm
    refine AX ?_;refine Ad ((k+1),U) ?_ ?_
    · exact⟨AM,A3,wZ (Q:=λv=>¬A0 (A0 L l []) i 0=A0 (A0 L l []) v 0) ab D⟩
    omega
   refine uG ?_;refine Ad ((i+1),U) ?_ ?_
   · exact⟨AM,A3,wZ (Q:=λu=>(0<=A0 (A0 L l []) u 0/\A0 (A0 L l []) u 0<512)/\∀k,k<u->¬A0 (A0 L l []) u 0=A0 (A0 L l []) k 0) BA ⟨A3,λk hk=>ab k O⟩⟩
   omega
  refine uG ?_;refine Ad ((l+1),J) ?_ ?_
  · exact⟨AM,A3,wZ (Q:=λu=>Ji (A0 L u [])) aa ⟨A3,λu hu=>BA u O⟩⟩
  omega
 refine uG ?_;refine zC I I ?_;exact(yU ⟨A3,λu hu=>aa u O⟩).symm
theorem px{vF:A2}{F:(List (List (List Int)))}(rF:(AS Cv).Is h0 vF F):
 Ae 195 #[vF] w0 h0 (λ_ r=>r=vB (Gy F)):=by
 refine BI 19 vF func195 hs ?_;refine tQ ?_;refine Bq (λaa=>?_) λaa=>?_
 ·
  refine Af ?_;refine zC I I ?_;exact(yH (λe=>by have:=e.1;omega)).symm
 refine Ak ?_;refine An (ι:=Nat×A4) (λ(f,ma)=>(MLe h0 ma/\(f<=A1 F/\∀u,u<f->CB (A0 F u [])),[(0,vF),(3,vI ↑f)],[],ma,A1 F-f)) (0,h0) ?_ ?_
 · exact⟨AM,A3,λu h=>by omega⟩
 rintro⟨f,ma⟩ ⟨ab,ah,D⟩
 refine yO ?_;refine Bj (λH=>?_) λH=>?_
 ·
  refine AX ?_;refine lX (xI [] f underlying157 cM rF) λad Z=>(lX (xA cM Z) λac U=>(cL (AU I) call193 (λw hs=>dX hs U) λJ h1 ae M=>?_));obtain rfl:J=vB (CB (A0 F f [])):=M;refine B4 (λC=>?_) λC=>?_
  ·
   refine uG ?_;refine zC I I ?_;exact(yH (λe=>C (e.2 f O))).symm
  refine AX ?_;refine Ad ((f+1),h1) ?_ ?_
  · exact⟨AM,A3,wZ (Q:=λu=>CB (A0 F u [])) D (Br C)⟩
  omega
 refine uG ?_;refine zC I I ?_;exact(yU ⟨A3,λu hu=>D u O⟩).symm
theorem XI{vF:A2}{F:(List (List (List Int)))}(rF:(AS Cv).Is h0 vF F)(H0:A1 F<=1000)(H1:∀f,f<A1 F->A1 (A0 F f [])<=16/\∀l,l<A1 (A0 F f [])->A1 (A0 (A0 F f []) l [])<=64):
 Ae 196 #[vF] w0 h0 (λh r=>(AS BS).Is h r (Bg F)):=by
 refine BI 56 vF func196 hs ?_;refine nH ?_;refine yX 214 5 ?_;have ai:=RL.nil (ρ:=A6 A9 (A6 A9 (A6 A9 (A6 A9 A9)))) (h:=h0);refine An (ι:=Nat×List (Int×Int×Int×Int×Int)×A2×List A2×A4) (λ(f,D0,J,U,ma)=>(MLe h0 ma/\(RL BS ma U D0/\f<=A1 F/\D0=I7 F f),[(0,vF),(3,J),(4,vI ↑f)],[.gs 214 5 J (A1 D0) U],ma,A1 F-f)) (0,[],(.slice none 0 0),[],h0) ?_ ?_
 · exact⟨AM,ai,A3,I⟩
 rintro⟨f,D0,J,U,ma⟩ ⟨bk,ab,cl,aq⟩
 refine yO ?_;refine Bj (λao=>?_) λao=>?_
 ·
  refine vV ?_;refine An (ι:=Nat×List (Int×Int×Int×Int×Int)×A2×List A2×A4) (λ(l,D1,C,D,mb)=>(MLe ma mb/\(RL BS mb D D1/\l<=A1 (A0 F f [])/\D1=I7 F f++Jc (A0 F f []) f l),[(0,vF),(3,C),(4,vI ↑f),(5,vI ↑l)],[.gs 214 5 C (A1 D1) D],mb,A1 (A0 F f [])-l)) (0,D0,J,U,ma) ?_ ?_
  · exact⟨AM,ab,A3,by rw[aq];exact(Ce _).symm⟩
  rintro⟨l,D1,C,D,mb⟩ ⟨bj,aa,cj,ap⟩
  refine yO ?_;refine AZ ?_;refine lX (xI [] f underlying157 cM rF) λbz be=>(lX (xA cM be) λbx ca=>(Ca (λan=>?_) λan=>?_))
  ·
   refine AX ?_;refine lX (xI [] f underlying157 cM rF) λbw bd=>(lX (xA cM bd) λbv bc=>(A7 ?_));refine lX (xI [] l underlying51 fH bc) λbu bb=>(lX (xA fH bb) λav ae=>(Ak ?_));refine An (ι:=Nat×List (Int×Int×Int×Int×Int)×A2×List A2×A4) (λ(i,D2,H,M,mc)=>(MLe mb mc/\(RL BS mc M D2/\i<=A1 (A0 (A0 F f []) l [])/\D2=I7 F f++Jc (A0 F f []) f l++P3 (A0 (A0 F f []) l []) f l i),[(0,vF),(3,H),(4,vI ↑f),(5,vI ↑l),(6,av),(7,vI ↑i)],[.gs 214 5 H (A1 D2) M],mc,A1 (A0 (A0 F f []) l [])-i)) (0,D1,C,D,mb) ?_ ?_
   · exact⟨AM,aa,A3,by rw[ap];exact(Ce _).symm⟩
   rintro⟨i,D2,H,M,mc⟩ ⟨bi,Z,ck,ah⟩
   refine yO ?_;have ci:=NY H1 f O;have ch:=(H1 f O).1;have cg:=P9 (H1 f O).2 f l O;have cf:=(H1 f O).2 l O;have ce:=Yl (A0 (A0 F f []) l []) f l i;have cd:A1 D2<=1100000:=by rw[ah,BJ,BJ];omega
   refine Bj (λam=>?_) λam=>?_
   ·
    refine AF ?_;refine qM (A:=[]) 20 [] (Ah 0 17 [(17,.c),(18,.c),(19,.q)]) zX nX (xU Ac) nX (AN ?_);refine wX I (xI (0:Int) i underlying22 B8 ae) λbt ba=>(wX I (xA B8 ba) λbs az=>?_);obtain⟨rfl,bm,bh⟩:=jV az;refine AF ?_;refine B3 I (λh' L' hh hR=>jK underlying22 I (ae.up.mono hh)) I (wK I (λ_ _=>wI I I O O) I (wX I (xI (0:Int) ((i+1)%A1 (A0 (A0 F f []) l [])) underlying22 B8 ae (hi:=by exact BQ _ O)) λbr ay=>(wX I (xA B8 ay) λbq ax=>?_)));obtain⟨rfl,bl,bg⟩:=jV ax;refine AN ?_;refine wX I (xV (ρ:=BS) (xL (ps':=[(0,_),(1,_),(2,_),(3,_),(4,_)]) underlying214 Sw I I (ko underlying214) ⟨I,I,I,I,I,I,I,I,I,I,AW⟩ I (zW wT (zW wT (zW wT (zW wT wT)))) (zD I (AT (AA _)) (vC O O) (zD I (AQ (AT (AA _))) (vC O O) (zD I (AQ (AQ (AT (AA _)))) (vC O O) (zD I (AQ (AQ (AQ (AT (AA _))))) (vC O O) (zD I (AQ (AQ (AQ (AQ (AA _))))) (vC O O) zO))))))) λbp aw=>?_;refine AB I (tV (λX=>zL (ρ:=BS) (m:=1) (xs:=[((A0 (A0 (A0 F f []) l []) i (0:Int)),((A0 (A0 (A0 F f []) l []) ((i+1)%A1 (A0 (A0 F f []) l [])) (0:Int)),((↑f:Int),((↑l:Int),(↑i:Int)))))]) (ps':=[(0,_)]) underlying210 Sw I I I (zW wT (zW wT (zW wT (zW wT wT)))) Al (zD I (AO (AA _) Bx 0 dC) aw zO) G3 nP) I ?_)
    rintro bo cc ⟨bn,rfl,ak⟩
    refine AB I (vX (A:=[]) (ρ:=BS) ak dK ?_);intro h1 bf ad;refine kP (A:=[]) (λX=>zN (ρ:=BS) (bytes:=40) underlying210 Sw I I I I nP I I Z.up ad bO bO) I (yP BU) ?_
    rintro au cb ⟨ar,rfl,aj⟩
    refine Ak ?_;refine Ad ((i+1),(D2++[((A0 (A0 (A0 F f []) l []) i (0:Int)),((A0 (A0 (A0 F f []) l []) ((i+1)%A1 (A0 (A0 F f []) l [])) (0:Int)),((↑f:Int),((↑l:Int),(↑i:Int)))))]),au,ar,h1) ?_ ?_
    · exact⟨AM,aj,A3,by rw[ah,Ck];rfl⟩
    omega
   have ei:i=A1 (A0 (A0 F f []) l []):=by omega
   refine uG ?_;refine Ad ((l+1),D2,H,M,mc) ?_ ?_
   · exact⟨AM,Z.up,A3,by rw[ah,ei,Ck];rfl⟩
   omega
  have el:l=A1 (A0 F f []):=by omega
  refine uG ?_;refine Ad ((f+1),D1,C,D,mb) ?_ ?_
  · exact⟨AM,aa,A3,by rw[ap,el];rfl⟩
  omega
 have ef:f=A1 F:=by omega
 refine uF ?_;refine xR (A:=[]) (ρ:=BS) ab ?_;intro h1 bf ac;refine zC I I ?_;exact(Rp.Is.cast ac (by rw[aq,ef];rfl))
theorem UW{vE:A2}{E:(List (Int×(Int×(Int×(Int×Int)))))}(rE:(AS BS).Is h0 vE E){a:Int}(ha1:-9223372036854775808<=a)(ha2:a<9223372036854775808){b:Int}(hb1:-9223372036854775808<=b)(hb2:b<9223372036854775808)(H0:A1 E<=1000000):
 Ae 197 #[vE,vI a,vI b] w0 h0 (λ_ r=>r=vI (JE E a b)):=by
 refine Cs 34 vE (vI a) (vI b) func197 hs ?_;refine nH ?_;refine An (ι:=Nat×A4) (λ(m,D)=>(MLe h0 D/\(m<=A1 E),[(0,vE),(1,vI a),(2,vI b),(7,vI (Ea E a b m)),(8,vI ↑m)],[],D,A1 E-m)) (0,h0) ?_ ?_
 · exact⟨AM,O⟩
 rintro⟨m,D⟩ ⟨ai,H⟩
 refine yO ?_;have av:=H;have au:=Mz E a b m;refine Bj (λM=>?_) λM=>?_
 ·
  refine AX ?_;refine lX (xI Bx m underlying210 GB rE) λar ad=>(lX (xF underlying214 sizeOf3 (AT pH) ad) λaq ac=>(lX (xA B8 ac) λap ab=>?_));obtain⟨rfl,ak,ah⟩:=jV ab;refine A5 ?_;refine gU 9 30 (vB ((((A0 E m Bx).1)=a)/\((((A0 E m Bx).2).1)=b))) ?_ ?_
  ·
   refine zY (((A0 E m Bx).1)=a) (λJ=>?_) (λJ=>?_)
   ·
    refine gT J I (AR ?_);refine lX (xI Bx m underlying210 GB rE) λao aa=>(A7 ?_);refine lX (xF underlying214 sizeOf3 (AQ (AT pH)) aa) λan Z=>(A7 ?_);refine lX (xA B8 Z) λam U=>?_;obtain⟨rfl,aj,ae⟩:=jV U;refine AZ ?_;refine Ay ?_;exact AV (xE J)
   refine gF J I (Ak ?_);refine Ay ?_;exact AV (xG J)
  refine BB (λC=>?_) λC=>?_
  ·
   refine uF ?_;refine Ad ((m+1),D) ?_ ?_ (he:=⟨I,I,I,AJ (λz=>some (vI z)) (cn C),I,AW⟩)
   · exact⟨AM,O⟩
   omega
  refine AX ?_;refine Ad ((m+1),D) ?_ ?_ (he:=⟨I,I,I,AJ (λz=>some (vI z)) (hn C),I,AW⟩)
  · exact⟨AM,O⟩
  omega
 refine uF ?_;refine zC I I ?_;have em:m=A1 E:=by omega
 subst em
 rfl
theorem qg{vF:A2}{F:(List (List (List Int)))}(rF:(AS Cv).Is h0 vF F):
 Ae 138 #[vF] w0 h0 (λh r=>(AS BS).Is h r (JS F)):=by
 refine BI 64 vF func138 hs ?_;refine Ak ?_;refine cL (AU I) call195 (λw hs=>px hs rF) λv7 h1 dy r7=>?_;obtain rfl:v7=vB (Gy F):=r7;refine B4 (λae=>?_) λae=>?_
 ·
  refine A5 ?_;refine lX (xV (ρ:=BS) (xL (ps':=[(0,_),(1,_),(2,_),(3,_),(4,_)]) underlying207 kJ I I (Rt underlying207) ⟨I,I,I,I,I,I,I,I,I,I,AW⟩ I (zW wT (zW wT (zW wT (zW wT wT)))) (zD I (AT (AA _)) (vC dC dC) (zD I (AQ (AT (AA _))) (vC dC dC) (zD I (AQ (AQ (AT (AA _)))) (vC dC dC) (zD I (AQ (AQ (AQ (AT (AA _))))) (vC dC dC) (zD I (AQ (AQ (AQ (AQ (AA _))))) (vC dC dC) zO))))))) λv9 r9=>(zE (zL (ρ:=BS) (m:=1) (xs:=[((1:Int),((-1:Int),((-1:Int),((-1:Int),(-1:Int)))))]) (ps':=[(0,_)]) underlying101 kJ I I I (zW wT (zW wT (zW wT (zW wT wT)))) Al (zD I (AO (AA _) Bx 0 dC) r9 zO) G3 nP) I I I ?_)
  rintro dq du ⟨cn,rfl,ak⟩
  refine AR ?_;refine xR (A:=[]) (ρ:=BS) ak ?_;intro h2 bv ac;refine zC I I ?_;exact(Rp.Is.cast ac (by exact(A8 ae).symm))
 refine vV ?_;have Z:Gy F:=Br ae;have ah:∀f,f<A1 F->A1 (A0 F f [])<=16/\∀l,l<A1 (A0 F f [])->A1 (A0 (A0 F f []) l [])<=64:=λf hf=>⟨(Z.2 f hf).1.2,λl hl=>((Z.2 f hf).2 l hl).1.2⟩;have eb:A1 F<=256:=Z.1;have ea:=NY ah (A1 F) (B1 _);have dz:A1 (Bg F)<=262144:=by show(A1 (I7 F (A1 F)))<=_;omega
 refine cL (AU I) call196 (λw hs=>XI hs rF.up (by first|omega|exact ah) (by first|omega|exact ah)) λar h2 bv H=>(vV ?_);refine yX 207 5 ?_;have ad:=RL.nil (ρ:=A6 A9 (A6 A9 (A6 A9 (A6 A9 A9)))) (h:=h2);refine An (ι:=Nat×List (Int×Int×Int×Int×Int)×A2×List A2×A4) (λ(i,D,C,J,ma)=>(MLe h2 ma/\(RL BS ma J D/\i<=A1 (Bg F)/\D=Qf (Bg F) i),[(3,C),(4,ar),(5,vI ↑i)],[.gs 207 5 C (A1 D) J],ma,A1 (Bg F)-i)) (0,[],(.slice none 0 0),[],h2) ?_ ?_
 · exact⟨AM,ad,A3,I⟩
 rintro⟨i,D,C,J,ma⟩ ⟨ce,M,dv,hD⟩
 refine yO ?_;have ec:A1 D<=i:=by rw[hD];exact cS _ _ i
 refine Bj (λam=>?_) λam=>?_
 ·
  refine AR ?_;refine zG 25 _ [] (Ah 0 11 (Ah 12 11 [(11,.c),(23,.c),(24,.q)])) zX nX (xU Ac) nX (λr hr=>hr) (AN ?_);refine wX I (xI Bx i underlying210 GB H) λdp br=>(wX I (xF underlying214 sizeOf3 (AT pH) br) λdn bq=>(wX I (xA B8 bq) λdm bp=>?_));obtain⟨rfl,cl,cd⟩:=jV bp;refine A5 ?_;refine wX I (xI Bx i underlying210 GB H) λdl bo=>(wX I (xF underlying214 sizeOf3 (AQ (AT pH)) bo) λdk bn=>(wX I (xA B8 bn) λdj bm=>?_));obtain⟨rfl,ck,cc⟩:=jV bm;refine AN ?_;refine wX I (xI Bx i underlying210 GB H) λdi bk=>(wX I (xF underlying214 sizeOf3 (AQ (AT pH)) bk) λdh bj=>(wX I (xA B8 bj) λdf bi=>?_));obtain⟨rfl,cj,cb⟩:=jV bi;refine A5 ?_;refine wX I (xI Bx i underlying210 GB H) λde bh=>(wX I (xF underlying214 sizeOf3 (AT pH) bh) λdd bg=>(wX I (xA B8 bg) λdc bf=>?_));obtain⟨rfl,ci,ca⟩:=jV bf;refine AB I (sC (BM I I I) call197 (λw hs=>UW hs H.up O O O O O) λaq h3 bu bl=>?_);obtain rfl:aq=vI (JE (Bg F) ((A0 (Bg F) i Bx).1) (((A0 (Bg F) i Bx).2).1)):=bl;have bt:=Mz (Bg F) ((A0 (Bg F) i Bx).1) (((A0 (Bg F) i Bx).2).1) (A1 (Bg F));refine AB I (sC (BM I I I) call197 (λw hs=>UW hs H.up O O O O O) λap h4 dx be=>?_);obtain rfl:ap=vI (JE (Bg F) (((A0 (Bg F) i Bx).2).1) ((A0 (Bg F) i Bx).1)):=be;have bs:=Mz (Bg F) (((A0 (Bg F) i Bx).2).1) ((A0 (Bg F) i Bx).1) (A1 (Bg F));refine B4 (λU=>?_) λU=>?_
  ·
   refine qM (A:=[]) 20 [] (Ah 0 17 [(17,.c),(18,.c),(19,.q)]) zX nX (xU Ac) nX (AN ?_);refine wX I (xI Bx i underlying210 GB H) λdb bd=>(wX I (xF underlying214 sizeOf3 (AQ (AQ (AT pH))) bd) λda bc=>(wX I (xA B8 bc) λcz bb=>?_));obtain⟨rfl,ch,bz⟩:=jV bb;refine A5 ?_;refine wX I (xI Bx i underlying210 GB H) λcy ba=>(wX I (xF underlying214 sizeOf3 (AQ (AQ (AQ (AT pH)))) ba) λcw az=>(wX I (xA B8 az) λcv ay=>?_));obtain⟨rfl,cg,bx⟩:=jV ay;refine A5 ?_;refine wX I (xI Bx i underlying210 GB H) λcu ax=>(wX I (xF underlying214 sizeOf3 (AQ (AQ (AQ (AQ pH)))) ax) λct aw=>(wX I (xA B8 aw) λcq av=>?_));obtain⟨rfl,cf,bw⟩:=jV av;refine wX I (xV (ρ:=BS) (xL (ps':=[(0,_),(1,_),(2,_),(3,_),(4,_)]) underlying207 kJ I I (Rt underlying207) ⟨I,I,I,I,I,I,I,I,I,I,AW⟩ I (zW wT (zW wT (zW wT (zW wT wT)))) (zD I (AT (AA _)) (vC dC dC) (zD I (AQ (AT (AA _))) (vC dC dC) (zD I (AQ (AQ (AT (AA _)))) (vC O O) (zD I (AQ (AQ (AQ (AT (AA _))))) (vC O O) (zD I (AQ (AQ (AQ (AQ (AA _))))) (vC O O) zO))))))) λcp au=>?_;refine AB I (tV (λX=>zL (ρ:=BS) (m:=1) (xs:=[((30:Int),((-1:Int),(((((A0 (Bg F) i Bx).2).2).1),((((((A0 (Bg F) i Bx).2).2).2).1),(((((A0 (Bg F) i Bx).2).2).2).2)))))]) (ps':=[(0,_)]) underlying101 kJ I I I (zW wT (zW wT (zW wT (zW wT wT)))) Al (zD I (AO (AA _) Bx 0 dC) au zO) G3 nP) I ?_)
   rintro co dt ⟨cm,rfl,aj⟩
   refine AB I (vX (A:=[]) (ρ:=BS) aj dK ?_);intro h5 dw ab;refine kP (A:=[]) (λX=>zN (ρ:=BS) (bytes:=40) underlying101 kJ I I I I nP I I M.up ab bO bO) I (yP BU) ?_
   rintro ao dr ⟨an,rfl,ai⟩
   refine Ak ?_;refine Ad ((i+1),(D++[((30:Int),((-1:Int),(((((A0 (Bg F) i Bx).2).2).1),((((((A0 (Bg F) i Bx).2).2).2).1),(((((A0 (Bg F) i Bx).2).2).2).2)))))]),ao,an,h5) ?_ ?_
   · exact⟨AM,ai,A3,by rw[hD];exact HO U⟩
   omega
  refine AX ?_;refine Ad ((i+1),D,C,J,h4) ?_ ?_
  · exact⟨AM,M.up,A3,by rw[hD];exact H8 U⟩
  omega
 refine uF ?_;refine xR (A:=[]) (ρ:=BS) M.up ?_;intro h3 bu aa;refine zC I I ?_;exact(Rp.Is.cast aa (by rw[hD,show i=A1 (Bg F) by omega];exact(AC Z).symm))
end
end Go.Proofs.YtlpflnindligbaaGreat
namespace Bk
open Classical
def G0(a b:Pt):Pt:=T3.mk (a.x+b.x) (a.y+b.y) (a.z+b.z)
def vu(l l':List Pt)(v:Pt):Prop:=A1 l'=A1 l/\∀q,q<A1 l->gp l' q=G0 (gp l q) v
def sh(a v:P2):P2:=(a.1+v.1,a.2+v.2)
def Cr(pl:Pl)(p:Pt):Rat:=wL pl.1 p-pl.2
def B7(pl:Pl)(p:Pt):Int:=yK (Cr pl p)
theorem sV(pl:Pl)(p:Pt):-1<=B7 pl p/\B7 pl p<=1:=yZ _
def ka(t:Rat)(a b:Pt):Pt:=T3.mk (a.x+t*(b.x-a.x)) (a.y+t*(b.y-a.y)) (a.z+t*(b.z-a.z))
def gh(pl:Pl)(a b:Pt):Rat:=if Cr pl a-Cr pl b=0 then 0 else Cr pl a/(Cr pl a-Cr pl b)
def DL(pl:Pl)(a b:Pt):Pt:=ka (gh pl a b) a b
abbrev nx(l:List Pt)(m:Nat):Pt:=gp l ((m+1)%A1 l)
def xP(pl:Pl)(l:List Pt)(m:Nat):Prop:=B7 pl (gp l m)*B7 pl (nx l m)<0
def Ej(pl:Pl)(l:List Pt):Nat->List Pt
  |0=>[]
  |m+1=>Ej pl l m++(if B7 pl (gp l m)<=0 then[gp l m] else[])++(if xP pl l m then[DL pl (gp l m) (nx l m)] else[])
def Ed(pl:Pl)(l:List Pt):Nat->List Pt
  |0=>[]
  |m+1=>Ed pl l m++(if 0<=B7 pl (gp l m) then[gp l m] else[])++(if xP pl l m then[DL pl (gp l m) (nx l m)] else[])
def Jy(pl:Pl)(l:List Pt):Nat->Prop
  |0=>False
  |m+1=>Jy pl l m\/B7 pl (gp l m)<0
def Hc(pl:Pl)(l:List Pt):Nat->Prop
  |0=>False
  |m+1=>Hc pl l m\/0<B7 pl (gp l m)
def sN(pl:Pl)(l:List Pt):List Pt:=if Jy pl l (A1 l)\/¬Hc pl l (A1 l) then Ej pl l (A1 l) else[]
def gS(pl:Pl)(l:List Pt):List Pt:=if Hc pl l (A1 l) then Ed pl l (A1 l) else[]
section
variable {pl:Pl}{l B:List Pt}{m:Nat}
theorem vR(hB:B=Ej pl l m)(h1:B7 pl (gp l m)<=0)(h2:¬xP pl l m):B++[gp l m]=Ej pl l (m+1):=by
 show _=_++_++_;rw[AC h1,A8 h2,hB,Ce]
theorem ql(hB:B=Ed pl l m)(h1:0<=B7 pl (gp l m))(h2:¬xP pl l m):B++[gp l m]=Ed pl l (m+1):=by
 show _=_++_++_;rw[AC h1,A8 h2,hB,Ce]
def Fz(pl:Pl)(l:List Pt)(m:Nat):List Pt:=Ej pl l m++(if B7 pl (gp l m)<=0 then[gp l m] else[])
def Fw(pl:Pl)(l:List Pt)(m:Nat):List Pt:=Ed pl l m++(if 0<=B7 pl (gp l m) then[gp l m] else[])
theorem b2(hB:B=Ej pl l m)(h1:B7 pl (gp l m)<=0):B++[gp l m]=Fz pl l m:=by unfold Fz;rw[AC h1,hB]
theorem YU(hB:B=Ej pl l m)(h1:¬B7 pl (gp l m)<=0):B=Fz pl l m:=by unfold Fz;rw[A8 h1,hB,Ce]
theorem Vm(hB:B=Ed pl l m)(h1:0<=B7 pl (gp l m)):B++[gp l m]=Fw pl l m:=by unfold Fw;rw[AC h1,hB]
theorem U3(hB:B=Ed pl l m)(h1:¬0<=B7 pl (gp l m)):B=Fw pl l m:=by unfold Fw;rw[A8 h1,hB,Ce]
theorem OV(hB:B=Fz pl l m)(h:xP pl l m):B++[DL pl (gp l m) (nx l m)]=Ej pl l (m+1):=by show _=Fz pl l m++_;rw[AC h,hB]
theorem Ob(hB:B=Fz pl l m)(h:¬xP pl l m):B=Ej pl l (m+1):=by show _=Fz pl l m++_;rw[A8 h,hB,Ce]
theorem O0(hB:B=Fw pl l m)(h:xP pl l m):B++[DL pl (gp l m) (nx l m)]=Ed pl l (m+1):=by show _=Fw pl l m++_;rw[AC h,hB]
theorem My(hB:B=Fw pl l m)(h:¬xP pl l m):B=Ed pl l (m+1):=by show _=Fw pl l m++_;rw[A8 h,hB,Ce]
theorem Pd:∀m,Jy pl l m↔∃q,q<m/\B7 pl (gp l q)<0
  |0=>⟨False.elim,λ⟨q,h,_⟩=>by omega⟩
  |m+1=>by
   show(_\/_)↔_
   rw[Pd m];constructor
   · rintro(⟨q,h1,h2⟩|h)
     · exact⟨q,A3,h2⟩
     · exact⟨m,A3,h⟩
   · rintro⟨q,h1,h2⟩
     rcases Dp.1 h1 with h3|h3
     · exact .inl ⟨q,h3,h2⟩
     · subst h3;exact .inr h2
theorem Od:∀m,Hc pl l m↔∃q,q<m/\0<B7 pl (gp l q)
  |0=>⟨False.elim,λ⟨q,h,_⟩=>by omega⟩
  |m+1=>by
   show(_\/_)↔_
   rw[Od m];constructor
   · rintro(⟨q,h1,h2⟩|h)
     · exact⟨q,A3,h2⟩
     · exact⟨m,A3,h⟩
   · rintro⟨q,h1,h2⟩
     rcases Dp.1 h1 with h3|h3
     · exact .inl ⟨q,h3,h2⟩
     · subst h3;exact .inr h2
end
theorem VC{l:List Pt}{m:Nat}(h:m<A1 l):l.take m++[gp l m]=l.take (m+1):=by
 unfold gp;rw[Au,BV h];exact(HE h).symm
theorem gi{pl:Pl}{l:List Pt}{m:Nat}(h:∀q,q<A1 l->B7 pl (gp l q)<=0)(hm:m<A1 l):¬xP pl l m:=λe=>by
 have h1:=h m hm;have h2:=h _ (BQ (m+1) (show 0<A1 l by omega));have h3:=Int.mul_nonneg_of_nonpos_of_nonpos h1 h2;exact absurd e (IQ.2 h3)
theorem vt{pl:Pl}{l:List Pt}{m:Nat}(h:∀q,q<A1 l->0<=B7 pl (gp l q))(hm:m<A1 l):¬xP pl l m:=λe=>by
 have h1:=h m hm;have h2:=h _ (BQ (m+1) (show 0<A1 l by omega));have h3:=Iw h1 h2;exact absurd e (IQ.2 h3)
theorem Zg{pl:Pl}{l:List Pt}(h:∀q,q<A1 l->B7 pl (gp l q)<=0):∀m,m<=A1 l->Ej pl l m=l.take m
  |0,_=>by rw[HT];rfl
  |m+1,hm=>by
   rw[<-vR rfl (h m A3) (gi h A3),Zg h m A3,VC A3]
theorem WQ{pl:Pl}{l:List Pt}(h:∀q,q<A1 l->0<=B7 pl (gp l q)):∀m,m<=A1 l->Ed pl l m=l.take m
  |0,_=>by rw[HT];rfl
  |m+1,hm=>by
   rw[<-ql rfl (h m A3) (vt h A3),WQ h m A3,VC A3]
theorem VS{pl:Pl}{l:List Pt}(h:¬Hc pl l (A1 l)):sN pl l=l/\gS pl l=[]:=by
 have h1:∀q,q<A1 l->B7 pl (gp l q)<=0:=λq C=>IQ.1 λe=>h ((Od _).2 ⟨q,C,e⟩);unfold sN gS;rw[AC (.inr h),A8 h,Zg h1 _ (B1 _),ER];exact⟨I,I⟩
theorem ZH{pl:Pl}{l:List Pt}(h:Hc pl l (A1 l))(hb:¬Jy pl l (A1 l)):sN pl l=[]/\gS pl l=l:=by
 have h1:∀q,q<A1 l->0<=B7 pl (gp l q):=λq C=>IQ.1 λe=>hb ((Pd _).2 ⟨q,C,e⟩);unfold sN gS;rw[A8 (λe=>e.elim hb λe=>e h),AC h,WQ h1 _ (B1 _),ER];exact⟨I,I⟩
theorem Ym{pl:Pl}{l:List Pt}(h:Hc pl l (A1 l))(hb:Jy pl l (A1 l)):sN pl l=Ej pl l (A1 l)/\gS pl l=Ed pl l (A1 l):=by
 unfold sN gS;rw[AC (.inl hb),AC h];exact⟨I,I⟩
theorem N7(pl:Pl)(l:List Pt):∀m,A1 (Ej pl l m)<=2*m
  |0=>B1 _
  |m+1=>by
   have h:=N7 pl l m
   show List.length (_++_++_)<=_
   rw[BJ,BJ];have h1:A1 (if B7 pl (gp l m)<=0 then[gp l m] else[])<=1:=by split<;>simp
   have h2:A1 (if xP pl l m then[DL pl (gp l m) (nx l m)] else[])<=1:=by split<;>simp
   omega
theorem Mf(pl:Pl)(l:List Pt):∀m,A1 (Ed pl l m)<=2*m
  |0=>B1 _
  |m+1=>by
   have h:=Mf pl l m
   show List.length (_++_++_)<=_
   rw[BJ,BJ];have h1:A1 (if 0<=B7 pl (gp l m) then[gp l m] else[])<=1:=by split<;>simp
   have h2:A1 (if xP pl l m then[DL pl (gp l m) (nx l m)] else[])<=1:=by split<;>simp
   omega
theorem ho(pl:Pl)(l:List Pt)(m:Nat):A1 (Fz pl l m)<=2*m+1:=by
 have h:=N7 pl l m;unfold Fz;rw[BJ];have h1:A1 (if B7 pl (gp l m)<=0 then[gp l m] else[])<=1:=by split<;>simp
 omega
theorem uc(pl:Pl)(l:List Pt)(m:Nat):A1 (Fw pl l m)<=2*m+1:=by
 have h:=Mf pl l m;unfold Fw;rw[BJ];have h1:A1 (if 0<=B7 pl (gp l m) then[gp l m] else[])<=1:=by split<;>simp
 omega
theorem b7(pl:Pl)(l:List Pt):A1 (sN pl l)<=2*A1 l:=by
 unfold sN;split
 · exact N7 pl l _
 · exact Ci _
theorem rb(pl:Pl)(l:List Pt):A1 (gS pl l)<=2*A1 l:=by
 unfold gS;split
 · exact Mf pl l _
 · exact Ci _
def bG(l:List Pt):Prop:=aV l 0 1->¬qN l 0 1 (A1 l)=0
theorem Qy{l:List Pt}(h:¬qN l 0 1 (A1 l)=0):bG l:=λ_=>h
abbrev PI:=Int×Int
def EY(u v w:PI):Int:=(v.1-u.1)*(w.2-u.2)-(v.2-u.2)*(w.1-u.1)
def HW(n:Int):Int:=if 0<n then 1 else if n<0 then -1 else 0
def EK(u v w:PI):Int:=HW (EY u v w)
def E0(u v:PI):Bool:=decide (u.1<v.1\/(u.1=v.1/\u.2<v.2))
def Js(a b c d:Int):Bool:=decide ((a<c/\a<d/\b<c/\b<d)\/(c<a/\d<a/\c<b/\d<b))
def QJ(a b c d:PI):Int:=
 if E0 (if E0 d b then d else b) (if E0 a c then c else a) then 0 else if E0 (if E0 a c then c else a) (if E0 d b then d else b) then 3
 else if((if E0 a c then c else a)=a\/(if E0 a c then c else a)=b)/\((if E0 a c then c else a)=c\/(if E0 a c then c else a)=d) then 1 else 2
def W1(a b c d:PI):Int:=QJ (if E0 b a then b else a) (if E0 b a then a else b) (if E0 d c then d else c) (if E0 d c then c else d)
def Kk(a b c d:PI):Int:=
 if Js a.1 b.1 c.1 d.1\/Js a.2 b.2 c.2 d.2 then 0
 else if EK a b c=0/\EK a b d=0/\EK c d a=0/\EK c d b=0 then W1 a b c d
 else if 0<EK a b c*EK a b d\/0<EK c d a*EK c d b then 0
 else if(EK a b c=0\/EK a b d=0)/\(EK c d a=0\/EK c d b=0) then 1 else 2
def af(x y r:Int)(u:PI):P2:=(((x+r*u.1:Int):Rat),((y+r*u.2:Int):Rat))
def VZ(n p q:Nat):Int:=if q=p+1\/(p=0/\q+1=n) then 1 else 0
theorem Tl{a b:List Pt}{p q:Nat}:2<=oZ (qJ a 0 1 p) (qI a 0 1 p) (qJ b 0 1 q) (qI b 0 1 q)↔Gf a b 0 1 p q:=by
 unfold Gf;rw[U0];omega
theorem kh{a b:List Pt}{p q:Nat}(h:Gf a b 0 1 p q):Gf b a 0 1 q p:=by
 unfold Gf at *;rw[Uj];exact h
theorem iL{a b:List Pt}(h:fE a b 0 1):fE b a 0 1:=by
 obtain⟨p,q,D,C,h⟩:=h;exact⟨q,p,C,D,kh h⟩
theorem Y8(a b:Pt):pr (T3.mk (iX a.x b.x) (iX a.y b.y) (0:Rat)) 0 1=Ij (pr a 0 1) (pr b 0 1):=rfl
theorem fu{l:List Pt}(hf:bG l)(hs:aV l 0 1):¬yK (C2 l 0 1)=0:=λe=>hf hs (qK.1 e)
theorem ru{L:List (List Pt)}(h:∀x,x∈L->bG x)(m:Nat):bG (gl L m):=by
 show bG (A0 L m [])
 rw[Au]
 rcases DR m (A1 L) with h1|h1
 · rw[BV h1]
   exact h _ (Ep h1)
 · rw[F0 h1]
   exactλe=>absurd e.1 Aa
theorem mn{L:List (List Pt)}{m:Nat}(h:yK (qN (gl L m) 0 1 (A1 (gl L m)))<0):pK L 0 1 m (A1 L)=pZ L 0 1 m:=by
 have h1:yK (C2 (gl L m) 0 1)<0:=h;unfold pZ;rw[A8 A3]
theorem YE{L:List (List Pt)}{m:Nat}(hf:∀x,x∈L->bG x)(hs:aV (gl L m) 0 1)(h:¬yK (qN (gl L m) 0 1 (A1 (gl L m)))<0):0<yK (C2 (gl L m) 0 1):=by
 have h1:¬yK (C2 (gl L m) 0 1)<0:=h;have h2:=fu (ru hf m) hs;omega
theorem d5{L:List (List Pt)}{m:Nat}(hf:∀x,x∈L->bG x)(hs:aV (gl L m) 0 1)(h:¬yK (qN (gl L m) 0 1 (A1 (gl L m)))<0):-1=pZ L 0 1 m:=by
 unfold pZ;rw[AC (YE hf hs h)]
theorem X9{O:List Int}{m:Nat}{f:Nat->Int}{p:Int}(hl:A1 O=m)(h:∀q,q<m->A0 O q 0=f q)(hp:p=f m):A1 (O++[p])=m+1/\∀q,q<m+1->A0 (O++[p]) q 0=f q:=by
 refine⟨by rw[BJ,hl];rfl,λq C=>?_⟩;rw[Au]
 by_cases e:q=m
 · subst e
   rw[Pr A3,hl,M3];exact hp
 · rw[P5 A3,<-Au]
   exact h q A3
theorem oi{L:List (List Pt)}{a:Nat}(h:0<yK (C2 (gl L a) 0 1)):¬iS L 0 1 a/\∀b,b<A1 L->¬Ez L 0 1 a b:=by
 refine⟨λe=>e.1 h,λb _ e=>?_⟩;have h1:=e.1.1.2;have h2:pZ L 0 1 a= -1:=by unfold pZ;rw[AC h]
 omega
theorem e3{L:List (List Pt)}{m:Nat}(hf:∀x,x∈L->bG x)(hs:aV (gl L m) 0 1)(h:0<=yK (qN (gl L m) 0 1 (A1 (gl L m)))):0<yK (C2 (gl L m) 0 1):=YE hf hs A3
theorem WK{L:List (List Pt)}{a:Nat}{o:Int}(h:¬0<=yK (qN (gl L a) 0 1 (A1 (gl L a))))(ho:o=pZ L 0 1 a)(h1:o<0):iS L 0 1 a:=by
 have h2:yK (C2 (gl L a) 0 1)<0:=Jn.1 h;refine⟨A3,?_⟩;rw[ho] at h1;unfold pZ at h1;rw[A8 A3] at h1;exact h1
theorem Nj{L:List (List Pt)}{a:Nat}{o:Int}(ho:o=pZ L 0 1 a)(h1:¬o<0):¬iS L 0 1 a:=λe=>by
 rw[ho] at h1;unfold pZ at h1;rw[A8 e.1] at h1;exact h1 e.2
abbrev Fc:=(Pt×Rat)×List (List Int)×List Nat
abbrev En:=Int×Int×Rat
abbrev Sd:=List Pt×List Fc×List En
abbrev FZ:Pt×Rat:=(zT,(0:Rat))
abbrev zA:Fc:=(FZ,([]:List (List Int)),([]:List Nat))
def NV(n:Nat)(x:List Int):Prop:=∀k,k<A1 x->0<=(A0 x k 0)/\(A0 x k 0)<n
def DB(s:Sd)(f:Nat):Prop:=∀l,l<A1 ((A0 s.2.1 f zA).2.1)->NV (A1 s.1) ((A0 ((A0 s.2.1 f zA).2.1) l []))
def uM(s:Sd):List (List (List Int)):=qB (λf=>(A0 s.2.1 f zA).2.1) (A1 s.2.1)
theorem rR(s:Sd):A1 (uM s)=A1 s.2.1:=xN _ _
theorem oG{s:Sd}{f:Nat}(h:f<A1 s.2.1):(A0 (uM s) f [])=(A0 s.2.1 f zA).2.1:=jB _ _ h
def FO(ps:List Pt)(x:List Int):Nat->List Pt:=qB λk=>gp ps ((A0 x k 0)).toNat
def Gq(s:Sd)(f:Nat):Nat->List (List Pt):=qB λl=>FO s.1 ((A0 ((A0 s.2.1 f zA).2.1) l [])) (A1 ((A0 ((A0 s.2.1 f zA).2.1) l [])))
def jP(s:Sd)(f:Int):List (List Pt):=if(0<=f/\f<A1 s.2.1)/\DB s f.toNat then Gq s f.toNat (A1 ((A0 s.2.1 f.toNat zA).2.1)) else[]
theorem ft{s:Sd}{f:Int}(h:∀f,f<A1 s.2.1->A1 (A0 s.2.1 f zA).2.1<=10000/\∀l,l<A1 (A0 s.2.1 f zA).2.1->A1 (A0 (A0 s.2.1 f zA).2.1 l [])<=10000):A1 (jP s f)<=10000/\∀l,A1 (A0 (jP s f) l [])<=10000:=by
 unfold jP
 split
 · rename_i hf
   have h1:=h f.toNat A3;have h2:A1 (Gq s f.toNat (A1 (A0 s.2.1 f.toNat zA).2.1))=A1 (A0 s.2.1 f.toNat zA).2.1:=xN _ _;refine⟨A3,λl=>?_⟩
   rcases DR l (A1 (A0 s.2.1 f.toNat zA).2.1) with h3|h3
   · unfold Gq
     rw[jB _ _ h3];unfold FO;rw[xN];exact h1.2 l h3
   · rw[Au,F0 A3];exact Ci _
 · exact⟨Ci _,λl=>Ci _⟩
def Ik(pl:Pl)(l:List Pt):Nat->List Pt:=qB λi=>jO pl (gp l i)
def N9(pl:Pl)(L:List (List Pt)):Nat->List (List Pt):=qB λi=>Ik pl (gl L i) (A1 (gl L i))
def sS(s:Sd)(f:Nat):List (List Pt):=N9 ((A0 s.2.1 f zA)).1 (jP s f) (A1 (jP s f))
def dg(kind face loop edge:Int):H:=(kind,(-1:Int),face,loop,edge)
def Lj(s:Sd)(f:Nat):Prop:=¬CB ((A0 s.2.1 f zA).2.1)\/¬DB s f
def Hz(s:Sd):Prop:=(512<A1 s.1\/256<A1 s.2.1)\/1024<A1 s.2.2
def Qe(s:Sd):Nat->List H:=bC (Lj s) λf=>dg 1 f (-1) (-1)
def FJ(s:Sd):List H:=if Hz s then Qe s (A1 s.2.1)++[dg 2 (-1) (-1) (-1)] else Qe s (A1 s.2.1)
def PJ(s:Sd)(i:Nat):Prop:=∃k,k<i/\gp s.1 i=gp s.1 k
def HV(s:Sd):Nat->List H:=bC (PJ s) λi=>dg 37 (-1) (-1) i
def bm(s:Sd)(f:Nat):Prop:=((A0 s.2.1 f zA)).1.1=zT
def Lp(s:Sd):Nat->List H:=bC (bm s) λf=>dg 9 f (-1) (-1)
def Rg(s:Sd)(f l k:Nat):Prop:=¬B7 ((A0 s.2.1 f zA)).1 (gp (gl (jP s f) l) k)=0
def Iz(s:Sd)(f l:Nat):Nat->List H:=bC (Rg s f l) λk=>dg 31 f l k
def Jx(s:Sd)(f:Nat):Nat->List H:=rY λl=>Iz s f l (A1 (gl (jP s f) l))
def Ig(s:Sd):Nat->List H:=rY λf=>Jx s f (A1 (jP s f))
theorem oO{s:Sd}{f:Int}(h:∀f,f<A1 s.2.1->A1 (A0 s.2.1 f zA).2.1<=16/\∀l,l<A1 (A0 s.2.1 f zA).2.1->A1 (A0 (A0 s.2.1 f zA).2.1 l [])<=64):A1 (jP s f)<=16/\∀l,A1 (A0 (jP s f) l [])<=64:=by
 unfold jP
 split
 · rename_i hf
   have h1:=h f.toNat A3;have h2:A1 (Gq s f.toNat (A1 (A0 s.2.1 f.toNat zA).2.1))=A1 (A0 s.2.1 f.toNat zA).2.1:=xN _ _;refine⟨A3,λl=>?_⟩
   rcases DR l (A1 (A0 s.2.1 f.toNat zA).2.1) with h3|h3
   · unfold Gq
     rw[jB _ _ h3];unfold FO;rw[xN];exact h1.2 l h3
   · rw[Au,F0 A3];exact Ci _
 · exact⟨Ci _,λl=>Ci _⟩
section
variable {s:Sd}(h:∀f,f<A1 s.2.1->A1 (A0 s.2.1 f zA).2.1<=16/\∀l,l<A1 (A0 s.2.1 f zA).2.1->A1 (A0 (A0 s.2.1 f zA).2.1 l [])<=64)
include h
theorem PN(f:Nat):∀l,A1 (Jx s f l)<=64*l
  |0=>B1 _
  |l+1=>by
   have h1:=PN f l;have h2:A1 (Iz s f l (A1 (A0 (jP s f) l [])))<=A1 (A0 (jP s f) l []):=cS _ _ _;have h3:=(oO (f:=↑f) h).2 l
   show List.length (Jx s f l++Iz s f l (A1 (A0 (jP s f) l [])))<=_
   rw[BJ];omega
theorem Zx:∀f,f<=A1 s.2.1->A1 (Ig s f)<=1024*f
  |0,_=>B1 _
  |f+1,hf=>by
   have h1:=Zx f A3;have h2:=PN h f (A1 (jP s f));have h3:=(oO (f:=↑f) h).1
   show List.length (Ig s f++Jx s f (A1 (jP s f)))<=_
   rw[BJ];omega
end
def I6(s:Sd):List H:=if 0<A1 (Lp s (A1 s.2.1)) then Lp s (A1 s.2.1) else Ig s (A1 s.2.1)
def EX(L:List (List Pt)):Nat->Int
  |0=>0
  |m+1=>if 0<yK (C2 (gl L m) 0 1) then EX L m+1 else EX L m
theorem Om(L:List (List Pt)):∀m,0<=EX L m/\EX L m<=m
  |0=>by unfold EX;omega
  |m+1=>by
   have h:=Om L m;unfold EX
   split<;>omega
theorem ev{L:List (List Pt)}{m:Nat}(h:0<yK (C2 (gl L m) 0 1)):EX L m+1=EX L (m+1):=(AC h).symm
theorem iy{L:List (List Pt)}{m:Nat}(h:¬0<yK (C2 (gl L m) 0 1)):EX L m=EX L (m+1):=(A8 h).symm
def E4(L:List (List Pt)):Int:=EX L (A1 L)
def k7(s:Sd)(f:Nat):Prop:=¬uK (sS s f) 0 1=0
def Kb(s:Sd):Nat->List H:=bC (k7 s) λf=>dg (uK (sS s f) 0 1) f (-1) (-1)
def r8(s:Sd)(f:Nat):Prop:=¬E4 (sS s f)=1
def QP(s:Sd):Nat->List H:=bC (r8 s) λf=>dg 33 f (-1) (-1)
def HZ(s:Sd):List H:=if 0<A1 (Kb s (A1 s.2.1)) then Kb s (A1 s.2.1) else QP s (A1 s.2.1)
theorem ij(L:List (List Pt))(i j:Nat):0<=uK L i j/\uK L i j<=33:=by
 unfold uK
 repeat' split
 all_goals decide
theorem On(s:Sd)(f:Nat):A1 (sS s f)=A1 (jP s ↑f)/\∀l,A1 (A0 (sS s f) l [])=A1 (A0 (jP s ↑f) l []):=by
 have h1:A1 (sS s f)=A1 (jP s ↑f):=xN _ _;refine⟨h1,λl=>?_⟩
 rcases DR l (A1 (jP s ↑f)) with h|h
 · unfold sS N9
   rw[jB _ _ h];exact xN _ _
 · rw[Au,Au,F0 A3,F0 h]
def CF(s:Sd):Prop:=((A1 s.1<=1000/\A1 s.2.1<=1000)/\A1 s.2.2<=2000)/\(∀f,f<A1 s.2.1->A1 (A0 s.2.1 f zA).2.1<=16/\∀l,l<A1 (A0 s.2.1 f zA).2.1->A1 (A0 (A0 s.2.1 f zA).2.1 l [])<=64)/\∀f,f<A1 s.2.1->∀x,x∈sS s f->bG x
theorem CF.big{s:Sd}(h:CF s):∀f,f<A1 s.2.1->A1 (A0 s.2.1 f zA).2.1<=10000/\∀l,l<A1 (A0 s.2.1 f zA).2.1->A1 (A0 (A0 s.2.1 f zA).2.1 l [])<=10000:=λf hf=>⟨Ao (h.2.1 f hf).1 Aa,λl hl=>Ao ((h.2.1 f hf).2 l hl) Aa⟩
theorem CF.mem{s:Sd}(h:CF s):∀f,f<A1 s.2.1->A1 (A0 s.2.1 f zA).2.1<=100000/\∀x,x∈(A0 s.2.1 f zA).2.1->A1 x<=100000:=λf hf=>⟨Ao (h.2.1 f hf).1 Aa,λx hx=>by
 obtain⟨m,hm,e⟩:=J4 hx;have:=(h.2.1 f hf).2 m hm;rw[Au,BV hm] at this;rw[<-e];exact Ao this Aa⟩
def KV(s:Sd):List H:=if 0<A1 (FJ s) then FJ s else if 0<A1 (HV s (A1 s.1)) then HV s (A1 s.1) else if 0<A1 (I6 s) then I6 s else if 0<A1 (HZ s) then HZ s else JS (uM s)
def aP(s:Sd):Prop:=A1 (KV s)=0
def Dk(p q:Pt):Prop:=p.x<q.x\/(p.x=q.x/\(p.y<q.y\/(p.y=q.y/\p.z<q.z)))
def cZ:List Int->List Int->Int
  |[],[]=>0
  |[],_::_=>-1
  |_::_,[]=>1
  |x::a,y::b=>if x=y then cZ a b else if x<y then -1 else 1
theorem Xn{i:Nat}:∀{a b:List Int},(∀u,u<i->(A0 a u 0)=(b.getD u 0))->i<A1 a->i<b.length->¬(A0 a i 0)=(b.getD i 0)->cZ a b=if(A0 a i 0)<(b.getD i 0) then -1 else 1:=by
 induction i with
 |zero=>
  intro a b _ ha hb hne
  match a,b,ha,hb with
  |x::a,y::b,_,_=>exact A8 hne
 |succ i ih=>
  intro a b h ha hb hne
  match a,b,ha,hb with
  |x::a,y::b,ha,hb=>
   have h0:x=y:=h 0 A3
   show(if x=y then cZ a b else _)=_
   rw[AC h0];exact ih (λu hu=>h (u+1) A3) (by simpa using ha) (by simpa using hb) hne
theorem RE{i:Nat}:∀{a b:List Int},(∀u,u<i->(A0 a u 0)=(b.getD u 0))->i=min (A1 a) b.length->cZ a b=if (A1 a)<b.length then -1 else if b.length<A1 a then 1 else 0:=by
 induction i with
 |zero=>
  intro a b _ he
  match a,b with
  |[],[]=>rfl
  |[],_::_=>rfl
  |_::_,[]=>rfl
  |_::_,_::_=>simp at he
 |succ i ih=>
  intro a b h he
  match a,b with
  |[],_=>simp at he
  |_::_,[]=>simp at he
  |x::a,y::b=>
   have h0:x=y:=h 0 A3
   show(if x=y then cZ a b else _)=_
   rw[AC h0,ih (λu hu=>h (u+1) A3) (by simp at he;omega)];simp only[lC,Nat.add_lt_add_iff_right]
theorem TN:∀a b:List Int,-1<=cZ a b/\cZ a b<=1
  |[],[]=>⟨by show(-1:Int)<=0;decide,by show(0:Int)<=1;decide⟩
  |[],_::_=>⟨by show(-1:Int)<= -1;decide,by show(-1:Int)<=1;decide⟩
  |_::_,[]=>⟨by show(-1:Int)<=1;decide,by show(1:Int)<=1;decide⟩
  |x::a,y::b=>by
   show -1<=(if x=y then cZ a b else if x<y then -1 else 1)/\(if x=y then cZ a b else if x<y then -1 else 1)<=1
   split
   · exact TN a b
   · split<;>decide
def bE(x:List Int):Nat->Nat
  |0=>0
  |m+1=>if(A0 x m 0)<(A0 x (bE x m) 0) then m else bE x m
theorem Zt(x:List Int):∀m,bE x m<m\/bE x m=0
  |0=>.inr rfl
  |m+1=>by
   have h:=Zt x m;unfold bE
   split<;>omega
theorem v7{x:List Int}{m:Nat}(h:(A0 x m 0)<(A0 x (bE x m) 0)):m=bE x (m+1):=(AC h).symm
theorem k3{x:List Int}{m:Nat}(h:¬(A0 x m 0)<(A0 x (bE x m) 0)):bE x m=bE x (m+1):=(A8 h).symm
def J8(x:List Int):List Int:=x.drop (bE x (A1 x))++x.take (bE x (A1 x))
def K1:List (List Int)->List (List Int)->Prop
  |[],[]=>False
  |[],_::_=>True
  |_::_,[]=>False
  |x::a,y::b=>if cZ x y=0 then K1 a b else cZ x y<0
theorem dz{i:Nat}:∀{a b:List (List Int)},(∀u,u<i->cZ ((A0 a u [])) ((b.getD u []))=0)->i<A1 a->i<b.length->¬cZ ((A0 a i [])) ((b.getD i []))=0->(K1 a b↔cZ ((A0 a i [])) ((b.getD i []))<0):=by
 induction i with
 |zero=>
  intro a b _ ha hb hne
  match a,b,ha,hb with
  |x::a,y::b,_,_=>exact Iff.of_eq (A8 hne)
 |succ i ih=>
  intro a b h ha hb hne
  match a,b,ha,hb with
  |x::a,y::b,ha,hb=>
   have h0:cZ x y=0:=h 0 A3
   show(if cZ x y=0 then K1 a b else _)↔_
   rw[AC h0];exact ih (λu hu=>h (u+1) A3) (by simpa using ha) (by simpa using hb) hne
theorem pc{i:Nat}:∀{a b:List (List Int)},(∀u,u<i->cZ ((A0 a u [])) ((b.getD u []))=0)->i=min (A1 a) b.length->(K1 a b↔A1 a<b.length):=by
 induction i with
 |zero=>
  intro a b _ he
  match a,b with
  |[],[]=>exact⟨False.elim,λh=>absurd h (KD _)⟩
  |[],_::_=>exact⟨λ_=>OY _,λ_=>trivial⟩
  |_::_,[]=>exact⟨False.elim,λh=>absurd h (IZ _)⟩
  |_::_,_::_=>simp at he
 |succ i ih=>
  intro a b h he
  match a,b with
  |[],_=>simp at he
  |_::_,[]=>simp at he
  |x::a,y::b=>
   have h0:cZ x y=0:=h 0 A3
   show(if cZ x y=0 then K1 a b else _)↔_
   rw[AC h0,ih (λu hu=>h (u+1) A3) (by simp at he;omega)];simp only[lC,Nat.add_lt_add_iff_right]
def Nq(a b:Fc):Prop:=if a.2.2=b.2.2 then K1 a.2.1 b.2.1 else Dr a.2.2 b.2.2
theorem uh{p q:Pt}(h:¬wA p.x q.x=0):wA p.x q.x<0↔Dk p q:=by
 unfold Dk;rw[rI];rw[lP] at h;exact⟨.inl,λe=>e.elim id λe=>absurd e.1 h⟩
theorem av{p q:Pt}(h:wA p.x q.x=0)(h2:¬wA p.y q.y=0):wA p.y q.y<0↔Dk p q:=by
 unfold Dk;rw[rI];rw[lP] at h h2;have:=@Rat.lt_irrefl p.x;exact⟨λe=>.inr ⟨h,.inl e⟩,λe=>e.elim (λe=>absurd (h▸e) this) λe=>e.2.elim id λe=>absurd e.1 h2⟩
theorem bc{p q:Pt}(h:wA p.x q.x=0)(h2:wA p.y q.y=0)(h3:¬wA p.z q.z=0):wA p.z q.z<0↔Dk p q:=by
 unfold Dk;rw[rI];rw[lP] at h h2;have D:=@Rat.lt_irrefl p.x;have C:=@Rat.lt_irrefl p.y;exact⟨λe=>.inr ⟨h,.inr ⟨h2,e⟩⟩,λe=>e.elim (λe=>absurd (h▸e) D) λe=>e.2.elim (λe=>absurd (h2▸e) C) λe=>e.2⟩
theorem q7{p q:Pt}(h:wA p.x q.x=0)(h2:wA p.y q.y=0)(h3:wA p.z q.z=0):¬Dk p q:=by
 rw[lP] at h h2 h3;have H:=@Rat.lt_irrefl p.x;have D:=@Rat.lt_irrefl p.y;have C:=@Rat.lt_irrefl p.z;exactλe=>e.elim (λe=>absurd (h▸e) H) λe=>e.2.elim (λe=>absurd (h2▸e) D) λe=>absurd (h3▸e.2) C
theorem j2{p q:Pt}{i:Nat}(hi:i<3)(h:∀u,u<i->wA (p.at u) (q.at u)=0)(hn:¬wA (p.at i) (q.at i)=0):wA (p.at i) (q.at i)<0↔Dk p q:=by
 match i,hi with
 |0,_=>exact uh hn
 |1,_=>exact av (h 0 Aa) hn
 |2,_=>exact bc (h 0 Aa) (h 1 Aa) hn
theorem kx{p q:Pt}(h:∀u,u<3->wA (p.at u) (q.at u)=0):¬Dk p q:=q7 (h 0 Aa) (h 1 Aa) (h 2 Aa)
def D3(x:Rat):Rat:=if rJ x=0 then 0 else((1:Int):Rat)/rJ x
def C8(r:Rat)(pl:Pl):Pl:=(T3.mk (r*pl.1.x) (r*pl.1.y) (r*pl.1.z),r*pl.2)
def Bc(pl:Pl):Pl:=if ¬yK pl.1.x=0 then C8 (D3 pl.1.x) pl else if ¬yK pl.1.y=0 then C8 (D3 pl.1.y) pl else if ¬yK pl.1.z=0 then C8 (D3 pl.1.z) pl else FZ
theorem YG{pl:Pl}{i:Nat}(hi:i<3)(h:∀u,u<i->yK (pl.1.at u)=0)(hn:¬yK (pl.1.at i)=0):C8 (D3 (pl.1.at i)) pl=Bc pl:=by
 unfold Bc
 match i,hi with
 |0,_=>exact(AC hn).symm
 |1,_=>exact((A8 (λe=>e (h 0 Aa))).trans (AC hn)).symm
 |2,_=>exact((A8 (λe=>e (h 0 Aa))).trans ((A8 (λe=>e (h 1 Aa))).trans (AC hn))).symm
theorem UE{pl:Pl}(h:∀u,u<3->yK (pl.1.at u)=0):FZ=Bc pl:=by
 unfold Bc;exact((A8 (λe=>e (h 0 Aa))).trans ((A8 (λe=>e (h 1 Aa))).trans (A8 (λe=>e (h 2 Aa))))).symm
def Ev(x:List Int):Nat->List Int:=qB λi=>A0 x (A1 x-1-i) 0
def Gk(E:List H)(m i:Nat):Prop:=∃q,q<m/\(A0 E q ((0:Int),(0:Int),(0:Int),(0:Int),(0:Int))).1=(i:Int)
theorem ha{E:List H}{m n:Nat}{U:List Prop}(hl:A1 U=n)(h:∀u,u<n->(A0 U u False↔Gk E m u))(h0:0<=(A0 E m ((0:Int),(0:Int),(0:Int),(0:Int),(0:Int))).1)(h1:(A0 E m ((0:Int),(0:Int),(0:Int),(0:Int),(0:Int))).1<n):∀u,u<n->(A0 (U.set (A0 E m ((0:Int),(0:Int),(0:Int),(0:Int),(0:Int))).1.toNat True) u False↔Gk E (m+1) u):=by
 intro u D;rw[Au,Mv];have hx:Gk E (m+1) u↔Gk E m u\/(A0 E m ((0:Int),(0:Int),(0:Int),(0:Int),(0:Int))).1=(u:Int):=by
  constructor
  · rintro⟨q,C,e⟩
    rcases Dp.1 C with h|h
    · exact .inl ⟨q,h,e⟩
    · subst h;exact .inr e
  · rintro(⟨q,C,e⟩|e)
    · exact⟨q,A3,e⟩
    · exact⟨m,A3,e⟩
 rw[hx]
 split
 · rename_i e
   rw[AC A3];exact⟨λ_=>.inr A3,λ_=>trivial⟩
 · rename_i e
   have:=h u D;rw[Au] at this;rw[this];exact⟨.inl,λh=>h.resolve_right A3⟩
def Dv(s:Sd):Prop:=∀f,f<A1 s.2.1->DB s f
theorem jc{s:Sd}(h:Dv s){q:Nat}(hq:q<A1 (Bg (uM s))):0<=(A0 (Bg (uM s)) q ((0:Int),(0:Int),(0:Int),(0:Int),(0:Int))).1/\(A0 (Bg (uM s)) q ((0:Int),(0:Int),(0:Int),(0:Int),(0:Int))).1<A1 s.1:=by
 have C:=kX (d:=((0:Int),(0:Int),(0:Int),(0:Int),(0:Int))) hq;generalize A0 (Bg (uM s)) q ((0:Int),(0:Int),(0:Int),(0:Int),(0:Int))=e at C ⊢;obtain⟨f,D,C⟩:=QU C;obtain⟨l,H,C⟩:=QU C;obtain⟨i,hi,rfl⟩:=Ru C;rw[rR] at D;have J:A0 (uM s) f []=(A0 s.2.1 f zA).2.1:=jB _ _ D;rw[J] at H hi ⊢;exact h f D l H i hi
theorem ix{s:Sd}(h:CF s):A1 (Bg (uM s))<=1100000:=by
 have h1:=NY (F:=uM s) (λf C=>by rw[rR] at C;rw[oG C];exact h.2.1 f C) _ (B1 _);rw[rR] at h1;have h2:=h.1.1.2
 show(A1 (I7 (uM s) (A1 (uM s))))<=_
 rw[rR];omega
def Jf(s:Sd)(out:List Int)(i k:Nat):Prop:=Dk (gp s.1 i) (gp s.1 (A0 out k 0).toNat)
def aY(s:Sd):Nat->List Int
  |0=>[]
  |i+1=>if Gk (Bg (uM s)) (A1 (Bg (uM s))) i then y5 (aY s i) (lE (Jf s (aY s i) i) (A1 (aY s i))) (i:Int) else aY s i
theorem Rc(s:Sd):∀i,A1 (aY s i)<=i
  |0=>B1 _
  |i+1=>by
   have:=Rc s i;unfold aY
   split
   · rw[QR _ _ (NO _ _)];omega
   · omega
theorem N5{s:Sd}{x:Int}:∀{i},x∈aY s i->0<=x/\x<i
  |0,h=>absurd h Bv
  |i+1,h=>by
   unfold aY at h
   split at h
   · unfold y5 at h
     rcases Cy.1 h with h|h
     · have:=N5 (HH h);omega
     · rcases BY.1 h with rfl|h
       · omega
       · have:=N5 (IJ h);omega
   · have:=N5 h;omega
theorem eP{s:Sd}{i k:Nat}(h:k<A1 (aY s i)):0<=A0 (aY s i) k 0/\A0 (aY s i) k 0<i:=N5 (kX h)
def Ni(s:Sd)(ix:List Int)(f i:Nat):Nat->List Int:=qB λq=>A0 ix (A0 (A0 (A0 s.2.1 f zA).2.1 i []) q 0).toNat 0
def D8(s:Sd)(ix:List Int)(f i:Nat):List Int:=J8 (Ni s ix f i (A1 (A0 (A0 s.2.1 f zA).2.1 i [])))
def FG(s:Sd)(f i:Nat):Prop:=0<yK (C2 (gl (sS s f) i) 0 1)
def FW(s:Sd)(ix:List Int)(f:Nat):Nat->List (List Int):=bC (FG s f) (D8 s ix f)
def M2(l:List Int)(D:List (List Int))(k:Nat):Prop:=cZ l (A0 D k [])<0
def EM(s:Sd)(ix:List Int)(f:Nat):Nat->List (List Int)
  |0=>[]
  |i+1=>if FG s f i then EM s ix f i else y5 (EM s ix f i) (lE (M2 (D8 s ix f i) (EM s ix f i)) (A1 (EM s ix f i))) (D8 s ix f i)
theorem R8(s:Sd)(ix:List Int)(f:Nat):∀i,A1 (EM s ix f i)<=i
  |0=>B1 _
  |i+1=>by
   have:=R8 s ix f i;unfold EM
   split
   · omega
   · rw[QR _ _ (NO _ _)];omega
def CI(s:Sd)(ix:List Int)(f:Nat):Fc:=(Bc (A0 s.2.1 f zA).1,FW s ix f (A1 (A0 s.2.1 f zA).2.1)++EM s ix f (A1 (A0 s.2.1 f zA).2.1),(A0 s.2.1 f zA).2.2)
theorem SH{s:Sd}{f:Nat}(hf:f<A1 s.2.1)(h:DB s f):jP s ↑f=Gq s f (A1 (A0 s.2.1 f zA).2.1):=AC ⟨A3,h⟩
theorem hY{s:Sd}{f:Nat}(hf:f<A1 s.2.1)(h:DB s f):A1 (sS s f)=A1 (A0 s.2.1 f zA).2.1:=by
 rw[(On s f).1,SH hf h];exact xN _ _
def fU(s:Sd):List Int:=aY s (A1 s.1)
def GG(s:Sd):Nat->List Int
  |0=>List.replicate (A1 s.1) (0:Int)
  |i+1=>(GG s i).set (A0 (fU s) i 0).toNat (i:Int)
theorem JM(s:Sd):∀i,A1 (GG s i)=A1 s.1
  |0=>Hu
  |i+1=>by unfold GG;rw[lS];exact JM s i
def CC(s:Sd):List Int:=GG s (A1 (fU s))
def KW(s:Sd):Nat->List Pt:=qB λi=>gp s.1 (A0 (fU s) i 0).toNat
def Ii(x:Fc)(D:List Fc)(k:Nat):Prop:=Nq x (A0 D k zA)
def EJ(s:Sd):Nat->List Fc
  |0=>[]
  |f+1=>y5 (EJ s f) (lE (Ii (CI s (CC s) f) (EJ s f)) (A1 (EJ s f))) (CI s (CC s) f)
theorem TI(s:Sd):∀f,A1 (EJ s f)=f
  |0=>rfl
  |f+1=>by
   unfold EJ;rw[QR _ _ (NO _ _),TI s f]
def Di(s:Sd):List Pt:=if aP s then KW s (A1 (fU s)) else[]
def Cb(s:Sd):List Fc:=if aP s then EJ s (A1 s.2.1) else[]
def E7(s:Sd):List En:=if aP s then s.2.2 else[]
theorem hW{s:Sd}(h:aP s):Dv s:=by
 have h1:A1 (FJ s)=0:=by
  unfold aP KV at h
  split at h
  · omega
  · omega
 have h2:FJ s=[]:=DG h1;unfold FJ at h2
 split at h2
 · exact absurd h2 B9
 · intro f C
   exact C7 λe=>(T6 _).1 h2 f C (.inr e)
theorem PX{s:Sd}(h:CF s){ix:List Int}{f:Nat}(hf:f<A1 s.2.1):A1 (CI s ix f).2.1<=100:=by
 have h1:=cS (FG s f) (D8 s ix f) (A1 (A0 s.2.1 f zA).2.1);have h2:=R8 s ix f (A1 (A0 s.2.1 f zA).2.1);have h3:=(h.2.1 f hf).1
 show List.length (FW s ix f _++EM s ix f _)<=_
 rw[BJ];have C:A1 (FW s ix f (A1 (A0 s.2.1 f zA).2.1))<=A1 (A0 s.2.1 f zA).2.1:=h1;omega
theorem kw{α:Type}{p:α->Prop}{l:List α}{k:Nat}{x:α}(h:∀y,y∈l->p y)(hx:p x):∀y,y∈y5 l k x->p y:=by
 intro y hy;unfold y5 at hy
 rcases Cy.1 hy with hy|hy
 · exact h y (HH hy)
 · rcases BY.1 hy with rfl|hy
   · exact hx
   · exact h y (IJ hy)
theorem Yv{s:Sd}(h:CF s):∀f,f<=A1 s.2.1->∀x,x∈EJ s f->A1 x.2.1<=100
  |0,_,x,hx=>absurd hx Bv
  |f+1,hf,x,hx=>kw (p:=λx:Fc=>A1 x.2.1<=100) (Yv h f A3) (PX h A3) x hx
end Bk
namespace Go.Proofs.YtlpflnindligbaaGreat
open Bk Go Tryz
attribute [local irreducible] GL GC GQ W OpV
section
variable{w0:AP}{h0:A4}(hs:MLe h0 (BE w0))
include hs
theorem on{vL:A2}{L:(List (List Int))}(rL:Cv.Is h0 vL L)(H0:A1 L<=100000)(H1:∀x,x∈L->A1 x<=100000):
 Ae 68 #[vL] w0 h0 (λh r=>Cv.Is h r L):=by
 refine BI 20 vL func68 hs ?_;refine nH ?_;refine yX 22 1 ?_;have ab:=RL.nil (ρ:=AS A9) (h:=h0);refine An (ι:=Nat×List (List Int)×A2×List A2×A4) (λ(i,D,C,H,mi)=>(MLe h0 mi/\(RL (AS A9) mi H D/\i<=A1 L/\D=L.take i),[(0,vL),(3,C),(4,vI ↑i)],[.gs 22 1 C (A1 D) H],mi,A1 L-i)) (0,[],(.slice none 0 0),[],h0) ?_ ?_
 · exact⟨AM,ab,A3,I⟩
 rintro⟨i,D,C,H,mi⟩ ⟨ao,J,bb,hD⟩
 refine yO ?_;have bd:=Yc H1 i;have ba:A1 D<=i:=by rw[hD,By];omega
 refine Bj (λan=>?_) λan=>?_
 ·
  refine AX ?_;refine lX (xI [] i underlying51 fH rL) λaw ak=>(lX (xA fH ak) λav aj=>(So 3 1 ?_));have aa:=RL.nil (ρ:=A9) (h:=mi);refine yY (A:=[]) (zN (ρ:=A9) (bytes:=8) underlying22 kT I I I I nP I I aa aj bO bO) I I I ?_
  rintro au az ⟨aq,rfl,ae⟩
  refine zQ (A:=[]) (ρ:=A9) ae ?_;intro h1 am Z;refine zE (zL (ρ:=(AS A9)) (m:=1) (xs:=[(([]:List Int)++(A0 L i []))]) (ps':=[(0,_)]) underlying51 sL I I I wC Al (zD I (AO (AA _) [] 0 dC) Z zO) CO nP) I I I ?_
  rintro ar ay ⟨ap,rfl,ad⟩
  refine zQ (A:=[]) (ρ:=(AS A9)) ad ?_;intro h2 bc U;refine yY (A:=[]) (zN (ρ:=(AS A9)) (bytes:=24) underlying51 sL I I I I nP I I J.up U bO bO) I I I ?_
  rintro ai ax ⟨ah,rfl,ac⟩
  refine Ak ?_;refine Ad ((i+1),(D++[(([]:List Int)++(A0 L i []))]),ai,ah,h2) ?_ ?_
  · exact⟨AM,ac,A3,by rw[hD,Fg];exact(XR [] O).symm⟩
  omega
 have ei:i=A1 L:=by omega
 refine uF ?_;refine xR (A:=[]) (ρ:=(AS A9)) J.up ?_;intro h1 am M;refine zC I I ?_;exact(Rp.Is.cast M (by rw[hD,ei,ER]))
theorem Wc{k m n j:Nat}{vs:A2}{s:Sq}(rs:(BT k m n j).Is h0 vs s)(H0:A1 s.2.1<=100000)(H1:∀f,f<A1 s.2.1->A1 (A0 s.2.1 f zA).2.1<=100000/\∀x,x∈(A0 s.2.1 f zA).2.1->A1 x<=100000):
 Ae 139 #[vs] w0 h0 (λh r=>(AS Cv).Is h r (uM s)):=by
 refine BI 23 vs func139 hs ?_;refine A5 ?_;refine nB rs λb1 ap ac=>(rX ?_);refine yX 51 1 ?_;have Z:=RL.nil (ρ:=AS (AS A9)) (h:=h0);refine An (ι:=Nat×List (List (List Int))×A2×List A2×A4) (λ(f,D,C,H,mf)=>(MLe h0 mf/\(RL Cv mf H D/\f<=A1 s.2.1/\D=qB (λf=>(A0 s.2.1 f zA).2.1) f),[(1,vP b1 0),(3,C),(4,vI ↑f)],[.gs 51 1 C (A1 D) H,.var b1 32 ap],mf,A1 s.2.1-f)) (0,[],(.slice none 0 0),[],h0) ?_ ?_
 · exact⟨AM,Z,A3,I⟩
 rintro⟨f,D,C,H,mf⟩ ⟨aq,J,be,hD⟩
 refine yO ?_;have bc:A1 D=f:=by rw[hD];exact xN _ _
 refine AR ?_;refine lX (xB kO (AQ (AT pH)) ac) λv7 r7=>(Ca (λao=>?_) λao=>?_)
 ·
  refine Af ?_;refine lX (xB kO (AQ (AT pH)) ac) λaz am=>(A7 ?_);refine lX (xI zA f underlying29 tT am) λay ak=>(lX (xF underlying53 sizeOf51 (AQ (AT pH)) ak) λax aj=>(lX (xA cM aj) λaw ai=>(cL (AU I) call68 (λw hs=>on hs ai (by first|omega|exact(H1 f O).1|exact(H1 f O).2) (by first|omega|exact(H1 f O).1|exact(H1 f O).2)) λav h1 an ah=>(zE (zL (ρ:=Cv) (m:=1) (xs:=[(((A0 s.2.1 f zA).2).1)]) (ps':=[(0,_)]) underlying157 Vd I I I wC Al (zD I (AO (AA _) [] 0 dC) ah zO) CO nP) I I I ?_))))
  rintro au bb ⟨ar,rfl,ab⟩
  refine zQ (A:=[]) (ρ:=Cv) ab ?_;intro h2 bd U;refine yY (A:=[]) (zN (ρ:=Cv) (bytes:=24) underlying157 Vd I I I I nP I I J.up U bO bO) I I I ?_
  rintro ae ba ⟨ad,rfl,aa⟩
  refine Ak ?_;refine Ad ((f+1),(D++[(((A0 s.2.1 f zA).2).1)]),ae,ad,h2) ?_ ?_
  · exact⟨AM,aa,A3,by rw[hD];rfl⟩
  omega
 have ef:f=A1 s.2.1:=by omega
 refine uF ?_;refine xR (A:=[]) (ρ:=Cv) J.up ?_;intro h1 an M;refine zC I I ?_;exact(Rp.Is.cast M (by rw[hD,ef];rfl))
theorem UP{k m n j:Nat}{vs:A2}{s:Sq}(rs:(BT k m n j).Is h0 vs s){f:Int}(hf1:-9223372036854775808<=f)(hf2:f<9223372036854775808)(H0:0<=f)(H1:f<↑(A1 s.2.1))(H2:A1 (A0 s.2.1 f.toNat zA).2.1<=100000)(H3:∀l,l<A1 (A0 s.2.1 f.toNat zA).2.1->A1 (A0 (A0 s.2.1 f.toNat zA).2.1 l [])<=100000):
 Ae 80 #[vs,vI f] w0 h0 (λ_ r=>r=vB (DB s f.toNat)):=by
 refine B0 50 vs (vI f) func80 hs ?_;refine A5 ?_;refine nB rs λb2 ad J=>(AZ ?_);refine lX (xB kO (AQ (AT pH)) J) λv9 r9=>(A7 ?_);refine lX (xI zA f.toNat underlying29 tT r9) λbn au=>(lX (xF underlying53 sizeOf51 (AQ (AT pH)) au) λbm ar=>(lX (xA cM ar) λH D=>(vV ?_)));refine An (ι:=Nat×A4) (λ(l,U)=>(MLe h0 U/\(l<=A1 (A0 s.2.1 f.toNat zA).2.1/\∀u,u<l->NV (A1 s.1) (A0 (A0 s.2.1 f.toNat zA).2.1 u [])),[(2,vP b2 0),(5,H),(6,vI ↑l)],[.var b2 32 ad],U,A1 (A0 s.2.1 f.toNat zA).2.1-l)) (0,h0) ?_ ?_
 · exact⟨AM,A3,λu h=>by omega⟩
 rintro⟨l,U⟩ ⟨ay,bq,Z⟩
 refine yO ?_;refine Bj (λac=>?_) λac=>?_
 ·
  refine vV ?_;refine An (ι:=Nat×A4) (λ(i,M)=>(MLe U M/\(i<=A1 (A0 (A0 s.2.1 f.toNat zA).2.1 l [])/\∀u,u<i->0<=A0 (A0 (A0 s.2.1 f.toNat zA).2.1 l []) u 0/\A0 (A0 (A0 s.2.1 f.toNat zA).2.1 l []) u 0<↑(A1 s.1)),[(2,vP b2 0),(5,H),(6,vI ↑l),(7,vI ↑i)],[.var b2 32 ad],M,A1 (A0 (A0 s.2.1 f.toNat zA).2.1 l [])-i)) (0,U) ?_ ?_
  · exact⟨AM,A3,λu h=>by omega⟩
  rintro⟨i,M⟩ ⟨ax,br,BA⟩
  refine yO ?_;have bp:=H3 l O;refine AZ ?_;refine lX (xI [] l underlying51 fH D) λbl aq=>(lX (xA fH aq) λbk bo=>(Ca (λab=>?_) λab=>?_))
  ·
   refine AR ?_;refine zG 21 _ [] (Ah 0 21 []) zX nX (xU Ac) nX (λr hr=>hr) (A5 ?_);refine wX I (xI [] l underlying51 fH D) λbj ap=>(wX I (xA fH ap) λbi ao=>(A7 ?_));refine wX I (xI (0:Int) i underlying22 B8 ao) λbh an=>(wX I (xA B8 an) λbg am=>?_);obtain⟨rfl,ba,aw⟩:=jV am;refine A5 ?_;refine qC ((A0 (A0 (((A0 s.2.1 f.toNat zA).2).1) l []) i (0:Int))<(0:Int)) (λC=>?_) (λC=>?_)
   ·
    rw[yU C];refine bs ?_;refine zC I I ?_;exact(yH (λe=>by have:=e l O i O;omega)).symm
   rw[yH C];refine yS I I I (λh' L' hh hR=>xK I) I (yS I I I (λh' L' hh hR=>xK I) I (oX I (xI [] l underlying51 fH D) λbf ak=>(oX I (xA fH ak) λbe aj=>(yS I I I (λh' L' hh hR=>xK I) I (oX I (xI (0:Int) i underlying22 B8 aj) λbd ai=>(oX I (xA B8 ai) λbc ah=>?_))))));obtain⟨rfl,az,av⟩:=jV ah;refine A7 ?_;refine oX I (xB uN (AT pH) J) λbb ae=>(yS I I I (λh' L' hh hR=>jK underlying28 I (ae.mono hh)) I (Ca (λaa=>?_) λaa=>?_))
   ·
    refine rX ?_;refine zC I I ?_;exact(yH (λe=>by have:=e l O i O;omega)).symm
   refine AX ?_;refine Ad ((i+1),M) ?_ ?_
   · exact⟨AM,A3,wZ (Q:=λu=>0<=A0 (A0 (A0 s.2.1 f.toNat zA).2.1 l []) u 0/\A0 (A0 (A0 s.2.1 f.toNat zA).2.1 l []) u 0<↑(A1 s.1)) BA O⟩
   omega
  refine uG ?_;refine Ad ((l+1),M) ?_ ?_
  · exact⟨AM,A3,wZ (Q:=λu=>NV (A1 s.1) (A0 (A0 s.2.1 f.toNat zA).2.1 u [])) Z (λu hu=>BA u O)⟩
  omega
 refine uG ?_;refine zC I I ?_;exact(yU (λu hu=>Z u O)).symm
theorem a4{k m n j:Nat}{vs:A2}{s:Sq}(rs:(BT k m n j).Is h0 vs s){f:Int}(hf1:-9223372036854775808<=f)(hf2:f<9223372036854775808)(H0:A1 s.1<=100000)(H1:∀f,f<A1 s.2.1->A1 (A0 s.2.1 f zA).2.1<=10000/\∀l,l<A1 (A0 s.2.1 f zA).2.1->A1 (A0 (A0 s.2.1 f zA).2.1 l [])<=10000):
 Ae 33 #[vs,vI f] w0 h0 (λh r=>(C1 (k+1)).Is h r (jP s f)):=by
 refine B0 65 vs (vI f) func33 hs ?_;refine A5 ?_;refine nB rs λb2 ao ac=>(AX ?_);refine gU 7 18 (vB ((f<(0:Int))\/((↑(A1 (s.2.1)):Int)<=f))) ?_ ?_
 ·
  refine zY (f<(0:Int)) (λhg=>?_) (λhg=>?_)
  ·
   refine gT hg I (Af ?_);refine Ay ?_;exact AV (vN hg)
  refine gF hg I (AR ?_);refine lX (xB kO (AQ (AT pH)) ac) λcu cw=>(AZ ?_);refine Ay ?_;exact AV (vO hg)
 refine uH (ι:=A4) 6 (λm_=>MLe h0 m_) (λ_=>[(24,vB (((f<(0:Int))\/((↑(A1 (s.2.1)):Int)<=f))\/(¬(DB s f.toNat)))),(1,vI f),(2,vP b2 0)]) (λ_=>[.var b2 32 ao]) (λm_=>m_) ?_ ?_
 ·
  refine zY ((f<(0:Int))\/((↑(A1 (s.2.1)):Int)<=f)) (λhg=>?_) (λhg=>?_)
  ·
   refine gT hg I (AZ ?_);refine zV h0 (MLe.refl _) ⟨?_,I,I,AW⟩ I I;exact AV (vN hg)
  refine gF hg I (A7 ?_);refine lX (xB jG pH ac) λct bu=>(AN ?_);refine cL (AK I I) call80 (λw hs=>UP hs bu O O O (by first|omega|exact Ao (H1 f.toNat O).1 dC|exactλl hl=>Ao ((H1 f.toNat O).2 l hl) dC) (by first|omega|exact Ao (H1 f.toNat O).1 dC|exactλl hl=>Ao ((H1 f.toNat O).2 l hl) dC) (by first|omega|exact Ao (H1 f.toNat O).1 dC|exactλl hl=>Ao ((H1 f.toNat O).2 l hl) dC)) λbh h1 ad bt=>?_;obtain rfl:bh=vB (DB s f.toNat):=bt;refine AF ?_;refine zV h1 ad ⟨?_,I,I,AW⟩ I I;exact AV (vO hg)
 intro M az;refine fM ?_;refine BB (λab=>?_) λab=>?_
 ·
  refine Af ?_;refine zC I I ?_;exact(Rp.Is.cast (tP _) (by exact(A8 (λe=>ab.elim (λh=>by omega) (λh=>h e.2))).symm))
 have ax:(0<=f/\f<↑(A1 s.2.1))/\DB s f.toNat:=by constructor;exact O;exact Br (λe=>ab (.inr e))
 have ay:∀l,l<A1 (A0 s.2.1 f.toNat zA).2.1->∀q,q<A1 (A0 (A0 s.2.1 f.toNat zA).2.1 l [])->0<=A0 (A0 (A0 s.2.1 f.toNat zA).2.1 l []) q 0/\A0 (A0 (A0 s.2.1 f.toNat zA).2.1 l []) q 0<↑(A1 s.1):=λl hl q hq=>ax.2 l hl q hq;have ba:=H1 f.toNat O;refine vV ?_;refine lX (xB kO (AQ (AT pH)) ac) λcq bs=>(A7 ?_);refine lX (xI zA f.toNat underlying29 tT bs) λcp br=>(lX (xF underlying53 sizeOf51 (AQ (AT pH)) br) λco bq=>(lX (xA cM bq) λap aw=>(vV ?_)));refine yX 28 1 ?_;have am:=RL.nil (ρ:=AS (AD (k+1))) (h:=M);refine An (ι:=Nat×List (List Tq)×A2×List A2×A4) (λ(l,D,C,H,ml)=>(MLe M ml/\(RL (Aq (k+1)) ml H D/\l<=A1 (A0 s.2.1 f.toNat zA).2.1/\D=Gq s f.toNat l),[(2,vP b2 0),(5,C),(6,ap),(7,vI ↑l)],[.gs 28 1 C (A1 D) H,.var b2 32 ao],ml,A1 (A0 s.2.1 f.toNat zA).2.1-l)) (0,[],(.slice none 0 0),[],M) ?_ ?_
 · exact⟨AM,am,A3,I⟩
 rintro⟨l,D,C,H,ml⟩ ⟨bz,aa,df,hD⟩
 refine yO ?_;have de:A1 D=l:=by rw[hD];exact xN _ _
 refine Bj (λbc=>?_) λbc=>?_
 ·
  refine y7 ?_;refine yX 43 9 ?_;have ak:=RL.nil (ρ:=Bd (AE (k+1))) (h:=ml);refine An (ι:=Nat×List Tq×A2×List A2×A4) (λ(q,YY,J,U,mq)=>(MLe ml mq/\(RL (AD (k+1)) mq U YY/\q<=A1 (A0 (A0 s.2.1 f.toNat zA).2.1 l [])/\YY=FO s.1 (A0 (A0 s.2.1 f.toNat zA).2.1 l []) q),[(2,vP b2 0),(5,C),(6,ap),(7,vI ↑l),(8,J),(9,vI ↑q)],[.gs 43 9 J (A1 YY) U,.gs 28 1 C (A1 D) H,.var b2 32 ao],mq,A1 (A0 (A0 s.2.1 f.toNat zA).2.1 l [])-q)) (0,[],(.slice none 0 0),[],ml) ?_ ?_
  · exact⟨AM,ak,A3,I⟩
  rintro⟨q,YY,J,U,mq⟩ ⟨bx,Z,dc,an⟩
  refine yO ?_;have dd:A1 YY=q:=by rw[an];exact xN _ _
  have bv:=ba.2 l O;refine AZ ?_;refine lX (xI [] l underlying51 fH aw) λcn bp=>(lX (xA fH bp) λcm cv=>(Ca (λbb=>?_) λbb=>?_))
  ·
   refine AF ?_;refine qM (A:=[]) 15 [] (Ah 0 12 [(12,.c),(13,.c),(14,.q)]) zX nX (xU Ac) nX (A5 ?_);refine wX I (xB uN (AT pH) ac) λcl bo=>(A5 ?_);refine wX I (xI [] l underlying51 fH aw) λck bn=>(wX I (xA fH bn) λcj bm=>(A7 ?_));refine wX I (xI (0:Int) q underlying22 B8 bm) λci bl=>(wX I (xA B8 bl) λch bk=>?_);obtain⟨rfl,ca,bw⟩:=jV bk;refine fL (F:=λv_=>C4 (AD k) mq v_ (A0 s.1 ((A0 (A0 (A0 s.2.1 f.toNat zA).2.1 l []) q 0).toNat) zT)) I (kW zT ((A0 (A0 (A0 s.2.1 f.toNat zA).2.1 l []) q 0).toNat) underlying28 zI I I bo (by(have h:=ay l O q O;omega)) (by(have h:=ay l O q O;omega)) nP) rW I ?_;intro cg bj;refine wX I (xA zI bj) λcf bi=>?_;refine AB I (tV (λX=>zL (ρ:=(AD (k+1))) (m:=1) (xs:=[(A0 s.1 ((A0 (A0 (A0 s.2.1 f.toNat zA).2.1 l []) q 0).toNat) zT)]) (ps':=[(0,_)]) underlying28 yA I I I (yN (zR O)) Al (zD I (AO (AA _) zT 0 dC) (bi.le (AI (k+1))) zO) Dm nP) I ?_)
   rintro ce db ⟨cc,rfl,av⟩
   refine AB I (vX (A:=[]) (ρ:=(AD (k+1))) av dK ?_);intro h1 ad aj;refine kP (A:=[]) (λX=>zN (ρ:=(AD (k+1))) (bytes:=168) underlying28 yA I I I I nP I I Z.up aj bO bO) I (yP BU) ?_
   rintro bg da ⟨be,rfl,au⟩
   refine Ak ?_;refine Ad ((q+1),(YY++[(A0 s.1 ((A0 (A0 (A0 s.2.1 f.toNat zA).2.1 l []) q 0).toNat) zT)]),bg,be,h1) ?_ ?_
   · exact⟨AM,au,A3,by rw[an];rfl⟩
   omega
  have eq:q=A1 (A0 (A0 s.2.1 f.toNat zA).2.1 l []):=by omega
  have bv:=ba.2 l O;refine AX ?_;refine zQ (A:=[]) (ρ:=(AD (k+1))) Z.up ?_;intro h1 ad ai;refine zE (zL (ρ:=(Aq (k+1))) (m:=1) (xs:=[YY]) (ps':=[(0,_)]) underlying61 fW I I I wC Al (zD I (AO (AA _) [] 0 dC) ai zO) CO nP) I I I ?_
  rintro cd cz ⟨cb,rfl,ar⟩
  refine zQ (A:=[]) (ρ:=(Aq (k+1))) ar ?_;intro h2 dh ah;refine yY (A:=[]) (zN (ρ:=(Aq (k+1))) (bytes:=24) underlying61 fW I I I I nP I I aa.up ah bO bO) I I I ?_
  rintro bf cy ⟨bd,rfl,aq⟩
  refine Ak ?_;refine Ad ((l+1),(D++[YY]),bf,bd,h2) ?_ ?_
  · exact⟨AM,aq,A3,by rw[hD,an,eq];rfl⟩
  omega
 have el:l=A1 (A0 s.2.1 f.toNat zA).2.1:=by omega
 refine uF ?_;refine xR (A:=[]) (ρ:=(Aq (k+1))) aa.up ?_;intro h1 ad ae;refine zC I I ?_;exact(Rp.Is.cast ae (by rw[hD,el];exact(AC ax).symm))
theorem di{m n k:Nat}{vpl:A2}{pl:Pq}(rpl:(Aj m n).Is h0 vpl pl){vl:A2}{l:(List Tq)}(rl:(Aq k).Is h0 vl l)(H0:k<=100000000)(H1:m<=100000000)(H2:n<=100000000)(H3:A1 l<=100000):
 Ae 189 #[vpl,vl] w0 h0 (λh r=>(Aq (k+1)).Is h r (Ik pl l (A1 l))):=by
 refine B0 23 vpl vl func189 hs ?_;refine A5 ?_;refine nB rpl λb2 ao ah=>(rX ?_);refine yX 43 9 ?_;have Z:=RL.nil (ρ:=Bd (AE (k+1))) (h:=h0);refine An (ι:=Nat×List Tq×A2×List A2×A4) (λ(i,D,C,H,mi)=>(MLe h0 mi/\(RL (AD (k+1)) mi H D/\i<=A1 l/\D=Ik pl l i),[(1,vl),(2,vP b2 0),(5,C),(6,vI ↑i)],[.gs 43 9 C (A1 D) H,.var b2 45 ao],mi,A1 l-i)) (0,[],(.slice none 0 0),[],h0) ?_ ?_
 · exact⟨AM,Z,A3,I⟩
 rintro⟨i,D,C,H,mi⟩ ⟨ap,J,ba,hD⟩
 refine yO ?_;have bc:A1 D=i:=by rw[hD];exact xN _ _
 refine Bj (λac=>?_) λac=>?_
 ·
  refine AF ?_;refine qM (A:=[]) 10 [] (Ah 0 6 [(6,.c),(7,.c),(8,.c),(9,.q)]) zX nX Ac nX (A7 ?_);refine wX I (xB qZ pH ah) λax am=>(A5 ?_);refine wX I (xI zT i underlying28 zI rl) λaw ak=>(wX I (xA zI ak) λav aj=>?_);refine AB I (sC (AK I I) call67 (λw hs=>m2 hs am aj O O) λau h1 an ai=>?_);refine AB I (tV (λX=>zL (ρ:=(AD (k+1))) (m:=1) (xs:=[jO pl (A0 l i zT)]) (ps':=[(0,_)]) underlying28 yA I I I (yN (zR O)) Al (zD I (AO (AA _) zT 0 dC) ai zO) Dm nP) I ?_)
  rintro ar az ⟨aq,rfl,ab⟩
  refine AB I (vX (A:=[]) (ρ:=(AD (k+1))) ab dK ?_);intro h2 bb U;refine kP (A:=[]) (λX=>zN (ρ:=(AD (k+1))) (bytes:=168) underlying28 yA I I I I nP I I J.up U bO bO) I (yP BU) ?_
  rintro ae ay ⟨ad,rfl,aa⟩
  refine Ak ?_;refine Ad ((i+1),(D++[jO pl (A0 l i zT)]),ae,ad,h2) ?_ ?_
  · exact⟨AM,aa,A3,by rw[hD];rfl⟩
  omega
 have ei:i=A1 l:=by omega
 refine uF ?_;refine xR (A:=[]) (ρ:=(AD (k+1))) J.up ?_;intro h1 an M;refine zC I I ?_;exact(Rp.Is.cast M (by rw[hD,ei]))
theorem t5{m n k:Nat}{vpl:A2}{pl:Pq}(rpl:(Aj m n).Is h0 vpl pl){vL:A2}{L:(List (List Tq))}(rL:(C1 k).Is h0 vL L)(H0:k<=100000000)(H1:m<=100000000)(H2:n<=100000000)(H3:A1 L<=100000)(H4:∀l,l<A1 L->A1 (A0 L l [])<=10000):
 Ae 131 #[vpl,vL] w0 h0 (λh r=>(C1 (k+1)).Is h r (N9 pl L (A1 L))):=by
 refine B0 23 vpl vL func131 hs ?_;refine A5 ?_;refine nB rpl λb2 ao ah=>(rX ?_);refine yX 28 1 ?_;have Z:=RL.nil (ρ:=AS (AD (k+1))) (h:=h0);refine An (ι:=Nat×List (List Tq)×A2×List A2×A4) (λ(i,D,C,H,mi)=>(MLe h0 mi/\(RL (Aq (k+1)) mi H D/\i<=A1 L/\D=N9 pl L i),[(1,vL),(2,vP b2 0),(5,C),(6,vI ↑i)],[.gs 28 1 C (A1 D) H,.var b2 45 ao],mi,A1 L-i)) (0,[],(.slice none 0 0),[],h0) ?_ ?_
 · exact⟨AM,Z,A3,I⟩
 rintro⟨i,D,C,H,mi⟩ ⟨ap,J,ba,hD⟩
 refine yO ?_;have bc:A1 D=i:=by rw[hD];exact xN _ _
 refine Bj (λac=>?_) λac=>?_
 ·
  refine AF ?_;refine qM (A:=[]) 10 [] (Ah 0 6 [(6,.c),(7,.c),(8,.c),(9,.q)]) zX nX Ac nX (A7 ?_);refine wX I (xB qZ pH ah) λax am=>(A5 ?_);refine wX I (xI [] i underlying61 uN rL) λaw ak=>(wX I (xA uN ak) λav aj=>?_);refine AB I (sC (AK I I) call189 (λw hs=>di hs am aj O O O (by first|omega|exact Ao (H4 i O) dC)) λau h1 an ai=>?_);refine AB I (tV (λX=>zL (ρ:=(Aq (k+1))) (m:=1) (xs:=[Ik pl (A0 L i []) (A1 (A0 L i []))]) (ps':=[(0,_)]) underlying61 fW I I I wC Al (zD I (AO (AA _) [] 0 dC) ai zO) CO nP) I ?_)
  rintro ar az ⟨aq,rfl,ab⟩
  refine AB I (vX (A:=[]) (ρ:=(Aq (k+1))) ab dK ?_);intro h2 bb U;refine kP (A:=[]) (λX=>zN (ρ:=(Aq (k+1))) (bytes:=24) underlying61 fW I I I I nP I I J.up U bO bO) I (yP BU) ?_
  rintro ae ay ⟨ad,rfl,aa⟩
  refine Ak ?_;refine Ad ((i+1),(D++[Ik pl (A0 L i []) (A1 (A0 L i []))]),ae,ad,h2) ?_ ?_
  · exact⟨AM,aa,A3,by rw[hD];rfl⟩
  omega
 have ei:i=A1 L:=by omega
 refine uF ?_;refine xR (A:=[]) (ρ:=(Aq (k+1))) J.up ?_;intro h1 an M;refine zC I I ?_;exact(Rp.Is.cast M (by rw[hD,ei]))
theorem WR{k m n j:Nat}{vs:A2}{s:Sq}(rs:(BT k m n j).Is h0 vs s){f:Nat}(H0:k<=1000)(H1:m<=100000)(H2:n<=100000)(H3:A1 s.1<=100000)(H4:∀f,f<A1 s.2.1->A1 (A0 s.2.1 f zA).2.1<=10000/\∀l,l<A1 (A0 s.2.1 f zA).2.1->A1 (A0 (A0 s.2.1 f zA).2.1 l [])<=10000)(H5:f<A1 s.2.1)(H6:A1 s.2.1<=100000):
 Ae 65 #[vs,vI ↑f] w0 h0 (λh r=>(C1 (k+2)).Is h r (sS s f)):=by
 have C:=ft (s:=s) (f:=↑f) H4;refine B0 15 vs (vI ↑f) func65 hs ?_;refine A5 ?_;refine nB rs λb2 ah H=>(AF ?_);refine zG 11 _ [] (Ah 0 8 [(8,.c),(9,.c),(10,.q)]) zX nX Ac nX (λr hr=>hr) (A7 ?_);refine wX I (xB kO (AQ (AT pH)) H) λv6 r6=>(A7 ?_);refine wX I (xI zA f underlying29 tT r6) λv8 r8=>(wX I (xF underlying53 sizeOf45 (AT pH) r8) λv9 r9=>(wX I (xA qZ r9) λac U=>(wX I (xB jG pH H) λab M=>(A7 ?_))));refine AB I (sC (AK I I) call33 (λw hs=>a4 hs M O O (by first|omega|exact H4) (by first|omega|exact H4)) λaa h1 ae J=>?_);refine AB I (sC (AK I I) call131 (λw hs=>t5 hs U.up J O O O (by first|omega|exact C.1|exactλl hl=>C.2 l) (by first|omega|exact C.1|exactλl hl=>C.2 l)) λZ h2 ad D=>?_);replace D:=Rp.Is.le D (Le.s (Le.s (AI (k+2))));refine AF ?_;refine zC I I ?_;exact D
theorem In{kind:Int}(hkind1:-9223372036854775808<=kind)(hkind2:kind<9223372036854775808){face:Int}(hface1:-9223372036854775808<=face)(hface2:face<9223372036854775808){loop:Int}(hloop1:-9223372036854775808<=loop)(hloop2:loop<9223372036854775808){edge:Int}(hedge1:-9223372036854775808<=edge)(hedge2:edge<9223372036854775808):
 Ae 194 #[vI kind,vI face,vI loop,vI edge] w0 h0 (λh r=>BS.Is h r (dg kind face loop edge)):=by
 refine kA (n:=14) (e:=[(0,vI kind),(1,vI face),(2,vI loop),(3,vI edge)]) (vs:=[vI kind,vI face,vI loop,vI edge]) func194 rfl rfl (bL rfl) hs BR (A5 ?_);refine nA (ρ:=BS) (X:=Bx) kJ (zW wT (zW wT (zW wT (zW wT wT)))) λb8 ab J=>(AX ?_);refine lX (xV (ρ:=BS) (xL (ps':=[(0,_),(1,_),(2,_),(3,_),(4,_)]) underlying207 kJ I I (Rt underlying207) ⟨I,I,I,I,I,I,I,I,I,I,AW⟩ I (zW wT (zW wT (zW wT (zW wT wT)))) (zD I (AT (AA _)) (vC O O) (zD I (AQ (AT (AA _))) (vC dC dC) (zD I (AQ (AQ (AT (AA _)))) (vC O O) (zD I (AQ (AQ (AQ (AT (AA _))))) (vC O O) (zD I (AQ (AQ (AQ (AQ (AA _))))) (vC O O) zO))))))) λaa M=>(zP (A:=[]) (uB sizeOf207 pH J M) λU H=>(AN ?_));refine xW (qV (t:=8) ee Ar I H) ?_;intro Z C D;refine yI (λE S=>zS I C E S) ?_;exact D
end
end Go.Proofs.YtlpflnindligbaaGreat
namespace Bk
open Classical
def pk(P:Nat->P2)(n:Nat):Prop:=∀i j k,i<j->j<k->k<n->0<cr (P i) (P j) (P k)
def lp(t:Rat)(a b:P2):P2:=(a.1+t*(b.1-a.1),a.2+t*(b.2-a.2))
def ex(P:Nat->P2)(n m:Nat):P2:=P (m%n)
def m0(s:Nat->Int)(n m:Nat):Prop:=s m*s ((m+1)%n)<0
def QT(w:Rat×Rat×Rat)(p:P2):Rat:=w.1+w.2.1*p.1+w.2.2*p.2
section
variable {s:Nat->Int}{n:Nat}
end
structure vz(P:Nat->P2)(n:Nat)(t:Nat->Rat)(s:Nat->Int)(w:Rat×Rat×Rat):Prop where
 h3:3<=n
 tri:pk P n
 per:∀m,t (m%n)=t m
 cross:∀m,m<n->m0 s n m->(0<t m/\t m<1)/\QT w (lp (t m) (P m) (P ((m+1)%n)))=0
 neg:∀m,m<n->(s m<0↔QT w (P m)<0)
 zero:∀m,m<n->(s m=0↔QT w (P m)=0)
section
variable {P:Nat->P2}{n:Nat}{t:Nat->Rat}{s:Nat->Int}{w:Rat×Rat×Rat}
def cx(u v:P2):Rat:=u.1*v.2-v.1*u.2
end
section
variable {P:Nat->P2}{n:Nat}{t:Nat->Rat}{s:Nat->Int}{w:Rat×Rat×Rat}
end
def CL(pl:Pl)(p:Pt):P2:=pr p (As pl.1) (At pl.1)
def IV(pl:Pl)(l:List Pt):Prop:=
 (3<=A1 l/\¬pl.1=zT)/\(∀m,m<A1 l->B7 pl (gp l m)=0)/\∀m k,m<A1 l->2<=k->k<A1 l->0<Ai (CL pl (gp l m)) (CL pl (nx l m)) (CL pl (gp l ((m+k)%A1 l)))
def FF(a b c:Pt):Rat:=wL a (xS b c)
theorem mm{pl:Pl}{a b c:Pt}(hn:¬pl.1=zT)(ha:B7 pl a=0)(hb:B7 pl b=0)(hc:B7 pl c=0):yK (wL (xS (qX b a) (qX c a)) pl.1)=Ai (CL pl a) (CL pl b) (CL pl c):=by
 have C:¬pl.1.at (Bn pl.1)=0:=λe=>hn ((r5 _).1 e);have h1:=o3 pl (jO pl a) (jO pl b) (jO pl c) C;rw[Pb C ha,Pb C hb,Pb C hc,Tw] at h1;exact h1.symm
theorem m8(a b c n:Pt):wL (xS (qX b a) (qX c a)) n=FF (qX b a) (qX c a) n:=by
 unfold FF wL xS qX;grind
end Bk
namespace Bk
open Go Go.RowKit
open Classical
theorem SA{α:Type}{ρ:Rp α}{h:A4}{v:A2}{xs:List α}(s:(AS ρ).Is h v xs):∃a m cap,v=.slice a m cap:=by
 obtain⟨a,cap,e⟩:=Zl s;exact⟨a,_,cap,e⟩
theorem R2{α:Type}{ρ:Rp α}{h:A4}{v:A2}{xs:List α}(s:(AS ρ).Is h v xs)(hk:0<ρ.n)(hn:∃m cap,v=.slice none m cap):xs=[]:=by
 obtain⟨ds,⟨a,cap,e,h1,h2,h3,J⟩,r⟩:=Io s;obtain⟨m,H,D⟩:=hn;rw[e] at D
 injection D with e1 e2 e3
 refine DG ?_
 rcases KX (A1 ds) with h0|h0
 · rw[h0] at h3
   rcases Nat.mul_eq_zero.1 h3.symm with h5|h5
   · exact h5
   · omega
 · obtain⟨b,o,C,_⟩:=J 0 h0
   rw[e1] at C;exact absurd C B9
theorem SO{k:Nat}{h:A4}{v:A2}{p:T3 Rat}(s:(Bd (AE k)).Is h v p):lq p.x<=k/\lq p.y<=k/\lq p.z<=k:=by
 obtain⟨cs,⟨a,b,_,H,c,d,_,D,C⟩,_⟩:=s;exact⟨H.2,D.2,C.2⟩
theorem Xt{K k:Nat}{h:A4}{v:A2}{p:T3 Rat}(s:(Bd (AE K)).Is h v p)(h1:lq p.x<=k)(h2:lq p.y<=k)(h3:lq p.z<=k):(Bd (AE k)).Is h v p:=by
 obtain⟨cs,⟨a,b,e,H,c,d,M,D,C⟩,J⟩:=s;exact⟨cs,⟨a,b,e,⟨H.1,h1⟩,c,d,M,⟨D.1,h2⟩,⟨C.1,h3⟩⟩,J⟩
theorem Re{α:Type}{d:α}{a b:List α}(hl:A1 a=b.length)(h:∀u,u<b.length->A0 a u d=b.getD u d):a=b:=by
 refine LA hl λq h1 h2=>?_;have:=h q h2;rw[Au,Au,BV h1,BV h2] at this;exact this
theorem Pg{a b:Rat}(h:¬(¬Bs a\/¬Bs b)):(Bs a/\Bs b)/\(-72057594037927936<=Be a*Be b/\Be a*Be b<=72057594037927936):=by
 have h1:Bs a/\Bs b:=by
  constructor
  · exact Br λe=>h (.inl e)
  · exact Br λe=>h (.inr e)
 have Z:=(rU h1.1).2;have U:=(rU h1.2).2;refine⟨h1,?_⟩;have C:∀{x y:Int},0<=x->x<268435456->0<=y->y<268435456->0<=x*y/\x*y<=72057594037927936:=by
  intro x y hx H hy D;have M:=Iw hx hy;have J:x*y<=268435456*268435456:=Int.mul_le_mul A3 A3 hy A3;omega
 generalize Be a=u at *;generalize Be b=v at *
 rcases Mp 0 u with hu|hu<;>rcases Mp 0 v with hv|hv
 · have:=C hu A3 hv A3;omega
 · have:=C hu A3 (y:=-v) A3 A3
   rw[Int.mul_neg] at this;omega
 · have:=C (x:=-u) A3 A3 hv A3
   rw[Lo] at this;omega
 · have:=C (x:=-u) (y:=-v) A3 A3 A3 A3
   rw[Int.neg_mul_neg] at this;omega
theorem es{s:Pl}{p:Pt}(hx:Bs s.1.x/\Bs p.x)(hy:Bs s.1.y/\Bs p.y)(hz:Bs s.1.z/\Bs p.z)(hd:Bs s.2):GF ((0:Int)+Be s.1.x*Be p.x+Be s.1.y*Be p.y+Be s.1.z*Be p.z-Be s.2)=B7 s p:=by
 rw[<-mV];unfold B7 Cr wL
 congr 1
 rw[Et,Dn,Dn,Dn,Dq,Dq,Dq];rw[<-(rU hx.1).1,<-(rU hx.2).1,<-(rU hy.1).1,<-(rU hy.2).1,<-(rU hz.1).1,<-(rU hz.2).1,<-(rU hd).1];have e:((0:Int):Rat)=0:=I;rw[e];grind
theorem vo(s:Pl)(p:Pt):wA (wL s.1 p) s.2=B7 s p:=SG _ _
theorem Ui{L:List (List Pt)}{n m:Nat}(hm:m<A1 L)(h:∀x,x∈L->A1 x<=n):A1 (A0 L m [])<=n:=by
 rw[Au,BV hm];exact h _ (Ep hm)
theorem ih{a s:Int}{p:Prop}(h:0<a↔p)(h0:0<=a):(0<max a s↔(p\/0<s))/\0<=max a s:=by rw[<-h];omega
theorem ry{a s:Int}{p:Prop}(h:a<0↔p)(h0:a<=0):(min a s<0↔(p\/s<0))/\min a s<=0:=by rw[<-h];omega
end Bk
