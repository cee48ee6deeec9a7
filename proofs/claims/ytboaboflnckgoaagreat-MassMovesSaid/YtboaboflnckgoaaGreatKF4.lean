/- Texts that the proof needs, part 4. -/
import Derived.Test.YtboaboflnckgoaaGreatKF3
set_option linter.unusedVariables false
set_option linter.unusedSimpArgs false
noncomputable section
set_option maxRecDepth 10000
set_option maxHeartbeats 1000000
namespace Go.Proofs.YtboaboflnckgoaaGreat
open Bk Go Tryz
attribute [local irreducible] GL GC GQ W OpV
section
variable{w0:World}{h0:Mem}(hs:MLe h0 (mem w0))
include hs
theorem pO{s:Prop}{vn vd:Value}{xs ys:List Nat}(hn:Us .u32 h0 vn xs)(hd:Us .u32 h0 vd ys)(hl:xs.length<=500000000000)(hl':ys.length<=500000000000)(hd0:val ys≠0):
 Calls prog 46 #[vB s,vn,vd] w0 (Ret w0 h0 (λh r=>vD h r (mkRat (sg s (val xs)) (val ys)))):=by
 have bc:=vZ hn.lt;have bb:=vZ hd.lt;refine cb3 55 (vB s) vn vd func46 hs ?_;refine go2 ?_;refine zH (wJ (cs:=[vB ((0:Rat).num<0),.slice none 0 0,.slice none 0 0]) yR I (by simp only[zb];rfl)) I I I ?_;intro v6 r6 ao;obtain⟨b6,rfl,rfl⟩:=ao;refine go5 ?_;refine cL (ev1 I) call91 (λw hs=>tS hs hn oM) λv9 h1 av D=>(go1 ?_);replace hd:=hd.mono av;refine cL (ev1 I) call91 (λw hs=>tS hs hd oM) λai h2 au G=>?_;replace D:=D.mono au;refine zKT (λan=>?_) λan=>?_
 ·
  refine go2 ?_;refine gv (yV (ps':=[]) (vs:=[vB ((0:Rat).num<0),.slice none 0 0,.slice none 0 0]) underlying26 yR I (uE underlying26) trivial (by simp only[zb];exact uT)) I (xY (A:=[]) (r':=.var b6 26 [vB ((0:Rat).num<0),.slice none 0 0,.slice none 0 0]) (zJ (k:=0) (cs:=[_,_,_]) (vs:=[_,_,_]) I I I I yC (bL I)) I I I (go4 ?_));refine yI (λE S=>zS I (xR (cs:=[_,_,_]) mh0 underlying26 I yC I) E S) ?_;have e:val xs=0:=zdu λe=>by have:=yQ.2 e;omega
  rw[e,zBW];exact vD.zero _
 have ad:val xs≠0:=yQ.1 oM;have bd:Nat.gcd (val xs) (val ys)≠0:=ymi (yhe _ oM);refine go6 ?_;refine cL (ev2 I I) call92 (λw hs=>yAO hs D G oM oM) λay h3 aa M=>?_;have ar:=j8 ((val (xs))) ((val (ys)));refine go9 ?_;refine gU 6 27 (vB (((↑(zB (Nat.gcd ((val (xs))) ((val (ys))))).length:Int)≠(1:Int))\/(((zB (Nat.gcd ((val (xs))) ((val (ys))))).getD (0) 0)≠(1:Nat)))) ?_ ?_
 ·
  refine yK ((↑(zB (Nat.gcd ((val (xs))) ((val (ys))))).length:Int)≠(1:Int)) (λO=>?_) (λO=>?_)
  ·
   refine gT O I (go6 ?_);refine gqU ?_;exact y2e (uL O)
  refine gF O I (go3 ?_);refine gv (yD (q:=0) (0) underlying22 sizeOf127 I I M I oM) I (go3 ?_);refine gv (tT (k:=.u32) (q:=1) I I) I (go2 ?_);refine gqU ?_;exact y2e (uM O)
 refine gc2 (λab=>?_) λab=>?_
 ·
  refine go4 ?_;replace D:=D.mono aa;refine cL (ev2 I I) call93 (λw hs=>zJK hs D M oM oM) λax h4 am ah=>?_;obtain⟨ac,ba,rfl,H,ah⟩:=ah;have aq:=zW (zki ((val (xs))) ((Nat.gcd ((val (xs))) ((val (ys))))));refine qE ?_;replace G:=G.mono (aa.trans am);replace M:=M.mono am;refine cL (ev2 I I) call93 (λw hs=>zJK hs G M oM oM) λaw h5 ak ae=>?_;obtain⟨aj,az,rfl,U,ae⟩:=ae;have ap:=zW (zki ((val (ys))) ((Nat.gcd ((val (xs))) ((val (ys))))));refine pV ?_;refine gU 6 50 (vB (((↑(zB (((val (ys)))/((Nat.gcd ((val (xs))) ((val (ys))))))).length:Int)=(1:Int))/\(((zB (((val (ys)))/((Nat.gcd ((val (xs))) ((val (ys))))))).getD (0) 0)=(1:Nat)))) ?_ ?_
  ·
   refine yK ((↑(zB (((val (ys)))/((Nat.gcd ((val (xs))) ((val (ys))))))).length:Int)=(1:Int)) (λO=>?_) (λO=>?_)
   ·
    refine gT O I (go3 ?_);refine gv (yD (q:=0) (0) underlying22 sizeOf127 I I U I oM) I (go3 ?_);refine gv (fU (k:=.u32) (q:=1) I I) I (go2 ?_);refine gqU ?_;exact y2e (wE O)
   refine gF O I (go6 ?_);refine gqU ?_;exact y2e (wG O)
  refine gc2 (λJ=>?_) λJ=>?_
  ·
   refine go9 ?_;replace H:=H.mono ak;refine gv (yV (ps':=[(0,_),(1,_),(2,_)]) (vs:=[vB s,ac,.slice none 0 0]) underlying26 yR I (uE underlying26) e6z (xN (A:=[]) (B:=[_]) (C:=[_,_]) (cs:=[_]) (off:=0) (size:=1) I I I I I (xN (A:=[_]) (B:=[_]) (C:=[_]) (cs:=[_]) (off:=1) (size:=1) I I I I H.cells (xN (A:=[_,_]) (B:=[_]) (C:=[]) (cs:=[_]) (off:=2) (size:=1) I I I I I uT)))) I (xY (A:=[]) (r':=.var b6 26 [vB s,ac,.slice none 0 0]) (zJ (k:=0) (cs:=[_,_,_]) (vs:=[_,_,_]) I I I (ocr I (ocu H (ocr I oc0))) yC (bL I)) I I I (go3 ?_));refine yI (λE S=>zS I (xR (cs:=[_,_,_]) mh0 underlying26 I yC I) E S) ?_;exact vD.fin1 ad hd0 H J
  refine go7 ?_;replace H:=H.mono ak;refine gv (yV (ps':=[(0,_),(1,_),(2,_)]) (vs:=[vB s,ac,aj]) underlying26 yR I (uE underlying26) e6z (xN (A:=[]) (B:=[_]) (C:=[_,_]) (cs:=[_]) (off:=0) (size:=1) I I I I I (xN (A:=[_]) (B:=[_]) (C:=[_]) (cs:=[_]) (off:=1) (size:=1) I I I I H.cells (xN (A:=[_,_]) (B:=[_]) (C:=[]) (cs:=[_]) (off:=2) (size:=1) I I I I U.cells uT)))) I (xY (A:=[]) (r':=.var b6 26 [vB s,ac,aj]) (zJ (k:=0) (cs:=[_,_,_]) (vs:=[_,_,_]) I I I (ocr I (ocu H (ocu U oc0))) yC (bL I)) I I I (go3 ?_));refine yI (λE S=>zS I (xR (cs:=[_,_,_]) mh0 underlying26 I yC I) E S) ?_;exact vD.fin ad hd0 H U J
 replace G:=G.mono aa;refine go8 ?_;refine gU 6 50 (vB (((↑(zB (val (ys))).length:Int)=(1:Int))/\(((zB (val (ys))).getD (0) 0)=(1:Nat)))) ?_ ?_
 ·
  refine yK ((↑(zB (val (ys))).length:Int)=(1:Int)) (λO=>?_) (λO=>?_)
  ·
   refine gT O I (go3 ?_);refine gv (yD (q:=0) (0) underlying22 sizeOf127 I I G I oM) I (go3 ?_);refine gv (fU (k:=.u32) (q:=1) I I) I (go2 ?_);refine gqU ?_;exact y2e (wE O)
  refine gF O I (go6 ?_);refine gqU ?_;exact y2e (wG O)
 refine gc2 (λJ=>?_) λJ=>?_
 ·
  refine go9 ?_;replace D:=D.mono aa;refine gv (yV (ps':=[(0,_),(1,_),(2,_)]) (vs:=[vB s,v9,.slice none 0 0]) underlying26 yR I (uE underlying26) e6z (xN (A:=[]) (B:=[_]) (C:=[_,_]) (cs:=[_]) (off:=0) (size:=1) I I I I I (xN (A:=[_]) (B:=[_]) (C:=[_]) (cs:=[_]) (off:=1) (size:=1) I I I I D.cells (xN (A:=[_,_]) (B:=[_]) (C:=[]) (cs:=[_]) (off:=2) (size:=1) I I I I I uT)))) I (xY (A:=[]) (r':=.var b6 26 [vB s,v9,.slice none 0 0]) (zJ (k:=0) (cs:=[_,_,_]) (vs:=[_,_,_]) I I I (ocr I (ocu D (ocr I oc0))) yC (bL I)) I I I (go3 ?_));refine yI (λE S=>zS I (xR (cs:=[_,_,_]) mh0 underlying26 I yC I) E S) ?_;have Z:=zGR ab;exact vD.fin1 ad hd0 (by rw[Z,z2e];exact D) (by rw[Z,z2e];exact J)
 refine go7 ?_;replace D:=D.mono aa;refine gv (yV (ps':=[(0,_),(1,_),(2,_)]) (vs:=[vB s,v9,ai]) underlying26 yR I (uE underlying26) e6z (xN (A:=[]) (B:=[_]) (C:=[_,_]) (cs:=[_]) (off:=0) (size:=1) I I I I I (xN (A:=[_]) (B:=[_]) (C:=[_]) (cs:=[_]) (off:=1) (size:=1) I I I I D.cells (xN (A:=[_,_]) (B:=[_]) (C:=[]) (cs:=[_]) (off:=2) (size:=1) I I I I G.cells uT)))) I (xY (A:=[]) (r':=.var b6 26 [vB s,v9,ai]) (zJ (k:=0) (cs:=[_,_,_]) (vs:=[_,_,_]) I I I (ocr I (ocu D (ocu G oc0))) yC (bL I)) I I I (go3 ?_));refine yI (λE S=>zS I (xR (cs:=[_,_,_]) mh0 underlying26 I yC I) E S) ?_;have Z:=zGR ab;exact vD.fin ad hd0 (by rw[Z,z2e];exact D) (by rw[Z,z2e];exact G) (by rw[Z,z2e];exact J)
theorem zCV{n:Int}(hn1:-9223372036854775808<=n)(hn2:n<9223372036854775808):
 Calls prog 86 #[vI n] w0 (Ret w0 h0 (λh r=>∃u,r=.tuple #[u,vB (n<0)]/\Us .u32 h u (zB n.natAbs))):=by
 refine cb1 15 (vI n) func86 hs ?_;refine pV ?_;refine cnd (λC=>?_) λC=>?_
 ·
  refine go4 ?_;refine gv (mJ I oM oM) I (gv (zAD (p:=(-(n+1)).toNat) (k':=.u64) (W:=18446744073709551616) underlying2 underlying130 I I (y2e (zbi vI oM)) oM) I (gv (sR (k:=.u64) (q:=1) (W:=18446744073709551616) I I I I oM) I (cL (ev1 I) call131 (λw hs=>zAB hs oM) λM h1 H G=>(go6 ?_))));refine uQ I I I ?_;rw[wB C,show n.natAbs=(-(n+1)).toNat+1 by omega];exact⟨_,I,G⟩
 refine go5 ?_;refine gv (zAD (p:=n.toNat) (k':=.u64) (W:=18446744073709551616) underlying2 underlying130 I I (y2e (zbi vI oM)) oM) I (cL (ev1 I) call131 (λw hs=>zAB hs oM) λJ h1 H D=>(go5 ?_));refine uQ I I I ?_;rw[yZ C,show n.natAbs=n.toNat by omega];exact⟨_,I,D⟩
theorem zSZ{n:Int}(hn1:-9223372036854775808<=n)(hn2:n<9223372036854775808){d:Int}(hd1:-9223372036854775808<=d)(hd2:d<9223372036854775808):
 Calls prog 49 #[vI n,vI d] w0 (Ret w0 h0 (λh r=>∃u,r=.tuple #[u,vI (if d=0 then 3 else 0)]/\vD h u (kJ n d))):=by
 refine cb2 29 (vI n) (vI d) func49 hs ?_;refine go2 ?_;refine zH (wJ (cs:=[vB ((0:Rat).num<0),.slice none 0 0,.slice none 0 0]) yR I (by simp only[zb];rfl)) I I I ?_;intro v4 r4 ab;obtain⟨b4,rfl,rfl⟩:=ab;refine u6 (λC=>?_) λC=>?_
 ·
  refine go2 ?_;refine gv (yV (ps':=[]) (vs:=[vB ((0:Rat).num<0),.slice none 0 0,.slice none 0 0]) underlying26 yR I (uE underlying26) trivial (by simp only[zb];exact uT)) I (xY (A:=[]) (r':=.var b4 26 [vB ((0:Rat).num<0),.slice none 0 0,.slice none 0 0]) (zJ (k:=0) (cs:=[_,_,_]) (vs:=[_,_,_]) I I I I yC (bL I)) I I I (go5 ?_));refine yI (λE S=>vG I (xR (cs:=[_,_,_]) mh0 underlying26 I yC I) (qQ I) E S) ?_;rw[zau C,C,zGF];exact⟨_,I,vD.zero _⟩
 have ap:d.natAbs≠0:=by omega
 refine go5 ?_;refine cL (ev1 I) call86 (λw hs=>zCV hs oM oM) λaj h1 ao aa=>?_;obtain⟨am,rfl,D⟩:=aa;have ad:=fJ (n:=n) oM oM;refine qE ?_;refine cL (ev1 I) call86 (λw hs=>zCV hs oM oM) λai h2 ae Z=>?_;obtain⟨ak,rfl,U⟩:=Z;have ac:=fJ (n:=d) oM oM;refine jI ?_;refine gv (sQ underlying4 I I) I (go2 ?_);replace D:=D.mono ae;refine cL (ev3 I I I) call46 (λw hs=>pO hs D U oM oM (by first|(simp only[zE];omega)|(simp only[zE];first|exact z0i _|exact z4e (z0i _) (z0i _)|exact yki|assumption)|assumption)) λah h3 an G=>?_
 try simp only[zE] at G
 obtain⟨M,O,rfl,H,J⟩:=G;refine xY (A:=[]) (r':=.var b4 26 [vB ((mkRat (sg (¬((n<0)↔(d<0))) (((n).natAbs))) (((d).natAbs))).num<0),M,O]) (zJ (k:=0) (cs:=[_,_,_]) (vs:=[_,_,_]) I I I (ocr I (ocu H (ocu J oc0))) yC (bL I)) I I I (go4 ?_);refine yI (λE S=>vG I (xR (cs:=[_,_,_]) mh0 underlying26 I yC I) (qQ I) E S) ?_;rw[zae C,<-zMR C];exact⟨_,I,_,_,I,H,J⟩
theorem zLS{n:Int}(hn1:-9223372036854775808<=n)(hn2:n<9223372036854775808):
 Calls prog 39 #[vI n] w0 (Ret w0 h0 (λh r=>vD h r (n:Rat))):=by
 refine cb1 13 (vI n) func39 hs ?_;refine go2 ?_;refine zH (wJ (cs:=[vB ((0:Rat).num<0),.slice none 0 0,.slice none 0 0]) yR I (by simp only[zb];rfl)) I I I ?_;intro v2 r2 H;obtain⟨U,rfl,rfl⟩:=H;refine go5 ?_;refine cL (ev1 I) call86 (λw hs=>zCV hs oM oM) λZ h1 O G=>?_;obtain⟨J,rfl,D⟩:=G;have M:=fJ (n:=n) oM oM;refine jI ?_;refine gv (yV (ps':=[(0,_),(1,_)]) (vs:=[vB (n<0),J,.slice none 0 0]) underlying26 yR I (uE underlying26) e4z (xN (A:=[]) (B:=[_]) (C:=[_,_]) (cs:=[_]) (off:=0) (size:=1) I I I I I (xN (A:=[_]) (B:=[_]) (C:=[_]) (cs:=[_]) (off:=1) (size:=1) I I I I D.cells uT))) I (xY (A:=[]) (r':=.var U 26 [vB (n<0),J,.slice none 0 0]) (zJ (k:=0) (cs:=[_,_,_]) (vs:=[_,_,_]) I I I (ocr I (ocu D (ocr I oc0))) yC (bL I)) I I I (go3 ?_));refine yI (λE S=>zS I (xR (cs:=[_,_,_]) mh0 underlying26 I yC I) E S) ?_;exact vD.int D
theorem zCX{n:Int}(hn1:-9223372036854775808<=n)(hn2:n<9223372036854775808){d:Int}(hd1:-9223372036854775808<=d)(hd2:d<9223372036854775808):
 Calls prog 10 #[vI n,vI d] w0 (Ret w0 h0 (λh r=>vD h r (kJ n d))):=by
 refine cb2 14 (vI n) (vI d) func10 hs ?_;refine go2 ?_;refine zH (wJ (cs:=[vB ((0:Rat).num<0),.slice none 0 0,.slice none 0 0]) yR I (by simp only[zb];rfl)) I I I ?_;intro v4 r4 O;obtain⟨b4,rfl,rfl⟩:=O;refine go6 ?_;refine cL (ev2 I I) call49 (λw hs=>zSZ hs oM oM oM oM) λZ h1 aa J=>?_;obtain⟨_,rfl,G,H,rfl,C,D⟩:=J;have U:=zB0 (n:=n) (d:=d) oM oM oM oM;refine go3 ?_;refine zH (wJ (cs:=[vB ((0:Rat).num<0),.slice none 0 0,.slice none 0 0]) yR I (by simp only[zb];rfl)) I I I ?_;intro v5 r5 M;obtain⟨b5,rfl,rfl⟩:=M;refine xY (A:=[]) (r':=.var b5 26 [vB ((kJ n d).num<0),G,H]) (zJ (k:=0) (cs:=[_,_,_]) (vs:=[_,_,_]) I I I (ocr I (ocu C (ocu D oc0))) yC (bL I)) I I I (go6 ?_);refine xY (A:=[_]) (r':=.var b4 26 [vB ((kJ n d).num<0),G,H]) (zJ (k:=0) (cs:=[_,_,_]) (vs:=[_,_,_]) I I I (ocr I (ocu C (ocu D oc0))) yC (bL I)) I I I (go3 ?_);refine yI (λE S=>zS I (xR (cs:=[_,_,_]) mh1 underlying26 I yC I) E S) ?_;exact⟨_,_,I,C,D⟩
theorem zSX{qa:Rat}{vna vda:Value}(hna:Us .u32 h0 vna (zB qa.num.natAbs))(hda:Us .u32 h0 vda (zB (wM qa.den))){qb:Rat}{vnb vdb:Value}(hnb:Us .u32 h0 vnb (zB qb.num.natAbs))(hdb:Us .u32 h0 vdb (zB (wM qb.den)))(hqa:lq qa<=100000000000)(hqb:lq qb<=100000000000):
 Calls prog 15 #[.agg #[vB (qa.num<0),vna,vda],.agg #[vB (qb.num<0),vnb,vdb]] w0 (Ret w0 h0 (λ_ r=>r=vB (qa=qb))):=by
 have ad:=wT qa;have ah:=vO qa;have aj:=wQ qa;have ac:=wT qb;have ae:=vO qb;have ai:=wQ qb;refine cb2 26 (.agg #[vB (qa.num<0),vna,vda]) (.agg #[vB (qb.num<0),vnb,vdb]) func15 hs ?_;refine go2 ?_;refine zH (xS (cs:=[_,_,_]) I I) I I I ?_;intro v2 r2 ab;obtain⟨b2,rfl,rfl⟩:=ab;refine zH (xS (cs:=[_,_,_]) I I) I I I ?_;intro v3 r3 aa;obtain⟨b3,rfl,rfl⟩:=aa;refine go9 ?_;refine gv (iV underlying4 I I) I ?_;refine qM (ι:=Mem) 8 (λH=>MLe h0 H) (λ_=>[(17,vB (((qa.num<0)↔(qb.num<0))/\((sZ (qa.num.natAbs) (qb.num.natAbs))=(0:Int)))),(2,vP b2 0),(3,vP b3 0)]) (λ_=>[.var b3 26 [vB (qb.num<0),vnb,vdb],.var b2 26 [vB (qa.num<0),vna,vda]]) (λH=>H) ?_ ?_
 ·
  refine yK ((qa.num<0)↔(qb.num<0)) (λG=>?_) (λG=>?_)
  ·
   refine gT G I (go9 ?_);refine cL (ev2 I I) call56 (λw hs=>oI hs hna hnb) λam h1 J U=>?_;subst U;refine go4 ?_;refine zY h1 J ⟨?_,I,I,y3i⟩ I I;exact y2e (wE G)
  refine gF G I (go8 ?_);refine zY h0 (MLe.refl _) ⟨?_,I,I,y3i⟩ I I;exact y2e (wG G)
 intro D C;refine rN ?_;refine qM (ι:=Mem) 8 (λH=>MLe D H) (λ_=>[(25,vB ((((qa.num<0)↔(qb.num<0))/\((sZ (qa.num.natAbs) (qb.num.natAbs))=(0:Int)))/\((sZ ((wM qa.den)) ((wM qb.den)))=(0:Int))))]) (λ_=>[.var b3 26 [vB (qb.num<0),vnb,vdb],.var b2 26 [vB (qa.num<0),vna,vda]]) (λH=>H) ?_ ?_
 ·
  refine yK (((qa.num<0)↔(qb.num<0))/\((sZ (qa.num.natAbs) (qb.num.natAbs))=(0:Int))) (λG=>?_) (λG=>?_)
  ·
   refine gT G I (go9 ?_);replace hda:=hda.mono C;replace hdb:=hdb.mono C;refine cL (ev2 I I) call56 (λw hs=>oI hs hda hdb) λak h1 J O=>?_;subst O;refine go4 ?_;refine zY h1 J ⟨?_,y3i⟩ I I;exact y2e (wE G)
  refine gF G I (go8 ?_);refine zY D (MLe.refl _) ⟨?_,y3i⟩ I I;exact y2e (wG G)
 intro Z M;refine rN ?_;refine go4 ?_;refine zF I I ?_;exact tZ zYT
theorem zCW{qa:Rat}{vna vda:Value}(hna:Us .u32 h0 vna (zB qa.num.natAbs))(hda:Us .u32 h0 vda (zB (wM qa.den)))(hqa:lq qa<=100000000000):
 Calls prog 17 #[.agg #[vB (qa.num<0),vna,vda]] w0 (Ret w0 h0 (λ_ r=>r=vI (yU qa))):=by
 have H:=wT qa;have J:=vO qa;have M:=wQ qa;refine cb1 9 (.agg #[vB (qa.num<0),vna,vda]) func17 hs ?_;refine go2 ?_;refine zH (xS (cs:=[_,_,_]) I I) I I I ?_;intro v1 r1 G;obtain⟨O,rfl,rfl⟩:=G;refine zKT (λD=>?_) λD=>?_
 ·
  refine go7 ?_;refine zF I I ?_;rw[mA (bT D)]
 refine gc9 (λC=>?_) λC=>?_
 ·
  refine go7 ?_;refine zF I I ?_;rw[zBD C]
 refine go8 ?_;refine zF I I ?_;rw[zBC (zF3 D) C]
theorem zLQ{qa:Rat}{vna vda:Value}(hna:Us .u32 h0 vna (zB qa.num.natAbs))(hda:Us .u32 h0 vda (zB (wM qa.den)))(hqa:lq qa<=100000000000):
 Calls prog 31 #[.agg #[vB (qa.num<0),vna,vda]] w0 (Ret w0 h0 (λh r=>vD h r (-qa))):=by
 have H:=wT qa;have J:=vO qa;have M:=wQ qa;refine cb1 14 (.agg #[vB (qa.num<0),vna,vda]) func31 hs ?_;refine go2 ?_;refine zH (xS (cs:=[_,_,_]) I I) I I I ?_;intro v1 r1 G;obtain⟨U,rfl,rfl⟩:=G;refine zH (wJ (cs:=[vB ((0:Rat).num<0),.slice none 0 0,.slice none 0 0]) yR I (by simp only[zb];rfl)) I I I ?_;intro v2 r2 D;obtain⟨O,rfl,rfl⟩:=D;refine go7 ?_;refine gU 6 11 (vB ((¬(qa.num<0))/\((0:Int)<(↑(zB qa.num.natAbs).length:Int)))) ?_ ?_
 ·
  refine yK (¬(qa.num<0)) (λC=>?_) (λC=>?_)
  ·
   refine gT C I (qE ?_);refine gqU ?_;exact y2e (wE C)
  refine gF C I (go6 ?_);refine gqU ?_;exact y2e (wG C)
 refine go1 ?_;refine xY (A:=[_]) (r':=.var U 26 [vB ((¬(qa.num<0))/\((0:Int)<(↑(zB qa.num.natAbs).length:Int))),vna,vda]) (zJ (k:=0) (cs:=[_,_,_]) (vs:=[_]) I I I I zU4 (bL I)) I I I (go5 ?_);refine xY (A:=[]) (r':=.var O 26 [vB ((¬(qa.num<0))/\((0:Int)<(↑(zB qa.num.natAbs).length:Int))),vna,vda]) (zJ (k:=0) (cs:=[_,_,_]) (vs:=[_,_,_]) I I I (ocr I (ocu hna (ocu hda oc0))) yC (bL I)) I I I (go3 ?_);refine yI (λE S=>zS I (xR (cs:=[_,_,_]) mh0 underlying26 I yC I) E S) ?_;exact vD.negB hna hda
theorem zVO{qa:Rat}{vna vda:Value}(hna:Us .u32 h0 vna (zB qa.num.natAbs))(hda:Us .u32 h0 vda (zB (wM qa.den)))(hqa:lq qa<=100000000000):
 Calls prog 29 #[.agg #[vB (qa.num<0),vna,vda]] w0 (Ret w0 h0 (λh r=>vD h r (cM qa))):=by
 have G:=wT qa;have H:=vO qa;have J:=wQ qa;refine cb1 5 (.agg #[vB (qa.num<0),vna,vda]) func29 hs ?_;refine go2 ?_;refine zH (xS (cs:=[_,_,_]) I I) I I I ?_;intro v1 r1 D;obtain⟨O,rfl,rfl⟩:=D;refine zH (wJ (cs:=[vB ((0:Rat).num<0),.slice none 0 0,.slice none 0 0]) yR I (by simp only[zb];rfl)) I I I ?_;intro v2 r2 C;obtain⟨M,rfl,rfl⟩:=C;refine go5 ?_;refine xY (A:=[_]) (r':=.var O 26 [.bool false,vna,vda]) (zJ (k:=0) (cs:=[_,_,_]) (vs:=[_]) I I I I zU4 (bL I)) I I I (go5 ?_);refine xY (A:=[]) (r':=.var M 26 [.bool false,vna,vda]) (zJ (k:=0) (cs:=[_,_,_]) (vs:=[_,_,_]) I I I (ocr I (ocu hna (ocu hda oc0))) yC (bL I)) I I I (go3 ?_);refine yI (λE S=>zS I (xR (cs:=[_,_,_]) mh0 underlying26 I yC I) E S) ?_;exact vD.abs hna hda
theorem zFE{qa:Rat}{vna vda:Value}(hna:Us .u32 h0 vna (zB qa.num.natAbs))(hda:Us .u32 h0 vda (zB (wM qa.den))){qb:Rat}{vnb vdb:Value}(hnb:Us .u32 h0 vnb (zB qb.num.natAbs))(hdb:Us .u32 h0 vdb (zB (wM qb.den)))(hqa:lq qa<=100000000000)(hqb:lq qb<=100000000000):
 Calls prog 37 #[.agg #[vB (qa.num<0),vna,vda],.agg #[vB (qb.num<0),vnb,vdb]] w0 (Ret w0 h0 (λh r=>vD h r (qa+qb))):=by
 have bx:=wT qa;have ca:=vO qa;have cc:=wQ qa;have bw:=wT qb;have bz:=vO qb;have cb:=wQ qb;refine cb2 75 (.agg #[vB (qa.num<0),vna,vda]) (.agg #[vB (qb.num<0),vnb,vdb]) func37 hs ?_;refine go2 ?_;refine zH (xS (cs:=[_,_,_]) I I) I I I ?_;intro v2 r2 bo;obtain⟨b2,rfl,rfl⟩:=bo;refine zH (xS (cs:=[_,_,_]) I I) I I I ?_;intro v3 r3 bn;obtain⟨b3,rfl,rfl⟩:=bn;refine zH (wJ (cs:=[vB ((0:Rat).num<0),.slice none 0 0,.slice none 0 0]) yR I (by simp only[zb];rfl)) I I I ?_;intro v4 r4 bm;obtain⟨b4,rfl,rfl⟩:=bm;refine zGT (λay=>?_) λay=>?_
 ·
  refine go3 ?_;refine xY (A:=[]) (r':=.var b4 26 [vB (qb.num<0),vnb,vdb]) (zJ (k:=0) (cs:=[_,_,_]) (vs:=[_,_,_]) I I I (ocr I (ocu hnb (ocu hdb oc0))) yC (bL I)) I I I (go4 ?_);refine yI (λE S=>zS I (xR (cs:=[_,_,_]) mh0 underlying26 I yC I) E S) ?_;rw[bT ay,Rat.zero_add];exact⟨_,_,I,hnb,hdb⟩
 refine zGT (λax=>?_) λax=>?_
 ·
  refine go3 ?_;refine xY (A:=[]) (r':=.var b4 26 [vB (qa.num<0),vna,vda]) (zJ (k:=0) (cs:=[_,_,_]) (vs:=[_,_,_]) I I I (ocr I (ocu hna (ocu hda oc0))) yC (bL I)) I I I (go4 ?_);refine yI (λE S=>zS I (xR (cs:=[_,_,_]) mh0 underlying26 I yC I) E S) ?_;rw[bT ax,Rat.add_zero];exact⟨_,_,I,hna,hda⟩
 refine go3 ?_;refine zK 12 _ [] [(0,.q),(1,.q),(2,.q),(5,.q),(6,.q),(7,.q),(3,.c),(4,.c),(8,.c),(9,.c),(10,.q),(11,.q)] yA nX zot nX (λr hr=>hr) (go6 ?_);refine w_c I (sC (ev1 I) call48 (λw hs=>rR hs I hnb hdb) λcq h1 ao aw=>?_);rw[qB] at aw;refine w_c I ?_;replace hna:=hna.mono ao;refine sC (ev2 I I) call47 (λw hs=>bE hs hna aw oM oM) λcp h2 an D=>?_
 try simp only[zE] at D
 have bu:=yM ((qa.num.natAbs)) ((qb.den));refine w_c I ?_;replace hna:=hna.mono an;replace hda:=hda.mono (ao.trans an);refine sC (ev1 I) call48 (λw hs=>rR hs I hna hda) λco h3 Z av=>?_;rw[qB] at av;refine w_c I ?_;replace hnb:=hnb.mono ((ao.trans an).trans Z);refine sC (ev2 I I) call47 (λw hs=>bE hs hnb av oM oM) λcn h4 U C=>?_
 try simp only[zE] at C
 have bt:=yM ((qb.num.natAbs)) ((qa.den));refine go5 ?_;refine zK 6 _ [] [(0,.q),(2,.q),(1,.c),(3,.c),(4,.c),(5,.q)] yA nX zot nX (λr hr=>hr) (go2 ?_);refine w_c I ?_;replace hna:=hna.mono (Z.trans U);replace hda:=hda.mono (Z.trans U);refine sC (ev1 I) call48 (λw hs=>rR hs I hna hda) λcm h5 O J=>?_;rw[qB] at J;refine w_c I ?_;replace hnb:=hnb.mono (U.trans O);replace hdb:=hdb.mono ((((ao.trans an).trans Z).trans U).trans O);refine sC (ev1 I) call48 (λw hs=>rR hs I hnb hdb) λcl h6 ad au=>?_;rw[qB] at au;refine w_c I ?_;replace J:=J.mono ad;refine sC (ev2 I I) call47 (λw hs=>bE hs J au oM oM) λck h7 am G=>?_
 try simp only[zE] at G
 have bs:=yM ((qa.den)) ((qb.den));refine qE ?_;refine gv (iV underlying4 I I) I (gc2 (λM=>?_) λM=>?_)
 ·
  refine go1 ?_;refine zK 7 _ [] (zai 0 4 [(5,.q),(4,.c),(6,.c),(7,.t)]) yA nX zot nX (λr hr=>hr) (go5 ?_);refine w_c I ?_;replace D:=D.mono ((((Z.trans U).trans O).trans ad).trans am);replace C:=C.mono ((O.trans ad).trans am);refine sC (ev2 I I) call84 (λw hs=>yAP hs D C oM oM) λcj h8 H bk=>?_;have br:=uW ((((qa.num.natAbs))*((qb.den)))) ((((qb.num.natAbs))*((qa.den))));refine w_c I ?_;replace G:=G.mono H;refine sC (ev3 I I I) call46 (λw hs=>pO hs bk G oM oM (by first|(simp only[zE];omega)|(simp only[zE];first|exact z0i _|exact z4e (z0i _) (z0i _)|exact yki|assumption)|assumption)) λci h9 ak ar=>?_
  try simp only[zE] at ar
  obtain⟨bb,be,rfl,ac,ai⟩:=ar;refine gS (A:=[]) (q':=.var b4 26 [vB ((mkRat (sg (qa.num<0) (((((((qa.num.natAbs))*((qb.den))))+((((qb.num.natAbs))*((qa.den)))))))) (((((qa.den))*((qb.den)))))).num<0),bb,be]) I (zJ (k:=0) (cs:=[_,_,_]) (vs:=[_,_,_]) I I I (ocr I (ocu ac (ocu ai oc0))) yC (bL I)) I (go4 ?_);refine yI (λE S=>zS I (xR (cs:=[_,_,_]) mh0 underlying26 I yC I) E S) ?_;rw[zZN M] at ac ai ⊢;exact⟨_,_,I,ac,ai⟩
 refine go7 ?_;replace D:=D.mono ((((Z.trans U).trans O).trans ad).trans am);replace C:=C.mono ((O.trans ad).trans am);refine cL (ev2 I I) call56 (λw hs=>oI hs D C) λch h8 H bj=>?_;subst bj;refine gc3 (λaj=>?_) λaj=>?_
 ·
  refine go4 ?_;replace D:=D.mono H;replace C:=C.mono H;refine cL (ev2 I I) call85 (λw hs=>zQW hs C D oM) λcg h9 ak bi=>?_;obtain⟨cu,rfl,bg⟩:=bi;have bq:=zW (yju ((((qb.num.natAbs))*((qa.den)))) ((((qa.num.natAbs))*((qb.den)))));refine pV ?_;replace G:=G.mono (H.trans ak);refine cL (ev3 I I I) call46 (λw hs=>pO hs bg G oM oM (by first|(simp only[zE];omega)|(simp only[zE];first|exact z0i _|exact z4e (z0i _) (z0i _)|exact yki|assumption)|assumption)) λcf bv bl aq=>?_
  try simp only[zE] at aq
  obtain⟨ba,bd,rfl,ab,ah⟩:=aq;refine xY (A:=[]) (r':=.var b4 26 [vB ((mkRat (sg (qb.num<0) (((((((qb.num.natAbs))*((qa.den))))-((((qa.num.natAbs))*((qb.den)))))))) (((((qa.den))*((qb.den)))))).num<0),ba,bd]) (zJ (k:=0) (cs:=[_,_,_]) (vs:=[_,_,_]) I I I (ocr I (ocu ab (ocu ah oc0))) yC (bL I)) I I I (go4 ?_);refine yI (λE S=>zS I (xR (cs:=[_,_,_]) mh0 underlying26 I yC I) E S) ?_;rw[yHX M (by have:=fZ.1 aj;omega)] at ab ah ⊢;exact⟨_,_,I,ab,ah⟩
 refine go6 ?_;replace D:=D.mono H;replace C:=C.mono H;refine cL (ev2 I I) call85 (λw hs=>zQW hs D C oM) λce h9 ak bh=>?_;obtain⟨ct,rfl,bf⟩:=bh;have bp:=zW (yju ((((qa.num.natAbs))*((qb.den)))) ((((qb.num.natAbs))*((qa.den)))));refine pV ?_;replace G:=G.mono (H.trans ak);refine cL (ev3 I I I) call46 (λw hs=>pO hs bf G oM oM (by first|(simp only[zE];omega)|(simp only[zE];first|exact z0i _|exact z4e (z0i _) (z0i _)|exact yki|assumption)|assumption)) λcd bv bl ap=>?_
 try simp only[zE] at ap
 obtain⟨az,bc,rfl,aa,ae⟩:=ap;refine xY (A:=[]) (r':=.var b4 26 [vB ((mkRat (sg (qa.num<0) (((((((qa.num.natAbs))*((qb.den))))-((((qb.num.natAbs))*((qa.den)))))))) (((((qa.den))*((qb.den)))))).num<0),az,bc]) (zJ (k:=0) (cs:=[_,_,_]) (vs:=[_,_,_]) I I I (ocr I (ocu aa (ocu ae oc0))) yC (bL I)) I I I (go3 ?_);refine yI (λE S=>zS I (xR (cs:=[_,_,_]) mh0 underlying26 I yC I) E S) ?_;rw[yHY M (ybe (λh=>aj (fZ.2 h)))] at aa ae ⊢;exact⟨_,_,I,aa,ae⟩
theorem zVL{qa:Rat}{vna vda:Value}(hna:Us .u32 h0 vna (zB qa.num.natAbs))(hda:Us .u32 h0 vda (zB (wM qa.den))){qb:Rat}{vnb vdb:Value}(hnb:Us .u32 h0 vnb (zB qb.num.natAbs))(hdb:Us .u32 h0 vdb (zB (wM qb.den)))(hqa:lq qa<=100000000000)(hqb:lq qb<=100000000000):
 Calls prog 16 #[.agg #[vB (qa.num<0),vna,vda],.agg #[vB (qb.num<0),vnb,vdb]] w0 (Ret w0 h0 (λh r=>vD h r (qa-qb))):=by
 have ai:=wT qa;have ak:=vO qa;have an:=wQ qa;have ah:=wT qb;have aj:=vO qb;have am:=wQ qb;refine cb2 9 (.agg #[vB (qa.num<0),vna,vda]) (.agg #[vB (qb.num<0),vnb,vdb]) func16 hs ?_;refine go2 ?_;refine zH (xS (cs:=[_,_,_]) I I) I I I ?_;intro v2 r2 aa;obtain⟨b2,rfl,rfl⟩:=aa;refine zH (xS (cs:=[_,_,_]) I I) I I I ?_;intro v3 r3 Z;obtain⟨b3,rfl,rfl⟩:=Z;refine zH (wJ (cs:=[vB ((0:Rat).num<0),.slice none 0 0,.slice none 0 0]) yR I (by simp only[zb];rfl)) I I I ?_;intro v4 r4 U;obtain⟨b4,rfl,rfl⟩:=U;refine go3 ?_;refine zK 4 _ [] [(0,.q),(1,.q),(2,.c),(3,.c),(4,.t)] yA nX zot nX (λr hr=>hr) (go2 ?_);refine w_c I (sC (ev1 I) call31 (λw hs=>zLQ hs hnb hdb oM) λv7 h1 G O=>?_);obtain⟨ao,ap,rfl,ab,ac⟩:=O;have ae:=zGG qb;refine w_c I ?_;replace hna:=hna.mono G;replace hda:=hda.mono G;refine sC (ev2 I I) call37 (λw hs=>zFE hs hna hda ab ac oM oM) λv8 h2 aq M=>?_;obtain⟨H,J,rfl,C,D⟩:=M;have ad:=kW qa (-qb);refine gS (A:=[]) (q':=.var b4 26 [vB ((qa+(-qb)).num<0),H,J]) I (zJ (k:=0) (cs:=[_,_,_]) (vs:=[_,_,_]) I I I (ocr I (ocu C (ocu D oc0))) yC (bL I)) I (go3 ?_);refine yI (λE S=>zS I (xR (cs:=[_,_,_]) mh0 underlying26 I yC I) E S) ?_;rw[<-yze] at C D ⊢;exact⟨_,_,I,C,D⟩
theorem zLR{qa:Rat}{vna vda:Value}(hna:Us .u32 h0 vna (zB qa.num.natAbs))(hda:Us .u32 h0 vda (zB (wM qa.den))){qb:Rat}{vnb vdb:Value}(hnb:Us .u32 h0 vnb (zB qb.num.natAbs))(hdb:Us .u32 h0 vdb (zB (wM qb.den)))(hqa:lq qa<=100000000000)(hqb:lq qb<=100000000000):
 Calls prog 9 #[.agg #[vB (qa.num<0),vna,vda],.agg #[vB (qb.num<0),vnb,vdb]] w0 (Ret w0 h0 (λh r=>vD h r (qa*qb))):=by
 have an:=wT qa;have ap:=vO qa;have ar:=wQ qa;have am:=wT qb;have ao:=vO qb;have aq:=wQ qb;refine cb2 21 (.agg #[vB (qa.num<0),vna,vda]) (.agg #[vB (qb.num<0),vnb,vdb]) func9 hs ?_;refine go2 ?_;refine zH (xS (cs:=[_,_,_]) I I) I I I ?_;intro v2 r2 ah;obtain⟨b2,rfl,rfl⟩:=ah;refine zH (xS (cs:=[_,_,_]) I I) I I I ?_;intro v3 r3 ae;obtain⟨b3,rfl,rfl⟩:=ae;refine zH (wJ (cs:=[vB ((0:Rat).num<0),.slice none 0 0,.slice none 0 0]) yR I (by simp only[zb];rfl)) I I I ?_;intro v4 r4 ad;obtain⟨b4,rfl,rfl⟩:=ad;refine go3 ?_;refine zK 16 _ [] (zai 0 9 [(10,.q),(12,.q),(9,.c),(11,.c),(13,.c),(14,.c),(15,.c),(16,.t)]) yA nX zot nX (λr hr=>hr) (go4 ?_);refine xD I (λ_ _=>sQ underlying4 I I) I (go6 ?_);refine w_c I (sC (ev2 I I) call47 (λw hs=>bE hs hna hnb oM oM) λay h1 J D=>?_)
 try simp only[zE] at D
 have aj:=yM ((qa.num.natAbs)) ((qb.num.natAbs));refine w_c I ?_;replace hna:=hna.mono J;replace hda:=hda.mono J;refine sC (ev1 I) call48 (λw hs=>rR hs I hna hda) λax h2 Z C=>?_;rw[qB] at C;refine w_c I ?_;replace hnb:=hnb.mono (J.trans Z);replace hdb:=hdb.mono (J.trans Z);refine sC (ev1 I) call48 (λw hs=>rR hs I hnb hdb) λaw h3 ac U=>?_;rw[qB] at U;refine w_c I ?_;replace C:=C.mono ac;refine sC (ev2 I I) call47 (λw hs=>bE hs C U oM oM) λav h4 ak O=>?_
 try simp only[zE] at O
 have ai:=yM ((qa.den)) ((qb.den));refine w_c I ?_;replace D:=D.mono ((Z.trans ac).trans ak);refine sC (ev3 I I I) call46 (λw hs=>pO hs D O oM oM (by first|(simp only[zE];omega)|(simp only[zE];first|exact z0i _|exact z4e (z0i _) (z0i _)|exact yki|assumption)|assumption)) λau h5 az M=>?_
 try simp only[zE] at M
 obtain⟨aa,ab,rfl,G,H⟩:=M;refine gS (A:=[]) (q':=.var b4 26 [vB ((mkRat (sg (¬((qa.num<0)↔(qb.num<0))) (((((qa.num.natAbs))*((qb.num.natAbs)))))) (((((qa.den))*((qb.den)))))).num<0),aa,ab]) I (zJ (k:=0) (cs:=[_,_,_]) (vs:=[_,_,_]) I I I (ocr I (ocu G (ocu H oc0))) yC (bL I)) I (go3 ?_);refine yI (λE S=>zS I (xR (cs:=[_,_,_]) mh0 underlying26 I yC I) E S) ?_;rw[zW3] at G H ⊢;exact⟨_,_,I,G,H⟩
theorem zLP{qa:Rat}{vna vda:Value}(hna:Us .u32 h0 vna (zB qa.num.natAbs))(hda:Us .u32 h0 vda (zB (wM qa.den))){qb:Rat}{vnb vdb:Value}(hnb:Us .u32 h0 vnb (zB qb.num.natAbs))(hdb:Us .u32 h0 vdb (zB (wM qb.den)))(hqa:lq qa<=100000000000)(hqb:lq qb<=100000000000):
 Calls prog 112 #[.agg #[vB (qa.num<0),vna,vda],.agg #[vB (qb.num<0),vnb,vdb]] w0 (Ret w0 h0 (λh r=>∃u,r=.tuple #[u,vI (if qb=0 then 3 else 0)]/\vD h u (if qb=0 then 0 else qa/qb))):=by
 have aq:=wT qa;have au:=vO qa;have aw:=wQ qa;have ap:=wT qb;have ar:=vO qb;have av:=wQ qb;refine cb2 27 (.agg #[vB (qa.num<0),vna,vda]) (.agg #[vB (qb.num<0),vnb,vdb]) func112 hs ?_;refine go2 ?_;refine zH (xS (cs:=[_,_,_]) I I) I I I ?_;intro v2 r2 aj;obtain⟨b2,rfl,rfl⟩:=aj;refine zH (xS (cs:=[_,_,_]) I I) I I I ?_;intro v3 r3 ai;obtain⟨b3,rfl,rfl⟩:=ai;refine zH (wJ (cs:=[vB ((0:Rat).num<0),.slice none 0 0,.slice none 0 0]) yR I (by simp only[zb];rfl)) I I I ?_;intro v4 r4 ah;obtain⟨b4,rfl,rfl⟩:=ah;refine zKT (λH=>?_) λH=>?_
 ·
  refine go2 ?_;refine gv (yV (ps':=[]) (vs:=[vB ((0:Rat).num<0),.slice none 0 0,.slice none 0 0]) underlying26 yR I (uE underlying26) trivial (by simp only[zb];exact uT)) I (xY (A:=[]) (r':=.var b4 26 [vB ((0:Rat).num<0),.slice none 0 0,.slice none 0 0]) (zJ (k:=0) (cs:=[_,_,_]) (vs:=[_,_,_]) I I I I yC (bL I)) I I I (go5 ?_));refine yI (λE S=>vG I (xR (cs:=[_,_,_]) mh0 underlying26 I yC I) (qQ I) E S) ?_;rw[zau (bT H),zau (bT H)];exact⟨_,I,vD.zero _⟩
 have J:=zF3 H;have ao:=zF4.2 J;have bd:qa.den*qb.num.natAbs≠0:=z4e qa.den_nz ao;refine go3 ?_;refine zK 16 _ [] (zai 0 8 [(10,.q),(12,.q),(13,.q),(8,.c),(9,.c),(11,.c),(14,.c),(15,.c),(16,.t),(17,.t)]) yA nX zot nX (λr hr=>hr) (go4 ?_);refine xD I (λ_ _=>sQ underlying4 I I) I (go6 ?_);refine w_c I (sC (ev1 I) call48 (λw hs=>rR hs I hnb hdb) λbb h1 ab Z=>?_);rw[qB] at Z;refine w_c I ?_;replace hna:=hna.mono ab;refine sC (ev2 I I) call47 (λw hs=>bE hs hna Z oM oM) λba h2 aa C=>?_
 try simp only[zE] at C
 have am:=yM ((qa.num.natAbs)) ((qb.den));refine w_c I ?_;replace hna:=hna.mono aa;replace hda:=hda.mono (ab.trans aa);refine sC (ev1 I) call48 (λw hs=>rR hs I hna hda) λaz h3 ae U=>?_;rw[qB] at U;refine w_c I ?_;replace hnb:=hnb.mono ((ab.trans aa).trans ae);refine sC (ev2 I I) call47 (λw hs=>bE hs U hnb oM oM) λay h4 an O=>?_
 try simp only[zE] at O
 have ak:=yM ((qa.den)) ((qb.num.natAbs));refine w_c I ?_;replace C:=C.mono (ae.trans an);refine sC (ev3 I I I) call46 (λw hs=>pO hs C O oM oM (by first|(simp only[zE];omega)|(simp only[zE];first|exact z0i _|exact z4e (z0i _) (z0i _)|exact yki|assumption)|assumption)) λax h5 bc M=>?_
 try simp only[zE] at M
 obtain⟨ac,ad,rfl,D,G⟩:=M;refine gS (A:=[]) (q':=.var b4 26 [vB ((mkRat (sg (¬((qa.num<0)↔(qb.num<0))) (((((qa.num.natAbs))*((qb.den)))))) (((((qa.den))*((qb.num.natAbs)))))).num<0),ac,ad]) I (zJ (k:=0) (cs:=[_,_,_]) (vs:=[_,_,_]) I I I (ocr I (ocu D (ocu G oc0))) yC (bL I)) I (dT I (tX (v:=vI (0)) I) I (go3 ?_));refine yI (λE S=>vG I (xR (cs:=[_,_,_]) mh0 underlying26 I yC I) (qQ I) E S) ?_;rw[zae J,zae J];rw[zV1 _ J] at D G ⊢;exact⟨_,I,_,_,I,D,G⟩
theorem zSY{qa:Rat}{vna vda:Value}(hna:Us .u32 h0 vna (zB qa.num.natAbs))(hda:Us .u32 h0 vda (zB (wM qa.den))){qb:Rat}{vnb vdb:Value}(hnb:Us .u32 h0 vnb (zB qb.num.natAbs))(hdb:Us .u32 h0 vdb (zB (wM qb.den)))(hqa:lq qa<=100000000000)(hqb:lq qb<=100000000000):
 Calls prog 109 #[.agg #[vB (qa.num<0),vna,vda],.agg #[vB (qb.num<0),vnb,vdb]] w0 (Ret w0 h0 (λh r=>vD h r (if qb=0 then 0 else qa/qb))):=by
 have ac:=wT qa;have ae:=vO qa;have ai:=wQ qa;have ab:=wT qb;have ad:=vO qb;have ah:=wQ qb;refine cb2 14 (.agg #[vB (qa.num<0),vna,vda]) (.agg #[vB (qb.num<0),vnb,vdb]) func109 hs ?_;refine go2 ?_;refine zH (xS (cs:=[_,_,_]) I I) I I I ?_;intro v2 r2 Z;obtain⟨b2,rfl,rfl⟩:=Z;refine zH (xS (cs:=[_,_,_]) I I) I I I ?_;intro v3 r3 U;obtain⟨b3,rfl,rfl⟩:=U;refine zH (wJ (cs:=[vB ((0:Rat).num<0),.slice none 0 0,.slice none 0 0]) yR I (by simp only[zb];rfl)) I I I ?_;intro v4 r4 O;obtain⟨b4,rfl,rfl⟩:=O;refine go6 ?_;refine cL (ev2 I I) call112 (λw hs=>zLP hs hna hda hnb hdb oM oM) λaj h1 ak J=>?_;obtain⟨_,rfl,G,H,rfl,C,D⟩:=J;have aa:=zEQ qa qb;refine go3 ?_;refine zH (wJ (cs:=[vB ((0:Rat).num<0),.slice none 0 0,.slice none 0 0]) yR I (by simp only[zb];rfl)) I I I ?_;intro v5 r5 M;obtain⟨b5,rfl,rfl⟩:=M;refine xY (A:=[]) (r':=.var b5 26 [vB ((if qb=0 then 0 else qa/qb).num<0),G,H]) (zJ (k:=0) (cs:=[_,_,_]) (vs:=[_,_,_]) I I I (ocr I (ocu C (ocu D oc0))) yC (bL I)) I I I (go6 ?_);refine xY (A:=[_]) (r':=.var b4 26 [vB ((if qb=0 then 0 else qa/qb).num<0),G,H]) (zJ (k:=0) (cs:=[_,_,_]) (vs:=[_,_,_]) I I I (ocr I (ocu C (ocu D oc0))) yC (bL I)) I I I (go3 ?_);refine yI (λE S=>zS I (xR (cs:=[_,_,_]) mh1 underlying26 I yC I) E S) ?_;exact⟨_,_,I,C,D⟩
theorem zVN{qa:Rat}{vna vda:Value}(hna:Us .u32 h0 vna (zB qa.num.natAbs))(hda:Us .u32 h0 vda (zB (wM qa.den))){qb:Rat}{vnb vdb:Value}(hnb:Us .u32 h0 vnb (zB qb.num.natAbs))(hdb:Us .u32 h0 vdb (zB (wM qb.den)))(hqa:lq qa<=100000000000)(hqb:lq qb<=100000000000):
 Calls prog 18 #[.agg #[vB (qa.num<0),vna,vda],.agg #[vB (qb.num<0),vnb,vdb]] w0 (Ret w0 h0 (λ_ r=>r=vI (vH qa qb))):=by
 have au:=wT qa;have aw:=vO qa;have ay:=wQ qa;have ar:=wT qb;have av:=vO qb;have ax:=wQ qb;have bg:-1<=sZ (qa.num.natAbs*qb.den) (qb.num.natAbs*qa.den)/\sZ (qa.num.natAbs*qb.den) (qb.num.natAbs*qa.den)<=1:=zNM qa qb;refine cb2 34 (.agg #[vB (qa.num<0),vna,vda]) (.agg #[vB (qb.num<0),vnb,vdb]) func18 hs ?_;refine go2 ?_;refine zH (xS (cs:=[_,_,_]) I I) I I I ?_;intro v2 r2 am;obtain⟨b2,rfl,rfl⟩:=am;refine zH (xS (cs:=[_,_,_]) I I) I I I ?_;intro v3 r3 ak;obtain⟨b3,rfl,rfl⟩:=ak;refine go5 ?_;refine zK 6 _ [] [(0,.q),(2,.q),(1,.c),(3,.c),(4,.q),(5,.q)] yA nX zot nX (λr hr=>hr) (go2 ?_);refine w_c I (sC (ev1 I) call17 (λw hs=>zCW hs hna hda oM) λv9 h1 M aj=>?_);have aq:=xW qa;subst aj;refine w_c I ?_;replace hnb:=hnb.mono M;replace hdb:=hdb.mono M;refine sC (ev1 I) call17 (λw hs=>zCW hs hnb hdb oM) λbe h2 J ae=>?_;have ai:=xW qb;subst ae;refine zGT (λD=>?_) λD=>?_
 ·
  refine gc8 (λH=>?_) λH=>?_
  ·
   refine go8 ?_;refine zF I I ?_;rw[zCC D,zau H]
  refine go9 ?_;refine zF I I ?_;rw[zCC D,zae H]
 have ac:=zLG D;refine go3 ?_;refine zK 12 _ [] [(0,.q),(1,.q),(2,.q),(5,.q),(6,.q),(7,.q),(3,.c),(4,.c),(8,.c),(9,.c),(10,.c),(11,.q)] yA nX zot nX (λr hr=>hr) (go6 ?_);refine w_c I ?_;replace hnb:=hnb.mono J;replace hdb:=hdb.mono J;refine sC (ev1 I) call48 (λw hs=>rR hs I hnb hdb) λbd h3 ab Z=>?_;rw[qB] at Z;refine w_c I ?_;replace hna:=hna.mono ((M.trans J).trans ab);refine sC (ev2 I I) call47 (λw hs=>bE hs hna Z oM oM) λbc h4 aa C=>?_
 try simp only[zE] at C
 have ao:=yM ((qa.num.natAbs)) ((qb.den));refine w_c I ?_;replace hna:=hna.mono aa;replace hda:=hda.mono (((M.trans J).trans ab).trans aa);refine sC (ev1 I) call48 (λw hs=>rR hs I hna hda) λbb h5 ah U=>?_;rw[qB] at U;refine w_c I ?_;replace hnb:=hnb.mono ((ab.trans aa).trans ah);refine sC (ev2 I I) call47 (λw hs=>bE hs hnb U oM oM) λba h6 ap O=>?_
 try simp only[zE] at O
 have an:=yM ((qb.num.natAbs)) ((qa.den));refine w_c I ?_;replace C:=C.mono (ah.trans ap);refine sC (ev2 I I) call56 (λw hs=>oI hs C O) λaz h7 bf ad=>?_;subst ad;refine u6 (λG=>?_) λG=>?_
 ·
  refine go3 ?_;refine gv (mJ I oM oM) I (go5 ?_);refine zF I I ?_;rw[zR5 ac G];rfl
 refine go9 ?_;refine zF I I ?_;rw[zNH ac G];rfl
theorem zVM{qa:Rat}{vna vda:Value}(hna:Us .u32 h0 vna (zB qa.num.natAbs))(hda:Us .u32 h0 vda (zB (wM qa.den))){qb:Rat}{vnb vdb:Value}(hnb:Us .u32 h0 vnb (zB qb.num.natAbs))(hdb:Us .u32 h0 vdb (zB (wM qb.den)))(hqa:lq qa<=10000000000)(hqb:lq qb<=10000000000):
 Calls prog 38 #[.agg #[vB (qa.num<0),vna,vda],.agg #[vB (qb.num<0),vnb,vdb]] w0 (Ret w0 h0 (λh r=>vD h r (zC8 qa qb))):=by
 have an:=wT qa;have ap:=vO qa;have ar:=wQ qa;have am:=wT qb;have ao:=vO qb;have aq:=wQ qb;refine cb2 10 (.agg #[vB (qa.num<0),vna,vda]) (.agg #[vB (qb.num<0),vnb,vdb]) func38 hs ?_;refine go2 ?_;refine zH (xS (cs:=[_,_,_]) I I) I I I ?_;intro v2 r2 ad;obtain⟨b2,rfl,rfl⟩:=ad;refine zH (xS (cs:=[_,_,_]) I I) I I I ?_;intro v3 r3 ac;obtain⟨b3,rfl,rfl⟩:=ac;refine zH (wJ (cs:=[vB ((0:Rat).num<0),.slice none 0 0,.slice none 0 0]) yR I (by simp only[zb];rfl)) I I I ?_;intro v4 r4 ab;obtain⟨b4,rfl,rfl⟩:=ab;refine go6 ?_;refine cL (ev2 I I) call37 (λw hs=>zFE hs hna hda hnb hdb oM oM) λv7 h1 az aa=>?_;obtain⟨av,ax,rfl,D,H⟩:=aa;have ak:=kW qa qb;refine cL (vs:=[vI (1),vI (2)]) e2z call10 (λw hs=>zCX hs oM oM oM oM) λv8 h2 J Z=>?_;have aj:=zB0 (n:=(1:Int)) (d:=(2:Int)) oM oM oM oM;obtain⟨au,aw,rfl,ae,ah⟩:=Z;replace D:=D.mono J;replace H:=H.mono J;refine cL (ev2 I I) call9 (λw hs=>zLR hs D H ae ah oM oM) λv9 h3 ay U=>?_;obtain⟨M,O,rfl,C,G⟩:=U;have ai:=pK (qa+qb) (kJ (1:Int) (2:Int));refine xY (A:=[]) (r':=.var b4 26 [vB (((qa+qb)*(kJ (1:Int) (2:Int))).num<0),M,O]) (zJ (k:=0) (cs:=[_,_,_]) (vs:=[_,_,_]) I I I (ocr I (ocu C (ocu G oc0))) yC (bL I)) I I I (go3 ?_);refine yI (λE S=>zS I (xR (cs:=[_,_,_]) mh0 underlying26 I yC I) E S) ?_;rw[zIW] at C G ⊢;exact⟨_,_,I,C,G⟩
theorem zSW{qa:Rat}{vna vda:Value}(hna:Us .u32 h0 vna (zB qa.num.natAbs))(hda:Us .u32 h0 vda (zB (wM qa.den)))(hqa:lq qa<=100000000000):
 Calls prog 173 #[.agg #[vB (qa.num<0),vna,vda]] w0 (Ret w0 h0 (λ_ r=>r=.string (qW (qZ qa)))):=by
 have ab:=wT qa;have ac:=vO qa;have ad:=wQ qa;refine cb1 22 (.agg #[vB (qa.num<0),vna,vda]) func173 hs ?_;refine go2 ?_;refine zH (xS (cs:=[_,_,_]) I I) I I I ?_;intro v1 r1 U;obtain⟨b1,rfl,rfl⟩:=U;refine go7 ?_;refine cL (ev1 I) call197 (λw hs=>zFI hs hna oM) λv6 h1 J O=>?_;subst O;have aa:=zA2 ((qa.num.natAbs));refine u6 (λG=>?_) λG=>?_
 ·
  refine go2 ?_;refine gv (vS (pa:=([45]:List Nat)) (pb:=(txt ((qa.num.natAbs)))) I I zou) I ?_;replace hda:=hda.mono J;refine zKT (λC=>?_) λC=>?_
  ·
   refine go4 ?_;refine cL (ev1 I) call197 (λw hs=>zFI hs hda oM) λM h2 Z D=>?_;subst D;have H:=zA2 (((wM qa.den)));refine gv (vS (pa:=([47]:List Nat)) (pb:=(txt (((wM qa.den))))) I I zou) I (gv (vS (pa:=(([45]:List Nat)++(txt ((qa.num.natAbs))))) (pb:=(([47]:List Nat)++(txt (((wM qa.den)))))) I I zou) I (qE ?_));refine zF I I ?_;rw[<-yDV G C]
  refine go9 ?_;refine zF I I ?_;rw[<-zZY G C]
 replace hda:=hda.mono J;refine zGT (λC=>?_) λC=>?_
 ·
  refine go4 ?_;refine cL (ev1 I) call197 (λw hs=>zFI hs hda oM) λM h2 Z D=>?_;subst D;have H:=zA2 (((wM qa.den)));refine gv (vS (pa:=([47]:List Nat)) (pb:=(txt (((wM qa.den))))) I I zou) I (gv (vS (pa:=(txt ((qa.num.natAbs)))) (pb:=(([47]:List Nat)++(txt (((wM qa.den)))))) I I zou) I (qE ?_));refine zF I I ?_;rw[<-zZZ G C]
 refine go9 ?_;refine zF I I ?_;rw[<-zZ0 G C]
theorem pQ{k l:Nat}{va:Value}{a:Rat}(ra:(rpQ k).Is h0 va a){vb:Value}{b:Rat}(rb:(rpQ l).Is h0 vb b)(hcd0:k+l<=10000000000):
 Calls prog 70 #[va,vb] w0 (Ret w0 h0 (λh r=>(rpQ (k+l+1)).Is h r (a+b))):=by
 obtain⟨M,U,rfl,D,H,aa⟩:=qR ra;obtain⟨J,O,rfl,C,G,Z⟩:=qR rb;exact(zJL hs D H C G oM oM).mono (kC λh r x=>mS x (by have:=kW a b;omega))
theorem aR{k l:Nat}{va:Value}{a:Rat}(ra:(rpQ k).Is h0 va a){vb:Value}{b:Rat}(rb:(rpQ l).Is h0 vb b)(hcd0:k+l<=10000000000):
 Calls prog 179 #[va,vb] w0 (Ret w0 h0 (λh r=>(rpQ (k+l+1)).Is h r (a-b))):=by
 obtain⟨M,U,rfl,D,H,aa⟩:=qR ra;obtain⟨J,O,rfl,C,G,Z⟩:=qR rb;exact(yAQ hs D H C G oM oM).mono (kC λh r x=>mS x (by have:=oW a b;omega))
theorem gC{k l:Nat}{va:Value}{a:Rat}(ra:(rpQ k).Is h0 va a){vb:Value}{b:Rat}(rb:(rpQ l).Is h0 vb b)(hcd0:k+l<=10000000000):
 Calls prog 76 #[va,vb] w0 (Ret w0 h0 (λh r=>(rpQ (k+l)).Is h r (a*b))):=by
 obtain⟨M,U,rfl,D,H,aa⟩:=qR ra;obtain⟨J,O,rfl,C,G,Z⟩:=qR rb;exact(yAS hs D H C G oM oM).mono (kC λh r x=>mS x (by have:=pK a b;omega))
theorem zAF{k:Nat}{va:Value}{a:Rat}(ra:(rpQ k).Is h0 va a)(hcd0:k<=10000000000):
 Calls prog 51 #[va] w0 (Ret w0 h0 (λ_ r=>r=vI (yU a))):=by
 obtain⟨G,H,rfl,C,D,J⟩:=qR ra;exact zBK hs C D oM
theorem zIC{k l:Nat}{va:Value}{a:Rat}(ra:(rpQ k).Is h0 va a){vb:Value}{b:Rat}(rb:(rpQ l).Is h0 vb b)(hcd0:k+l<=10000000000):
 Calls prog 74 #[va,vb] w0 (Ret w0 h0 (λh r=>∃u0,r=.tuple #[u0,vI (if b=0 then 3 else 0)]/\(rpQ (k+l)).Is h u0 (if b=0 then 0 else a/b))):=by
 obtain⟨M,U,rfl,D,H,aa⟩:=qR ra;obtain⟨J,O,rfl,C,G,Z⟩:=qR rb;exact(yAR hs D H C G oM oM).mono (kC λh r x=>by obtain⟨u,e,y⟩:=x;exact⟨u,e,mS y (by have:=zEQ a b;omega)⟩)
theorem pG{k l:Nat}{va:Value}{a:Rat}(ra:(rpQ k).Is h0 va a){vb:Value}{b:Rat}(rb:(rpQ l).Is h0 vb b)(hcd0:k+l<=10000000000):
 Calls prog 37 #[va,vb] w0 (Ret w0 h0 (λh r=>(rpQ (k+l+1)).Is h r (a+b))):=by
 obtain⟨M,U,rfl,D,H,aa⟩:=qR ra;obtain⟨J,O,rfl,C,G,Z⟩:=qR rb;exact(zFE hs D H C G oM oM).mono (kC λh r x=>mS x (by have:=kW a b;omega))
theorem tM{k l:Nat}{va:Value}{a:Rat}(ra:(rpQ k).Is h0 va a){vb:Value}{b:Rat}(rb:(rpQ l).Is h0 vb b)(hcd0:k+l<=10000000000):
 Calls prog 16 #[va,vb] w0 (Ret w0 h0 (λh r=>(rpQ (k+l+1)).Is h r (a-b))):=by
 obtain⟨M,U,rfl,D,H,aa⟩:=qR ra;obtain⟨J,O,rfl,C,G,Z⟩:=qR rb;exact(zVL hs D H C G oM oM).mono (kC λh r x=>mS x (by have:=oW a b;omega))
theorem qS{k l:Nat}{va:Value}{a:Rat}(ra:(rpQ k).Is h0 va a){vb:Value}{b:Rat}(rb:(rpQ l).Is h0 vb b)(hcd0:k+l<=10000000000):
 Calls prog 9 #[va,vb] w0 (Ret w0 h0 (λh r=>(rpQ (k+l)).Is h r (a*b))):=by
 obtain⟨M,U,rfl,D,H,aa⟩:=qR ra;obtain⟨J,O,rfl,C,G,Z⟩:=qR rb;exact(zLR hs D H C G oM oM).mono (kC λh r x=>mS x (by have:=pK a b;omega))
theorem zFU{k l:Nat}{va:Value}{a:Rat}(ra:(rpQ k).Is h0 va a){vb:Value}{b:Rat}(rb:(rpQ l).Is h0 vb b)(hcd0:k+l<=10000000000):
 Calls prog 38 #[va,vb] w0 (Ret w0 h0 (λh r=>(rpQ (k+l+2)).Is h r (zC8 a b))):=by
 obtain⟨M,U,rfl,D,H,aa⟩:=qR ra;obtain⟨J,O,rfl,C,G,Z⟩:=qR rb;exact(zVM hs D H C G oM oM).mono (kC λh r x=>mS x (by have:=yF5 a b;omega))
theorem tN{k l:Nat}{va:Value}{a:Rat}(ra:(rpQ k).Is h0 va a){vb:Value}{b:Rat}(rb:(rpQ l).Is h0 vb b)(hcd0:k+l<=10000000000):
 Calls prog 18 #[va,vb] w0 (Ret w0 h0 (λ_ r=>r=vI (vH a b))):=by
 obtain⟨M,U,rfl,D,H,aa⟩:=qR ra;obtain⟨J,O,rfl,C,G,Z⟩:=qR rb;exact zVN hs D H C G oM oM
theorem vX{k:Nat}{va:Value}{a:Rat}(ra:(rpQ k).Is h0 va a)(hcd0:k<=10000000000):
 Calls prog 17 #[va] w0 (Ret w0 h0 (λ_ r=>r=vI (yU a))):=by
 obtain⟨G,H,rfl,C,D,J⟩:=qR ra;exact zCW hs C D oM
theorem qH{k l:Nat}{va:Value}{a:Rat}(ra:(rpQ k).Is h0 va a){vb:Value}{b:Rat}(rb:(rpQ l).Is h0 vb b)(hcd0:k+l<=10000000000):
 Calls prog 15 #[va,vb] w0 (Ret w0 h0 (λ_ r=>r=vB (a=b))):=by
 obtain⟨M,U,rfl,D,H,aa⟩:=qR ra;obtain⟨J,O,rfl,C,G,Z⟩:=qR rb;exact zSX hs D H C G oM oM
theorem zPA{k l:Nat}{va:Value}{a:Rat}(ra:(rpQ k).Is h0 va a){vb:Value}{b:Rat}(rb:(rpQ l).Is h0 vb b)(hcd0:k+l<=10000000000):
 Calls prog 112 #[va,vb] w0 (Ret w0 h0 (λh r=>∃u0,r=.tuple #[u0,vI (if b=0 then 3 else 0)]/\(rpQ (k+l)).Is h u0 (if b=0 then 0 else a/b))):=by
 obtain⟨M,U,rfl,D,H,aa⟩:=qR ra;obtain⟨J,O,rfl,C,G,Z⟩:=qR rb;exact(zLP hs D H C G oM oM).mono (kC λh r x=>by obtain⟨u,e,y⟩:=x;exact⟨u,e,mS y (by have:=zEQ a b;omega)⟩)
theorem lE{k:Nat}{va:Value}{a:Rat}(ra:(rpQ k).Is h0 va a)(hcd0:k<=10000000000):
 Calls prog 31 #[va] w0 (Ret w0 h0 (λh r=>(rpQ k).Is h r (-a))):=by
 obtain⟨G,H,rfl,C,D,J⟩:=qR ra;exact(zLQ hs C D oM).mono (kC λh r x=>mS x (by have:=zGG a;omega))
theorem zFV{k:Nat}{va:Value}{a:Rat}(ra:(rpQ k).Is h0 va a)(hcd0:k<=10000000000):
 Calls prog 29 #[va] w0 (Ret w0 h0 (λh r=>(rpQ k).Is h r (cM a))):=by
 obtain⟨G,H,rfl,C,D,J⟩:=qR ra;exact(zVO hs C D oM).mono (kC λh r x=>mS x (by have:=yF7 a;omega))
theorem zL5{k l:Nat}{va:Value}{a:Rat}(ra:(rpQ k).Is h0 va a){vb:Value}{b:Rat}(rb:(rpQ l).Is h0 vb b)(hcd0:k+l<=10000000000):
 Calls prog 109 #[va,vb] w0 (Ret w0 h0 (λh r=>(rpQ (k+l)).Is h r (if b=0 then 0 else a/b))):=by
 obtain⟨M,U,rfl,D,H,aa⟩:=qR ra;obtain⟨J,O,rfl,C,G,Z⟩:=qR rb;exact(zSY hs D H C G oM oM).mono (kC λh r x=>mS x (by have:=zEQ a b;omega))
theorem qI{n:Int}(hn1:-9223372036854775808<=n)(hn2:n<9223372036854775808):
 Calls prog 39 #[vI n] w0 (Ret w0 h0 (λh r=>(rpQ 2).Is h r ((n:Int):Rat))):=by
 exact(zLS hs hn1 hn2).mono (kC λh r x=>mS x (by exact nR n hn1 hn2))
theorem y9{n:Int}(hn1:-9223372036854775808<=n)(hn2:n<9223372036854775808):
 Calls prog 75 #[vI n] w0 (Ret w0 h0 (λh r=>(rpQ 2).Is h r ((n:Int):Rat))):=by
 exact(yAV hs hn1 hn2).mono (kC λh r x=>mS x (by exact nR n hn1 hn2))
theorem zDY{n:Int}(hn1:-9223372036854775808<=n)(hn2:n<9223372036854775808){d:Int}(hd1:-9223372036854775808<=d)(hd2:d<9223372036854775808):
 Calls prog 10 #[vI n,vI d] w0 (Ret w0 h0 (λh r=>(rpQ 2).Is h r (kJ n d))):=by
 exact(zCX hs hn1 hn2 hd1 hd2).mono (kC λh r x=>mS x (by exact zB0 hn1 hn2 hd1 hd2))
theorem zZ6{qa:Rat}{vna vda:Value}(hna:Us .u32 h0 vna (zB qa.num.natAbs))(hda:Us .u32 h0 vda (zB (wM qa.den))){qb:Rat}{vnb vdb:Value}(hnb:Us .u32 h0 vnb (zB qb.num.natAbs))(hdb:Us .u32 h0 vdb (zB (wM qb.den)))(hqa:lq qa<=100000000000)(hqb:lq qb<=100000000000):
 Calls prog 102 #[.agg #[vB (qa.num<0),vna,vda],.agg #[vB (qb.num<0),vnb,vdb]] w0 (Ret w0 h0 (λh r=>zK1 h r [zGE qa qb,mQ qa qb])):=by
 have ak:=cH;refine cb2 12 (.agg #[vB (qa.num<0),vna,vda]) (.agg #[vB (qb.num<0),vnb,vdb]) func102 hs ?_;refine go2 ?_;refine zH (xS (cs:=[_,_,_]) I I) I I I ?_;intro v2 r2 ai;obtain⟨b2,rfl,rfl⟩:=ai;refine zH (xS (cs:=[_,_,_]) I I) I I I ?_;intro v3 r3 ah;obtain⟨b3,rfl,rfl⟩:=ah;refine zH (wJ (cs:=[vB ((0:Rat).num<0),.slice none 0 0,.slice none 0 0,vB ((0:Rat).num<0),.slice none 0 0,.slice none 0 0]) tP I (by simp only[zb];rfl)) I I I ?_;intro v4 r4 ae;obtain⟨b4,rfl,rfl⟩:=ae;refine go3 ?_;refine zK 7 _ [] [(0,.q),(1,.q),(3,.q),(4,.q),(2,.c),(5,.c),(6,.q),(7,.t)] yA nX zot nX (λr hr=>hr) (go4 ?_);refine w_c I (sC (ev2 I I) call148 (λw hs=>yAT hs hna hda hnb hdb oM oM) λv7 h1 G ad=>?_);obtain⟨Z,aa,rfl,D,H⟩:=ad;have am:=zXJ qa qb;refine w_c I ?_;replace hna:=hna.mono G;replace hda:=hda.mono G;replace hnb:=hnb.mono G;replace hdb:=hdb.mono G;refine sC (ev2 I I) call149 (λw hs=>yAU hs hna hda hnb hdb oM oM) λan h2 ac ab=>?_;obtain⟨J,M,rfl,O,U⟩:=ab;have aj:=zXK qa qb;refine xD I (λ_ _=>yV (ps':=[(0,_),(1,_)]) (vs:=[vB ((zGE qa qb).num<0),Z,aa,vB ((mQ qa qb).num<0),J,M]) underlying34 tP I (mF underlying34) e4z (xN (A:=[]) (B:=[_,_,_]) (C:=[_,_,_]) (cs:=[_,_,_]) (off:=0) (size:=3) I I I I I (xN (A:=[_,_,_]) (B:=[_,_,_]) (C:=[]) (cs:=[_,_,_]) (off:=3) (size:=3) I I I I I uT))) I ?_;replace D:=D.mono ac;replace H:=H.mono ac;refine gS (A:=[]) (q':=.var b4 34 [vB ((zGE qa qb).num<0),Z,aa,vB ((mQ qa qb).num<0),J,M]) I (zJ (k:=0) (cs:=[_,_,_,_,_,_]) (vs:=[_,_,_,_,_,_]) I I I (ocr I (ocu D (ocu H (ocr I (ocu O (ocu U oc0)))))) s8 (bL I)) I (go3 ?_);refine yI (λE S=>zS I (xR (cs:=[_,_,_,_,_,_]) mh0 underlying34 I s8 I) E S) ?_;exact⟨_,I,_,_,_,I,D,H,_,_,_,I,O,U,I⟩
theorem zN8{qa:Rat}{vna vda:Value}(hna:Us .u32 h0 vna (zB qa.num.natAbs))(hda:Us .u32 h0 vda (zB (wM qa.den)))(hqa:lq qa<=100000000000):
 Calls prog 53 #[.agg #[vB (qa.num<0),vna,vda]] w0 (Ret w0 h0 (λh r=>zK1 h r [qa,qa])):=by
 have ae:=cH;refine cb1 6 (.agg #[vB (qa.num<0),vna,vda]) func53 hs ?_;refine go2 ?_;refine zH (xS (cs:=[_,_,_]) I I) I I I ?_;intro v1 r1 ad;obtain⟨b1,rfl,rfl⟩:=ad;refine zH (wJ (cs:=[vB ((0:Rat).num<0),.slice none 0 0,.slice none 0 0,vB ((0:Rat).num<0),.slice none 0 0,.slice none 0 0]) tP I (by simp only[zb];rfl)) I I I ?_;intro v2 r2 ac;obtain⟨b2,rfl,rfl⟩:=ac;refine go6 ?_;refine cL (ev2 I I) call102 (λw hs=>zZ6 hs hna hda hna hda oM oM) λv5 h1 ah ab=>?_;have aa:=zXJ qa qa;have Z:=zXK qa qa;obtain⟨_,rfl,M,U,_,rfl,D,H,J,O,_,rfl,C,G,rfl⟩:=ab;refine xY (A:=[]) (r':=.var b2 34 [vB ((zGE qa qa).num<0),M,U,vB ((mQ qa qa).num<0),J,O]) (zJ (k:=0) (cs:=[_,_,_,_,_,_]) (vs:=[_,_,_,_,_,_]) I I I (ocr I (ocu D (ocu H (ocr I (ocu C (ocu G oc0)))))) s8 (bL I)) I I I (go3 ?_);refine yI (λE S=>zS I (xR (cs:=[_,_,_,_,_,_]) mh0 underlying34 I s8 I) E S) ?_;rw[zIS] at D H;rw[zIT] at C G;rw[zIS,zIT];exact⟨_,I,_,_,_,I,D,H,_,_,_,I,C,G,I⟩
theorem zU2{qa0:Rat}{vna0 vda0:Value}(hna0:Us .u32 h0 vna0 (zB qa0.num.natAbs))(hda0:Us .u32 h0 vda0 (zB (wM qa0.den))){qa1:Rat}{vna1 vda1:Value}(hna1:Us .u32 h0 vna1 (zB qa1.num.natAbs))(hda1:Us .u32 h0 vda1 (zB (wM qa1.den))){qb0:Rat}{vnb0 vdb0:Value}(hnb0:Us .u32 h0 vnb0 (zB qb0.num.natAbs))(hdb0:Us .u32 h0 vdb0 (zB (wM qb0.den))){qb1:Rat}{vnb1 vdb1:Value}(hnb1:Us .u32 h0 vnb1 (zB qb1.num.natAbs))(hdb1:Us .u32 h0 vdb1 (zB (wM qb1.den)))(hqa0:lq qa0<=100000000000)(hqa1:lq qa1<=100000000000)(hqb0:lq qb0<=100000000000)(hqb1:lq qb1<=100000000000):
 Calls prog 89 #[.agg #[vB (qa0.num<0),vna0,vda0,vB (qa1.num<0),vna1,vda1],.agg #[vB (qb0.num<0),vnb0,vdb0,vB (qb1.num<0),vnb1,vdb1]] w0 (Ret w0 h0 (λh r=>zK1 h r [qa0+qb0,qa1+qb1])):=by
 have ak:=cH;refine cb2 16 (.agg #[vB (qa0.num<0),vna0,vda0,vB (qa1.num<0),vna1,vda1]) (.agg #[vB (qb0.num<0),vnb0,vdb0,vB (qb1.num<0),vnb1,vdb1]) func89 hs ?_;refine go2 ?_;refine zH (xS (cs:=[_,_,_,_,_,_]) I I) I I I ?_;intro v2 r2 ai;obtain⟨b2,rfl,rfl⟩:=ai;refine zH (xS (cs:=[_,_,_,_,_,_]) I I) I I I ?_;intro v3 r3 ah;obtain⟨b3,rfl,rfl⟩:=ah;refine zH (wJ (cs:=[vB ((0:Rat).num<0),.slice none 0 0,.slice none 0 0,vB ((0:Rat).num<0),.slice none 0 0,.slice none 0 0]) tP I (by simp only[zb];rfl)) I I I ?_;intro v4 r4 ae;obtain⟨b4,rfl,rfl⟩:=ae;refine go3 ?_;refine zK 11 _ [] (zai 0 4 (zai 5 4 [(4,.c),(9,.c),(10,.q),(11,.t)])) yA nX zot nX (λr hr=>hr) (go8 ?_);refine w_c I (sC (ev2 I I) call70 (λw hs=>zJL hs hna0 hda0 hnb0 hdb0 oM oM) λv9 h1 G ad=>?_);obtain⟨Z,aa,rfl,D,H⟩:=ad;have am:=kW qa0 qb0;refine w_c I ?_;replace hna1:=hna1.mono G;replace hda1:=hda1.mono G;replace hnb1:=hnb1.mono G;replace hdb1:=hdb1.mono G;refine sC (ev2 I I) call70 (λw hs=>zJL hs hna1 hda1 hnb1 hdb1 oM oM) λan h2 ac ab=>?_;obtain⟨J,M,rfl,O,U⟩:=ab;have aj:=kW qa1 qb1;refine xD I (λ_ _=>yV (ps':=[(0,_),(1,_)]) (vs:=[vB ((qa0+qb0).num<0),Z,aa,vB ((qa1+qb1).num<0),J,M]) underlying34 tP I (mF underlying34) e4z (xN (A:=[]) (B:=[_,_,_]) (C:=[_,_,_]) (cs:=[_,_,_]) (off:=0) (size:=3) I I I I I (xN (A:=[_,_,_]) (B:=[_,_,_]) (C:=[]) (cs:=[_,_,_]) (off:=3) (size:=3) I I I I I uT))) I ?_;replace D:=D.mono ac;replace H:=H.mono ac;refine gS (A:=[]) (q':=.var b4 34 [vB ((qa0+qb0).num<0),Z,aa,vB ((qa1+qb1).num<0),J,M]) I (zJ (k:=0) (cs:=[_,_,_,_,_,_]) (vs:=[_,_,_,_,_,_]) I I I (ocr I (ocu D (ocu H (ocr I (ocu O (ocu U oc0)))))) s8 (bL I)) I (go3 ?_);refine yI (λE S=>zS I (xR (cs:=[_,_,_,_,_,_]) mh0 underlying34 I s8 I) E S) ?_;exact⟨_,I,_,_,_,I,D,H,_,_,_,I,O,U,I⟩
theorem zXC{n m:Int}(hm:0<m)(hm2:m<4611686018427387904):
 Calls prog 12 #[vI n,vI m] w0 (Ret w0 h0 (λ_ r=>r=vI (zTN n m))):=by
 have D:=zE6 n hm;refine cb2 14 (vI n) (vI m) func12 hs ?_;refine go9 ?_;refine gv (zS9 I I oM) I (u6 (λC=>?_) λC=>?_)
 ·
  refine rT ?_;refine zF I I ?_;rw[zTN,zau C]
 refine go9 ?_;refine zF I I ?_;rw[zTN,zae C]
theorem zPT{vl:Value}{xs:List Int}(hl:Is h0 vl xs):
 Calls prog 19 #[vl] w0 (Ret w0 h0 (λ_ r=>r=vB ((↑xs.length:Int)<=500))):=by
 refine cb1 6 vl func19 hs ?_;refine go8 ?_;refine gv (zH8 underlying32 I hl) I (go5 ?_);refine zF I I ?_
 rfl
theorem zTP{vl:Value}{xs:List Int}(hl:Is h0 vl xs):
 Calls prog 20 #[vl] w0 (rA w0 h0 (λ_ r L=>∃b,r=vP b 0/\L=[.var b 97 [vl,vI ↑0]])):=by
 refine cb1 6 vl func20 hs ?_;refine go8 ?_;refine gv (yV (ps':=[(0,_)]) (vs:=[vl,vI 0]) underlying97 zXY I (zV7 underlying97) e2z (xN (A:=[]) (B:=[_]) (C:=[_]) (cs:=[_]) (off:=0) (size:=1) I I I I hl.cells uT)) I (zH (xS (cs:=[_,_]) I I) I I I ?_);intro G H D;obtain⟨J,rfl,rfl⟩:=D;refine go4 ?_;refine qL I I ?_;exact⟨_,I,I⟩
end
theorem vJ{w0 w:World}{h0 h:Mem}{b k:Nat}{vl:Value}{xs:List Int}(hl:Is h vl xs)(hk:k<=xs.length){n:Int}(hn:0<n)(hn2:n<4611686018427387904){L:List Res}(hs:St w0 h0 (.var b 97 [vl,vI ↑k]::L) h w):
 Calls prog 33 #[vP b 0,vI n] w (bC w0 h0 h L (λg r q'=>∃k':Nat,∃z,q'=.var b 97 [vl,vI ↑k']/\k'<=xs.length/\(r=vI z/\0<=z/\z<n))):=by
 have M:=hl.lt63;refine jE (n:=35) (e:=[(0,vP b 0),(1,vI n)]) (vs:=[vP b 0,vI n]) func33 rfl rfl (bL rfl) hs e2z (go7 ?_);refine zK 10 _ [] (zai 0 10 []) yA nX zot nX (λr H=>H) (go1 ?_);refine xD I (λ_ _=>sP I) I (go3 ?_);refine xD I (λ_ _=>sP I) I (go2 ?_);refine w_q I (λh' L' hh hR=>zH8 underlying32 I (hl.mono hh)) I (gc3 (λG=>?_) λG=>?_)
 ·
  refine go7 ?_;refine qL I I ?_;exact⟨_,(zme _),(MLe.refl _),k,0,I,hk,I,by omega,hn⟩
 refine go5 ?_;refine gv (sP I) I (go3 ?_);refine gv (sP I) I (go1 ?_);refine xY (A:=[]) (r':=.var b 97 [vl,vI ((↑k:Int)+(1:Int))]) (zJ (k:=1) (cs:=[_,_]) (vs:=[_]) I I I I yCN (bL I)) I I I (go3 ?_);refine zK 14 _ [] (zai 0 12 [(12,.c),(13,.q)]) yA nX zot nX (λr H=>H) (go1 ?_);refine xD I (λ_ _=>sP I) I (go3 ?_);refine xD I (λ_ _=>sP I) I (go3 ?_);refine w_q I (λh' L' hh hR=>zL1 (k) underlying32 sizeOf3 I I (hl.mono hh) oM oM) I (w_q I (λh' L' hh hR=>zOY isAgg3 I (hl.mono hh) oM) I (go1 ?_));refine w_c I (sC (ev2 I I) call12 (λw hs=>zXC hs oM oM) λO h1 J D=>?_);have C:=zPO ((xs).getD (k) 0) (q:=n) oM;subst D;refine go4 ?_;refine qL I I ?_;exact⟨_,(zme _),J,k+1,_,I,by omega,I,C.1,C.2⟩
theorem zND{w0 w:World}{h0 h:Mem}{b k:Nat}{vl:Value}{xs:List Int}(hl:Is h vl xs)(hk:k<=xs.length){L:List Res}(hs:St w0 h0 (.var b 97 [vl,vI ↑k]::L) h w):
 Calls prog 106 #[vP b 0] w (bC w0 h0 h L (λg r q'=>∃k':Nat,∃q,q'=.var b 97 [vl,vI ↑k']/\k'<=xs.length/\(lq q<=2/\vD g r q))):=by
 refine jE (n:=18) (e:=[(0,vP b 0)]) (vs:=[vP b 0]) func106 rfl rfl (bL rfl) hs ⟨rfl,y3i⟩ (go2 ?_);refine zH (wJ (cs:=[vB ((0:Rat).num<0),.slice none 0 0,.slice none 0 0]) yR I (by simp only[zb];rfl)) I I I ?_;intro v2 r2 an;obtain⟨b2,rfl,rfl⟩:=an;refine go5 ?_;refine yL (A:=[_]) (vs:=[_,vI (13)]) call33 e2z (λX w hs=>vJ hl zow oM oM hs) I ?_;intro v5 g5 q5 O am;obtain⟨k5,z5,rfl,bf,rfl,bc,be⟩:=am;refine go7 ?_;replace hl:=hl.mono O;refine yL (A:=[_]) (vs:=[_,vI (4)]) call33 e2z (λX w hs=>vJ hl zow oM oM hs) I ?_;intro v7 g7 q7 M ak;obtain⟨k7,z7,rfl,aq,rfl,bb,bd⟩:=ak;refine gc3 (λar=>?_) λar=>?_
 ·
  refine go5 ?_;replace hl:=hl.mono M;refine yL (A:=[_]) (vs:=[_,vI (4)]) call33 e2z (λX w hs=>vJ hl zow oM oM hs) I ?_;intro ay bg az aj ah;obtain⟨ba,U,rfl,ai,rfl,au,av⟩:=ah;refine gv (zV (p:=1) I I oM oM) I (cL (ev2 I I) call10 (λw hs=>zCX hs oM oM oM oM) λax h1 J ae=>?_);have ap:=zB0 (n:=(z5-(6:Int))) (d:=((1:Int)+U)) oM oM oM oM;obtain⟨aa,ac,rfl,D,H⟩:=ae;refine xY (A:=[]) (r':=.var b2 26 [vB ((kJ (z5-(6:Int)) ((1:Int)+U)).num<0),aa,ac]) (zJ (k:=0) (cs:=[_,_,_]) (vs:=[_,_,_]) I I I (ocr I (ocu D (ocu H oc0))) yC (bL I)) I I I (go4 ?_);refine fK (λE S=>zS I (xR (cs:=[_,_,_]) mh0 underlying26 I yC I) E S) ?_;exact⟨_,(.cons _ (zme _)),(((O.trans M).trans aj).trans J),_,_,I,ai,by omega,_,_,I,D,H⟩
 refine go6 ?_;refine cL (ev1 I) call39 (λw hs=>zLS hs oM oM) λaw h1 J ad=>?_;obtain⟨Z,ab,rfl,C,G⟩:=ad;have ao:=nR (z5-(6:Int)) oM oM;refine xY (A:=[]) (r':=.var b2 26 [vB (((((z5-(6:Int)):Int):Rat)).num<0),Z,ab]) (zJ (k:=0) (cs:=[_,_,_]) (vs:=[_,_,_]) I I I (ocr I (ocu C (ocu G oc0))) yC (bL I)) I I I (go3 ?_);refine fK (λE S=>zS I (xR (cs:=[_,_,_]) mh0 underlying26 I yC I) E S) ?_;exact⟨_,(.cons _ (zme _)),((O.trans M).trans J),_,_,I,aq,by omega,_,_,I,C,G⟩
theorem nO{w0 w:World}{h0 h:Mem}{b k:Nat}{vl:Value}{xs:List Int}(hl:Is h vl xs)(hk:k<=xs.length){L:List Res}(hs:St w0 h0 (.var b 97 [vl,vI ↑k]::L) h w):Calls prog 106 #[vP b 0] w (bC w0 h0 h L (λg r q'=>∃k':Nat,∃q:Rat,q'=.var b 97 [vl,vI ↑k']/\k'<=xs.length/\(rpQ 2).Is g r q)):=
 (zND hl hk hs).mono (zOI λg r q' x=>by
  obtain⟨k',q,e,h1,h2,h3⟩:=x;exact⟨k',q,e,h1,mS h3 h2⟩)
end Go.Proofs.YtboaboflnckgoaaGreat
namespace Bk
open Go Go.RowKit
theorem Is.up{h h':Mem}{v:Value}{xs:List Int}(r:Is h v xs)(hm:MLe h h':=by exact mle):Is h' v xs:=r.mono hm
end Bk
namespace Go.Proofs.YtboaboflnckgoaaGreat
open Bk Go Tryz
attribute [local irreducible] GL GC GQ W OpV
section
variable{w0:World}{h0:Mem}(hs:MLe h0 (mem w0))
include hs
theorem zWO{k l:Nat}{va:Value}{a:Tq}(ra:(tPt k).Is h0 va a){vb:Value}{b:Tq}(rb:(tPt l).Is h0 vb b)(hcd0:k+l<=1000000000):
 Calls prog 34 #[va,vb] w0 (Ret w0 h0 (λh r=>(tPt (k+3*l+3)).Is h r (T3.mk (a.x+b.x) (a.y+b.y) (a.z+b.z)))):=by
 refine cb2 20 va vb func34 hs ?_;refine go2 ?_;refine nB ra λb2 bm ar=>(nB rb λb3 bl ac=>(nA (ρ:=(tPt (k+3*l+3))) (X:=zT) yO (yS (yE oM)) λb4 bk bb=>(go9 ?_)));refine gN (go4 ?_);refine gv (OpV.tr dC (yH (q:=3) I I)) I (go7 ?_);refine zK 9 _ [] (zai 0 7 [(7,.c),(8,.q),(9,.t)]) yA nX zot nX (λr hr=>hr) (go3 ?_);refine wX I (xB yJ (y4e pH) ar) λba am=>(go2 ?_);refine wX I (xB yJ (y4e pH) ac) λax ai=>?_;refine w_c I (sC (ev2 I I) call37 (λw hs=>pG hs am ai oM) λZ h1 bj G=>?_)
 change (rpQ (k+l+1)).Is h1 Z (a.x+b.x) at G
 refine go1 ?_;have ap:=(Le.t (Le.q (l:=k+l+1) oM)).R ar;refine yG (A:=[_,_]) I (uB sizeOf26 (y4e pH) ap G) λbg M=>(go5 ?_);refine gv ((zV (q:=1) I I oM oM).cv (show _=vI (1) from I)) I (go2 ?_);refine xM (go4 ?_);refine gv (OpV.tr dC (yH (q:=3) I I)) I (go7 ?_);refine zK 9 _ [] (zai 0 7 [(7,.c),(8,.q),(9,.t)]) yA nX zot nX (λr hr=>hr) (go3 ?_);refine wX I (xB yJ (y5i pH) M) λaz ak=>(go2 ?_);refine wX I (xB yJ (y5i pH) ac) λaw ah=>?_;refine w_c I (sC (ev2 I I) call37 (λw hs=>pG hs ak ah oM) λU h2 bi D=>?_)
 change (rpQ ((k+l+1)+l+1)).Is h2 U (a.y+b.y) at D
 replace D:=Rp.Is.le D (Le.q (l:=k+2*l+2) oM);refine go1 ?_;have ao:=(Le.t (Le.q (l:=k+2*l+2) oM)).R M;refine yG (A:=[_,_]) I (uB sizeOf26 (y5i pH) ao D) λbf J=>(go5 ?_);refine gv ((zV (q:=1) I I oM oM).cv (show _=vI (2) from I)) I (go2 ?_);refine xM (go4 ?_);refine gv (OpV.tr dC (yH (q:=3) I I)) I (go7 ?_);refine zK 9 _ [] (zai 0 7 [(7,.c),(8,.q),(9,.t)]) yA nX zot nX (λr hr=>hr) (go3 ?_);refine wX I (xB yJ (y5u pH) J) λay aj=>(go2 ?_);refine wX I (xB yJ (y5u pH) ac) λav ae=>?_;refine w_c I (sC (ev2 I I) call37 (λw hs=>pG hs aj ae oM) λO h3 bh C=>?_)
 change (rpQ ((k+2*l+2)+l+1)).Is h3 O (a.z+b.z) at C
 replace C:=Rp.Is.le C (Le.q (l:=k+3*l+3) oM);refine go1 ?_;have an:=(Le.t (Le.q (l:=k+3*l+3) oM)).R J;refine yG (A:=[_,_]) I (uB sizeOf26 (y5u pH) an C) λbe aq=>(go5 ?_);refine gv ((zV (q:=1) I I oM oM).cv (show _=vI (3) from I)) I (go2 ?_);refine xM (go4 ?_);refine gv (OpV.fa dC (yH (q:=3) I I)) I (qE ?_);refine lX (xB zR pH aq) λau ad=>(zU (A:=[]) (uB sizeOf53 pH bb ad) λbc ab=>(go3 ?_));refine xH (qK (t:=4) zR mh0 I ab) ?_;intro bd H aa;refine yI (λE S=>zS I H E S) ?_;exact aa
theorem zMC{k l:Nat}{va:Value}{a:Tq}(ra:(tPt k).Is h0 va a){vb:Value}{b:Tq}(rb:(tPt l).Is h0 vb b)(hcd0:k+l<=1000000000):
 Calls prog 125 #[va,vb] w0 (Ret w0 h0 (λh r=>(tPt (k+3*l+3)).Is h r (T3.mk (a.x-b.x) (a.y-b.y) (a.z-b.z)))):=by
 refine cb2 20 va vb func125 hs ?_;refine go2 ?_;refine nB ra λb2 bm ar=>(nB rb λb3 bl ai=>(nA (ρ:=(tPt (k+3*l+3))) (X:=zT) yO (yS (yE oM)) λb4 bk bb=>(go9 ?_)));refine gN (go4 ?_);refine gv (OpV.tr dC (yH (q:=3) I I)) I (go7 ?_);refine zK 9 _ [] (zai 0 7 [(7,.c),(8,.q),(9,.t)]) yA nX zot nX (λr hr=>hr) (go3 ?_);refine wX I (xB yJ (y4e pH) ar) λba aq=>(go2 ?_);refine wX I (xB yJ (y4e pH) ai) λax an=>?_;refine w_c I (sC (ev2 I I) call16 (λw hs=>tM hs aq an oM) λZ h1 bj J=>?_)
 change (rpQ (k+l+1)).Is h1 Z (a.x-b.x) at J
 refine go1 ?_;have ac:=(Le.t (Le.q (l:=k+l+1) oM)).R ar;refine yG (A:=[_,_]) I (uB sizeOf26 (y4e pH) ac J) λbf H=>(go5 ?_);refine gv ((zV (q:=1) I I oM oM).cv (show _=vI (1) from I)) I (go2 ?_);refine xM (go4 ?_);refine gv (OpV.tr dC (yH (q:=3) I I)) I (go7 ?_);refine zK 9 _ [] (zai 0 7 [(7,.c),(8,.q),(9,.t)]) yA nX zot nX (λr hr=>hr) (go3 ?_);refine wX I (xB yJ (y5i pH) H) λaz ap=>(go2 ?_);refine wX I (xB yJ (y5i pH) ai) λaw am=>?_;refine w_c I (sC (ev2 I I) call16 (λw hs=>tM hs ap am oM) λU h2 bi D=>?_)
 change (rpQ ((k+l+1)+l+1)).Is h2 U (a.y-b.y) at D
 replace D:=Rp.Is.le D (Le.q (l:=k+2*l+2) oM);refine go1 ?_;have ab:=(Le.t (Le.q (l:=k+2*l+2) oM)).R H;refine yG (A:=[_,_]) I (uB sizeOf26 (y5i pH) ab D) λbe G=>(go5 ?_);refine gv ((zV (q:=1) I I oM oM).cv (show _=vI (2) from I)) I (go2 ?_);refine xM (go4 ?_);refine gv (OpV.tr dC (yH (q:=3) I I)) I (go7 ?_);refine zK 9 _ [] (zai 0 7 [(7,.c),(8,.q),(9,.t)]) yA nX zot nX (λr hr=>hr) (go3 ?_);refine wX I (xB yJ (y5u pH) G) λay ao=>(go2 ?_);refine wX I (xB yJ (y5u pH) ai) λav ak=>?_;refine w_c I (sC (ev2 I I) call16 (λw hs=>tM hs ao ak oM) λO h3 bh C=>?_)
 change (rpQ ((k+2*l+2)+l+1)).Is h3 O (a.z-b.z) at C
 replace C:=Rp.Is.le C (Le.q (l:=k+3*l+3) oM);refine go1 ?_;have aa:=(Le.t (Le.q (l:=k+3*l+3) oM)).R G;refine yG (A:=[_,_]) I (uB sizeOf26 (y5u pH) aa C) λbd ah=>(go5 ?_);refine gv ((zV (q:=1) I I oM oM).cv (show _=vI (3) from I)) I (go2 ?_);refine xM (go4 ?_);refine gv (OpV.fa dC (yH (q:=3) I I)) I (qE ?_);refine lX (xB zR pH ah) λau aj=>(zU (A:=[]) (uB sizeOf53 pH bb aj) λbc ae=>(go3 ?_));refine xH (qK (t:=4) zR mh0 I ae) ?_;intro bg M ad;refine yI (λE S=>zS I M E S) ?_;exact ad
theorem zFZ{l k:Nat}{vq:Value}{q:Rat}(rq:(rpQ l).Is h0 vq q){va:Value}{a:Tq}(ra:(tPt k).Is h0 va a)(hcd0:k+l<=1000000000):
 Calls prog 111 #[vq,va] w0 (Ret w0 h0 (λh r=>(tPt (k+3*l+1)).Is h r (T3.mk (q*a.x) (q*a.y) (q*a.z)))):=by
 refine cb2 18 vq va func111 hs ?_;refine go2 ?_;refine nB rq λb2 bm ao=>(nB ra λb3 bl ar=>(nA (ρ:=(tPt (k+3*l+1))) (X:=zT) yO (yS (yE oM)) λb4 bk bb=>(go9 ?_)));refine gN (go4 ?_);refine gv (OpV.tr dC (yH (q:=3) I I)) I (go7 ?_);refine zK 7 _ [] (zai 0 5 [(5,.c),(6,.q),(7,.t)]) yA nX zot nX (λr hr=>hr) (go1 ?_);refine wX I (xB yJ pH ao) λba aq=>(go2 ?_);refine wX I (xB yJ (y4e pH) ar) λaz ap=>?_;refine w_c I (sC (ev2 I I) call9 (λw hs=>qS hs aq ap oM) λae h1 bj G=>?_)
 change (rpQ (l+k)).Is h1 ae (q*a.x) at G
 replace G:=Rp.Is.le G (Le.q (l:=k+l) oM);refine go1 ?_;have aj:=(Le.t (Le.q (l:=k+l) oM)).R ar;refine yG (A:=[_]) I (uB sizeOf26 (y4e pH) aj G) λbf J=>(go5 ?_);refine gv ((zV (q:=1) I I oM oM).cv (show _=vI (1) from I)) I (go2 ?_);refine xM (go4 ?_);refine gv (OpV.tr dC (yH (q:=3) I I)) I (go7 ?_);refine zK 7 _ [] (zai 0 5 [(5,.c),(6,.q),(7,.t)]) yA nX zot nX (λr hr=>hr) (go1 ?_);refine wX I (xB yJ pH ao) λay ac=>(go2 ?_);refine wX I (xB yJ (y5i pH) J) λaw aa=>?_;refine w_c I (sC (ev2 I I) call9 (λw hs=>qS hs ac aa oM) λO h2 bi D=>?_)
 change (rpQ (l+(k+l))).Is h2 O (q*a.y) at D
 replace D:=Rp.Is.le D (Le.q (l:=k+2*l) oM);refine go1 ?_;have ai:=(Le.t (Le.q (l:=k+2*l) oM)).R J;refine yG (A:=[_]) I (uB sizeOf26 (y5i pH) ai D) λbe H=>(go5 ?_);refine gv ((zV (q:=1) I I oM oM).cv (show _=vI (2) from I)) I (go2 ?_);refine xM (go4 ?_);refine gv (OpV.tr dC (yH (q:=3) I I)) I (go7 ?_);refine zK 7 _ [] (zai 0 5 [(5,.c),(6,.q),(7,.t)]) yA nX zot nX (λr hr=>hr) (go1 ?_);refine wX I (xB yJ pH ao) λax ab=>(go2 ?_);refine wX I (xB yJ (y5u pH) H) λav Z=>?_;refine w_c I (sC (ev2 I I) call9 (λw hs=>qS hs ab Z oM) λM h3 bh C=>?_)
 change (rpQ (l+(k+2*l))).Is h3 M (q*a.z) at C
 replace C:=Rp.Is.le C (Le.q (l:=k+3*l) oM);refine go1 ?_;have ah:=(Le.t (Le.q (l:=k+3*l) oM)).R H;refine yG (A:=[_]) I (uB sizeOf26 (y5u pH) ah C) λbd an=>(go5 ?_);refine gv ((zV (q:=1) I I oM oM).cv (show _=vI (3) from I)) I (go2 ?_);refine xM (go4 ?_);refine gv (OpV.fa dC (yH (q:=3) I I)) I (qE ?_);refine lX (xB zR pH an) λau U=>(zU (A:=[]) (uB sizeOf53 pH bb (U.le (Le.t (Le.q (l:=k+3*l+1) oM)))) λbc am=>(go3 ?_));refine xH (qK (t:=4) zR mh0 I am) ?_;intro bg ad ak;refine yI (λE S=>zS I ad E S) ?_;exact ak
theorem tO{x:Int}(hx1:-9223372036854775808<=x)(hx2:x<9223372036854775808){y:Int}(hy1:-9223372036854775808<=y)(hy2:y<9223372036854775808){z:Int}(hz1:-9223372036854775808<=z)(hz2:z<9223372036854775808):
 Calls prog 45 #[vI x,vI y,vI z] w0 (Ret w0 h0 (λh r=>(tPt 2).Is h r (T3.mk ((x:Int):Rat) ((y:Int):Rat) ((z:Int):Rat)))):=by
 refine cb3 14 (vI x) (vI y) (vI z) func45 hs ?_;refine go2 ?_;refine nA (ρ:=(tPt 1)) (X:=zT) yO (yS (yE dC)) λb6 aj J=>(go5 ?_);refine cL (ev1 I) call39 (λw hs=>qI hs oM oM) λv8 h1 ai r8=>(go1 ?_);refine cL (ev1 I) call39 (λw hs=>qI hs oM oM) λad h2 ah U=>(go1 ?_);refine cL (ev1 I) call39 (λw hs=>qI hs oM oM) λac h3 ae O=>(lX (xV (ρ:=(tPt 2)) (wI (ps':=[(0,_),(1,_),(2,_)]) underlying53 yO I I sizeOf26 e6z I (yS (yE dC)) (zC I (y4e (y3u _)) r8.up (zC I (y5i (y3u _)) U.up (zC I (y5u (y3u _)) O zQ))))) λab M=>?_);have D:=(Le.t (Le.q (l:=2) dC)).R J;refine zU (A:=[]) (uB sizeOf53 pH D M) λZ H=>(go3 ?_);refine xH (qK (t:=6) zR mh0 I H) ?_;intro aa C G;refine yI (λE S=>zS I C E S) ?_;exact G
end
end Go.Proofs.YtboaboflnckgoaaGreat
namespace Bk
open Go Go.RowKit
open Classical
abbrev Pl:=Pt×Rat
theorem yAF{x:Rat}:yU x=1↔0<x:=by
 have h2:=xW x;rw[<-y0];omega
theorem gH{a b:Pt}:a=b↔a.x=b.x/\a.y=b.y/\a.z=b.z:=by cases a;cases b;exact T3.mk.injEq ..▸Iff.rfl
def axI(n:Pt):Nat:=if 0<n.z then 0 else if n.z<0 then 1 else if 0<n.y then 2 else if n.y<0 then 0 else if 0<n.x then 1 else if n.x<0 then 2 else 1
def axJ(n:Pt):Nat:=if 0<n.z then 1 else if n.z<0 then 0 else if 0<n.y then 0 else if n.y<0 then 2 else if 0<n.x then 2 else if n.x<0 then 1 else 2
def axK(n:Pt):Nat:=if n.z≠0 then 2 else if n.y≠0 then 1 else 0
theorem zCH(n:Pt):(0<n.z/\axI n=0/\axJ n=1/\axK n=2)\/(n.z<0/\axI n=1/\axJ n=0/\axK n=2)\/(n.z=0/\0<n.y/\axI n=2/\axJ n=0/\axK n=1)\/(n.z=0/\n.y<0/\axI n=0/\axJ n=2/\axK n=1)\/
 (n.z=0/\n.y=0/\0<n.x/\axI n=1/\axJ n=2/\axK n=0)\/(n.z=0/\n.y=0/\n.x<0/\axI n=2/\axJ n=1/\axK n=0)\/(n.z=0/\n.y=0/\n.x=0/\axI n=1/\axJ n=2/\axK n=0):=by
 have C:∀a:Rat,0<a\/(a<0/\¬0<a)\/(a=0/\¬0<a/\¬a<0):=λa=>by grind
 unfold axI axJ axK
 rcases C n.z with h|⟨h,h'⟩|⟨h,h',h''⟩
 · left;simp only[zau h,zau (show n.z≠0 by grind)];exact⟨h,y3i,y3i,y3i⟩
 · right;left;simp only[zae h',zau h,zau (show n.z≠0 by grind)];exact⟨h,y3i,y3i,y3i⟩
 · simp only[zae h',zae h'',zae (show ¬n.z≠0 by grind)]
   rcases C n.y with k|⟨k,k'⟩|⟨k,k',k''⟩
   · right;right;left;simp only[zau k,zau (show n.y≠0 by grind)];exact⟨h,k,y3i,y3i,y3i⟩
   · right;right;right;left;simp only[zae k',zau k,zau (show n.y≠0 by grind)];exact⟨h,k,y3i,y3i,y3i⟩
   · simp only[zae k',zae k'',zae (show ¬n.y≠0 by grind)]
     rcases C n.x with l|⟨l,l'⟩|⟨l,l',l''⟩
     · right;right;right;right;left;simp only[zau l];exact⟨h,k,l,y3i,y3i,y3i⟩
     · right;right;right;right;right;left;simp only[zae l',zau l];exact⟨h,k,l,y3i,y3i,y3i⟩
     · right;right;right;right;right;right;simp only[zae l',zae l''];exact⟨h,k,l,y3i,y3i,y3i⟩
theorem zQH(n:Pt):axI n+axJ n<=3/\axI n<3/\axJ n<3/\axK n=3-axI n-axJ n:=by
 rcases zCH n with h|h|h|h|h|h|h<;>omega
theorem zZG(n:Pt):axI n<3:=(zQH n).2.1
theorem zZF(n:Pt):axJ n<3:=(zQH n).2.2.1
theorem yCF(n:Pt):n.at (axK n)=0↔n=T3.mk (0:Rat) 0 0:=by
 obtain⟨x,y,z⟩:=n;rw[T3.mk.injEq]
 rcases zCH ⟨x,y,z⟩ with h|h|h|h|h|h|h<;>simp only at h<;>obtain⟨h,h1⟩:=h
 all_goals first|rw[h1.2.2]|rw[h1.2.2.2]|rw[h1.2.2.2.2]
 all_goals simp only[T3.at]
 all_goals grind
def fX(pl:Pl)(p:Pt):Pt:=T3.mk (p.at (axI pl.1)) (p.at (axJ pl.1)) (0:Rat)
def zXQ(pl:Pl)(q:Pt):Rat:=if pl.1.at (axK pl.1)=0 then 0 else(pl.2-(pl.1.at (axI pl.1)*q.x+pl.1.at (axJ pl.1)*q.y))/pl.1.at (axK pl.1)
def j9(pl:Pl)(q:Pt):Pt:=if pl.1.at (axK pl.1)=0 then T3.mk (0:Rat) 0 0 else(((T3.mk (0:Rat) 0 0).set (axI pl.1) q.x).set (axJ pl.1) q.y).set (axK pl.1) (zXQ pl q)
def xO(a b:Pt):Rat:=a.x*b.x+a.y*b.y+a.z*b.z
def xC(a b:Pt):Pt:=T3.mk (a.y*b.z-a.z*b.y) (a.z*b.x-a.x*b.z) (a.x*b.y-a.y*b.x)
def kZ(a b:Pt):Pt:=T3.mk (a.x-b.x) (a.y-b.y) (a.z-b.z)
theorem yC8(a b c:Pt):uU [a,b,c] 0 1 3=(b.x-a.x)*(c.y-a.y)-(b.y-a.y)*(c.x-a.x):=by
 simp[uU,gp,T3.at];grind
theorem zHT{ni nj nk d ai aj ak bi bj bk ci cj ck:Rat}(ha:nk*ak=d-(ni*ai+nj*aj))(hb:nk*bk=d-(ni*bi+nj*bj))(hc:nk*ck=d-(ni*ci+nj*cj)):
 nk*(((bj-aj)*(ck-ak)-(bk-ak)*(cj-aj))*ni+((bk-ak)*(ci-ai)-(bi-ai)*(ck-ak))*nj+((bi-ai)*(cj-aj)-(bj-aj)*(ci-ai))*nk)=(ni*ni+nj*nj+nk*nk)*((bi-ai)*(cj-aj)-(bj-aj)*(ci-ai)):=by
 grind
theorem zLI(a:Rat):vH a 0=yU a:=by rw[zYU,show a-0=a by grind]
theorem iM{c:Rat}(hc:0<c)(x:Rat):yU (c*x)=yU x:=by
 have h:=zYV x 0 c;rw[Rat.zero_mul,zLI,zLI,yAF.2 hc,Int.mul_one,Rat.mul_comm] at h;exact h
theorem zH3{c e x y:Rat}(hc:0<c)(he:0<e)(h:c*x=e*y):yU x=yU y:=by
 rw[<-iM hc x,<-iM he y,h]
theorem zU1{i j k:Rat}(hk:k≠0):0<i*i+j*j+k*k:=by
 have h1:0<=i*i:=by rcases @Rat.le_total 0 i with h|h;exact zod h h;have:=zod (a:=-i) (b:=-i) zo2 zo2;grind
 have h2:0<=j*j:=by rcases @Rat.le_total 0 j with h|h;exact zod h h;have:=zod (a:=-j) (b:=-j) zo2 zo2;grind
 have h3:0<k*k:=by
  rcases @Rat.le_total 0 k with h|h
  · exact z8i zo2 zo2
  · have:=z8i (a:=-k) (b:=-k) zo2 zo2;grind
 grind
theorem zET{n d m q:Rat}(h:¬n=0):n*((d-m)/n)=d-m:=by
 rw[Rat.mul_comm,y0i h]
theorem zE3{ni nj nk d ai aj ak bi bj bk ci cj ck:Rat}(hk:0<nk)(ha:nk*ak=d-(ni*ai+nj*aj))(hb:nk*bk=d-(ni*bi+nj*bj))(hc:nk*ck=d-(ni*ci+nj*cj)){X:Rat}
    (hX:X=((bj-aj)*(ck-ak)-(bk-ak)*(cj-aj))*ni+((bk-ak)*(ci-ai)-(bi-ai)*(ck-ak))*nj+((bi-ai)*(cj-aj)-(bj-aj)*(ci-ai))*nk):
    yU ((bi-ai)*(cj-aj)-(bj-aj)*(ci-ai))=yU X:=by
 rw[hX];exact(zH3 hk (zU1 zo2) (zHT ha hb hc)).symm
theorem zE4{ni nj nk d ai aj ak bi bj bk ci cj ck:Rat}(hk:nk<0)(ha:nk*ak=d-(ni*ai+nj*aj))(hb:nk*bk=d-(ni*bi+nj*bj))(hc:nk*ck=d-(ni*ci+nj*cj)){X:Rat}
    (hX:X= -(((bj-aj)*(ck-ak)-(bk-ak)*(cj-aj))*ni+((bk-ak)*(ci-ai)-(bi-ai)*(ck-ak))*nj+((bi-ai)*(cj-aj)-(bj-aj)*(ci-ai))*nk)):
    yU ((bi-ai)*(cj-aj)-(bj-aj)*(ci-ai))=yU X:=by
 refine(zH3 (c:=-nk) zo2 (zU1 (i:=ni) (j:=nj) (k:=nk) zo2) ?_).symm;rw[hX,<-zHT ha hb hc];grind
theorem zUO(pl:Pl)(p q r:Pt)(h:¬pl.1.at (axK pl.1)=0):
 yU (uU [fX pl (j9 pl p),fX pl (j9 pl q),fX pl (j9 pl r)] 0 1 3)=yU (xO (xC (kZ (j9 pl q) (j9 pl p)) (kZ (j9 pl r) (j9 pl p))) pl.1):=by
 rw[yC8];have O:=zET (d:=pl.2) (m:=pl.1.at (axI pl.1)*p.x+pl.1.at (axJ pl.1)*p.y) (q:=0) h;have M:=zET (d:=pl.2) (m:=pl.1.at (axI pl.1)*q.x+pl.1.at (axJ pl.1)*q.y) (q:=0) h;have J:=zET (d:=pl.2) (m:=pl.1.at (axI pl.1)*r.x+pl.1.at (axJ pl.1)*r.y) (q:=0) h;unfold j9 zXQ fX;rw[zae h,zae h,zae h,zae h,zae h,zae h];generalize (pl.2-(pl.1.at (axI pl.1)*p.x+pl.1.at (axJ pl.1)*p.y))/pl.1.at (axK pl.1)=u at *;generalize (pl.2-(pl.1.at (axI pl.1)*q.x+pl.1.at (axJ pl.1)*q.y))/pl.1.at (axK pl.1)=v at *;generalize (pl.2-(pl.1.at (axI pl.1)*r.x+pl.1.at (axJ pl.1)*r.y))/pl.1.at (axK pl.1)=w at *;obtain⟨⟨x,y,z⟩,d⟩:=pl;obtain⟨p1,p2,p3⟩:=p;obtain⟨q1,Z,U⟩:=q;obtain⟨r1,r2,r3⟩:=r
 rcases zCH ⟨x,y,z⟩ with e|e|e|e|e|e|e
 · obtain⟨H,G,D,C⟩:=e
   simp only[G,D,C,T3.at,T3.set,xO,xC,kZ] at *;exact zE3 H O M J zo2
 · obtain⟨H,G,D,C⟩:=e
   simp only[G,D,C,T3.at,T3.set,xO,xC,kZ] at *;exact zE4 H O M J zo2
 · obtain⟨h1,H,G,D,C⟩:=e
   simp only[G,D,C,T3.at,T3.set,xO,xC,kZ] at *;exact zE3 H O M J zo2
 · obtain⟨h1,H,G,D,C⟩:=e
   simp only[G,D,C,T3.at,T3.set,xO,xC,kZ] at *;exact zE4 H O M J zo2
 · obtain⟨h1,h2,H,G,D,C⟩:=e
   simp only[G,D,C,T3.at,T3.set,xO,xC,kZ] at *;exact zE3 H O M J zo2
 · obtain⟨h1,h2,H,G,D,C⟩:=e
   simp only[G,D,C,T3.at,T3.set,xO,xC,kZ] at *;exact zE4 H O M J zo2
 · obtain⟨h1,h2,h3,G,D,C⟩:=e
   rw[C] at h;exact absurd h3 h
theorem yCG(n:Pt):(axI n=0/\axJ n=1/\axK n=2)\/(axI n=1/\axJ n=0/\axK n=2)\/(axI n=2/\axJ n=0/\axK n=1)\/(axI n=0/\axJ n=2/\axK n=1)\/(axI n=1/\axJ n=2/\axK n=0)\/(axI n=2/\axJ n=1/\axK n=0):=by
 rcases zCH n with h|h|h|h|h|h|h<;>omega
theorem zDB{s:Pl}{p:Pt}(h:¬s.1.at (axK s.1)=0)(hs:yU (xO s.1 p-s.2)=0):j9 s (fX s p)=p:=by
 rw[uJ] at hs;have C:=zET (d:=s.2) (m:=s.1.at (axI s.1)*p.at (axI s.1)+s.1.at (axJ s.1)*p.at (axJ s.1)) (q:=0) h;unfold j9 zXQ fX;rw[zae h,zae h];simp only;generalize (s.2-(s.1.at (axI s.1)*p.at (axI s.1)+s.1.at (axJ s.1)*p.at (axJ s.1)))/s.1.at (axK s.1)=u at *;obtain⟨⟨x,y,z⟩,d⟩:=s;obtain⟨a,b,c⟩:=p;have hz:∀{n u v:Rat},¬n=0->n*u=n*v->u=v:=λ{n u v} h e=>by
  have h1:n*(u-v)=0:=by grind
  rcases zoe.1 h1 with h2|h2
  · exact absurd h2 h
  · grind
 rcases yCG ⟨x,y,z⟩ with⟨e1,e2,e3⟩|⟨e1,e2,e3⟩|⟨e1,e2,e3⟩|⟨e1,e2,e3⟩|⟨e1,e2,e3⟩|⟨e1,e2,e3⟩<;>simp only[e1,e2,e3,T3.at,T3.set,xO] at *<;>rw[T3.mk.injEq]<;>simp only[true_and,and_true]<;>exact hz h zo2
end Bk
namespace Bk
open Classical
def i3(x y z:Int):Pt:=T3.mk ((x:Int):Rat) ((y:Int):Rat) ((z:Int):Rat)
end Bk
namespace Go.Proofs.YtboaboflnckgoaaGreat
open Bk Go Tryz
attribute [local irreducible] GL GC GQ W OpV
section
variable{w0:World}{h0:Mem}(hs:MLe h0 (mem w0))
include hs
theorem yA2{qa:Rat}{vna vda:Value}(hna:Us .u32 h0 vna (zB qa.num.natAbs))(hda:Us .u32 h0 vda (zB (wM qa.den)))(hqa:lq qa<=100000000000):
 Calls prog 54 #[.agg #[vB (qa.num<0),vna,vda]] w0 (Ret w0 h0 (λh r=>vD h r qa)):=by
 have ad:=wT qa;have ae:=vO qa;have ah:=wQ qa;refine cb1 12 (.agg #[vB (qa.num<0),vna,vda]) func54 hs ?_;refine go2 ?_;refine zH (xS (cs:=[_,_,_]) I I) I I I ?_;intro v1 r1 aa;obtain⟨b1,rfl,rfl⟩:=aa;refine zH (wJ (cs:=[vB ((0:Rat).num<0),.slice none 0 0,.slice none 0 0]) yR I (by simp only[zb];rfl)) I I I ?_;intro v2 r2 Z;obtain⟨b2,rfl,rfl⟩:=Z;refine go3 ?_;refine zK 9 _ [] (zai 0 4 [(5,.q),(6,.q),(4,.c),(7,.c),(8,.c),(9,.t)]) yA nX zot nX (λr hr=>hr) (go6 ?_);refine w_c I ?_;refine cT (vs:=[_]) call103 ⟨I,y3i⟩ (λw hs=>bJ hs hna oM) I ?_;intro v7 h1 L7 O U;obtain rfl:=U;refine w_c I ?_;replace hda:=hda.mono O;refine cT (vs:=[_]) call103 ⟨I,y3i⟩ (λw hs=>bJ hs hda oM) I ?_;intro H h2 ai M J;obtain rfl:=J;refine w_c I ?_;replace hna:=hna.mono (O.trans M);refine bM (A:=[_]) (by exact hna.lt) (by simp only[zfi,zgi,or_false];rintro r (rfl|rfl) _<;>simp) ?_;intro h3 ac D;replace hda:=hda.mono (M.trans ac);refine bM (A:=[]) (by exact hda.lt) (by simp only[zfi,zgi,or_false];rintro r (rfl|rfl) _<;>simp) ?_;intro h4 ab G;replace D:=D.mono ab;refine zVH (λX=>yV (ps':=[(0,_),(1,_),(2,_)]) (vs:=[vB (qa.num<0),v7,H]) underlying26 yR I (uE underlying26) e6z (xN (A:=[]) (B:=[_]) (C:=[_,_]) (cs:=[_]) (off:=0) (size:=1) I I I I I (xN (A:=[_]) (B:=[_]) (C:=[_]) (cs:=[_]) (off:=1) (size:=1) I I I I D.cells (xN (A:=[_,_]) (B:=[_]) (C:=[]) (cs:=[_]) (off:=2) (size:=1) I I I I G.cells uT)))) I (gS (A:=[]) (q':=.var b2 26 [vB (qa.num<0),v7,H]) I (zJ (k:=0) (cs:=[_,_,_]) (vs:=[_,_,_]) I I I (ocr I (ocu D (ocu G oc0))) yC (bL I)) I (go3 ?_));refine yI (λE S=>zS I (xR (cs:=[_,_,_]) mh0 underlying26 I yC I) E S) ?_;exact⟨_,_,I,D,G⟩
theorem zIN{k:Nat}{va:Value}{a:Rat}(ra:(rpQ k).Is h0 va a)(hcd0:k<=10000000000):
 Calls prog 54 #[va] w0 (Ret w0 h0 (λh r=>(rpQ k).Is h r a)):=by
 obtain⟨G,H,rfl,C,D,J⟩:=qR ra;exact(yA2 hs C D oM).mono (kC λh r x=>mS x oM)
theorem x0{k l:Nat}{va:Value}{a:Tq}(ra:(tPt k).Is h0 va a){vb:Value}{b:Tq}(rb:(tPt l).Is h0 vb b)(hcd0:k+l<=1000000000):
 Calls prog 27 #[va,vb] w0 (Ret w0 h0 (λ_ r=>r=vB (a=b))):=by
 refine cb2 24 va vb func27 hs ?_;refine go2 ?_;refine nB ra λb2 aa H=>(nB rb λb3 Z G=>(go6 ?_));refine lX (xB yJ (y4e pH) H) λv6 r6=>(go1 ?_);refine lX (xB yJ (y4e pH) G) λv8 r8=>(cL (ev2 I I) call15 (λw hs=>qH hs r6 r8 oM) λv9 h1 ar r9=>?_);obtain rfl:v9=vB (a.x=b.x):=r9;refine qM (ι:=Mem) 7 (λJ=>MLe h1 J) (λ_=>[(16,vB ((a.x=b.x)/\(a.y=b.y))),(2,vP b2 0),(3,vP b3 0)]) (λ_=>[.var b3 53 Z,.var b2 53 aa]) (λJ=>J) ?_ ?_
 ·
  refine yK (a.x=b.x) (λD=>?_) (λD=>?_)
  ·
   refine gT D I (go3 ?_);refine lX (xB yJ (y5i pH) H) λaq am=>(go3 ?_);refine lX (xB yJ (y5i pH) G) λap ak=>(go1 ?_);refine cL (ev2 I I) call15 (λw hs=>qH hs am ak oM) λad h2 M aj=>?_;obtain rfl:ad=vB (a.y=b.y):=aj;refine go2 ?_;refine zY h2 M ⟨?_,I,I,y3i⟩ I I;exact y2e (wE D)
  refine gF D I (go7 ?_);refine zY h1 (MLe.refl _) ⟨?_,I,I,y3i⟩ I I;exact y2e (wG D)
 intro C U;refine rN ?_;refine qM (ι:=Mem) 7 (λJ=>MLe C J) (λ_=>[(23,vB (((a.x=b.x)/\(a.y=b.y))/\(a.z=b.z)))]) (λ_=>[.var b3 53 Z,.var b2 53 aa]) (λJ=>J) ?_ ?_
 ·
  refine yK ((a.x=b.x)/\(a.y=b.y)) (λD=>?_) (λD=>?_)
  ·
   refine gT D I (go3 ?_);refine lX (xB yJ (y5u pH) H) λao ai=>(go3 ?_);refine lX (xB yJ (y5u pH) G) λan ah=>(go1 ?_);refine cL (ev2 I I) call15 (λw hs=>qH hs ai ah oM) λac h2 M ae=>?_;obtain rfl:ac=vB (a.z=b.z):=ae;refine go2 ?_;refine zY h2 M ⟨?_,y3i⟩ I I;exact y2e (wE D)
  refine gF D I (go7 ?_);refine zY C (MLe.refl _) ⟨?_,y3i⟩ I I;exact y2e (wG D)
 intro ab O;refine rN ?_;refine go4 ?_;refine zF I I ?_
 first|exact tZ (by rw[gH];grind)|exact(wB (by rw[gH];grind)).symm|exact(yZ (by rw[gH];grind)).symm
theorem zC5{k:Nat}{va:Value}{a:Tq}(ra:(tPt k).Is h0 va a)(hcd0:k<=1000000):
 Calls prog 42 #[va] w0 (Ret w0 h0 (λ_ r=>r=vB (a=zT))):=by
 refine cb1 6 va func42 hs ?_;refine go2 ?_;refine nB ra λM J C=>(go5 ?_);refine lX (xB zR pH C) λv3 r3=>(lX (xV (ρ:=(tPt 1)) (wI (ps':=[]) underlying53 yO I I sizeOf26 trivial I (yS (yE dC)) zQ)) λv4 r4=>(cL (ev2 I I) call27 (λw hs=>x0 hs r3 r4 oM) λD h1 H G=>?_));obtain rfl:D=vB (a=zT):=G;refine go4 ?_;refine zF I I ?_
 rfl
theorem tU{k l:Nat}{va:Value}{a:Tq}(ra:(tPt k).Is h0 va a){vb:Value}{b:Tq}(rb:(tPt l).Is h0 vb b)(hcd0:k+l<=1000000000):
 Calls prog 44 #[va,vb] w0 (Ret w0 h0 (λh r=>(rpQ (3*k+3*l+9)).Is h r (xO a b))):=by
 refine cb2 21 va vb func44 hs ?_;refine go2 ?_;refine nB ra λb2 ce am=>(nB rb λb3 cd ak=>(nA (ρ:=(rpQ (3*k+3*l+9))) (X:=(0:Rat)) yR (yE oM) λb4 cc bo=>(go4 ?_)));refine nA (ρ:=(rpQ 1)) (X:=(0:Rat)) yR (yE dC) λb5 cb bd=>(go9 ?_);refine gN (go4 ?_);refine gv (OpV.tr dC (yH (q:=3) I I)) I (go7 ?_);refine zK 9 _ [] (zai 0 7 [(7,.c),(8,.c),(9,.t)]) yA nX zot nX (λr hr=>hr) (wX I (xB yJ pH bd) λbn ay=>(go2 ?_));refine wX I (xB yJ (y4e pH) am) λbk av=>(go2 ?_);refine wX I (xB yJ (y4e pH) ak) λbh aq=>?_;refine w_c I (sC (ev2 I I) call9 (λw hs=>qS hs av aq oM) λah h1 ca M=>?_)
 change (rpQ (k+l)).Is h1 ah (a.x*b.x) at M
 refine w_c I (sC (ev2 I I) call37 (λw hs=>pG hs ay.up M oM) λac h2 bz G=>?_)
 change (rpQ (1+(k+l)+1)).Is h2 ac ((0:Rat)+(a.x*b.x)) at G
 replace G:=Rp.Is.le G (Le.q (l:=k+l+2) oM);have bb:=(Le.q (l:=k+l+2) oM).R bd;refine yG (A:=[]) I (uB sizeOf26 pH bb G) λbt Z=>(go5 ?_);refine gv ((zV (q:=1) I I oM oM).cv (show _=vI (1) from I)) I (go2 ?_);refine xM (go4 ?_);refine gv (OpV.tr dC (yH (q:=3) I I)) I (go7 ?_);refine zK 9 _ [] (zai 0 7 [(7,.c),(8,.c),(9,.t)]) yA nX zot nX (λr hr=>hr) (wX I (xB yJ pH Z) λbm ax=>(go2 ?_));refine wX I (xB yJ (y5i pH) am) λbj au=>(go2 ?_);refine wX I (xB yJ (y5i pH) ak) λbg ap=>?_;refine w_c I (sC (ev2 I I) call9 (λw hs=>qS hs au ap oM) λae h3 bx J=>?_)
 change (rpQ (k+l)).Is h3 ae (a.y*b.y) at J
 refine w_c I (sC (ev2 I I) call37 (λw hs=>pG hs ax.up J oM) λab h4 bw D=>?_)
 change (rpQ ((k+l+2)+(k+l)+1)).Is h4 ab (((0:Rat)+(a.x*b.x))+(a.y*b.y)) at D
 replace D:=Rp.Is.le D (Le.q (l:=2*k+2*l+3) oM);have ba:=(Le.q (l:=2*k+2*l+3) oM).R Z;refine yG (A:=[]) I (uB sizeOf26 pH ba D) λbs U=>(go5 ?_);refine gv ((zV (q:=1) I I oM oM).cv (show _=vI (2) from I)) I (go2 ?_);refine xM (go4 ?_);refine gv (OpV.tr dC (yH (q:=3) I I)) I (go7 ?_);refine zK 9 _ [] (zai 0 7 [(7,.c),(8,.c),(9,.t)]) yA nX zot nX (λr hr=>hr) (wX I (xB yJ pH U) λbl aw=>(go2 ?_));refine wX I (xB yJ (y5u pH) am) λbi ar=>(go2 ?_);refine wX I (xB yJ (y5u pH) ak) λbf ao=>?_;refine w_c I (sC (ev2 I I) call9 (λw hs=>qS hs ar ao oM) λad h5 bv H=>?_)
 change (rpQ (k+l)).Is h5 ad (a.z*b.z) at H
 refine w_c I (sC (ev2 I I) call37 (λw hs=>pG hs aw.up H oM) λaa h6 bu C=>?_)
 change (rpQ ((2*k+2*l+3)+(k+l)+1)).Is h6 aa ((((0:Rat)+(a.x*b.x))+(a.y*b.y))+(a.z*b.z)) at C
 replace C:=Rp.Is.le C (Le.q (l:=3*k+3*l+4) oM);have az:=(Le.q (l:=3*k+3*l+4) oM).R U;refine yG (A:=[]) I (uB sizeOf26 pH az C) λbr bc=>(go5 ?_);refine gv ((zV (q:=1) I I oM oM).cv (show _=vI (3) from I)) I (go2 ?_);refine xM (go4 ?_);refine gv (OpV.fa dC (yH (q:=3) I I)) I (qE ?_);refine lX (xB yJ pH bc) λbe an=>(zU (A:=[_]) (uB sizeOf26 pH bo (an.le (Le.q (l:=3*k+3*l+9) oM))) λbp aj=>(go3 ?_));refine xH (qK (t:=4) yJ mh1 I aj) ?_;intro bq O ai;refine yI (λE S=>zS I O E S) ?_;exact(Rp.Is.cast ai (by unfold xO;grind))
theorem lF{k l:Nat}{va:Value}{a:Tq}(ra:(tPt k).Is h0 va a){vb:Value}{b:Tq}(rb:(tPt l).Is h0 vb b)(hcd0:k+l<=1000000000):
 Calls prog 43 #[va,vb] w0 (Ret w0 h0 (λh r=>(tPt (2*k+2*l+3)).Is h r (xC a b))):=by
 refine cb2 37 va vb func43 hs ?_;refine go2 ?_;refine nB ra λb2 cq J=>(nB rb λb3 cp H=>(nA (ρ:=(tPt (2*k+2*l+3))) (X:=zT) yO (yS (yE oM)) λb4 co bx=>(go4 ?_)));refine nA (ρ:=(tPt (2*k+2*l+3))) (X:=zT) yO (yS (yE oM)) λb5 cn bw=>(go9 ?_);refine gN (go4 ?_);refine gv (OpV.tr dC (yH (q:=3) I I)) I (qE ?_);refine gv ((zV (q:=1) I I oM oM).cv (show _=vI (1) from I)) I (gv ((vC (q:=3) I I oM oM).cv (show _=vI (1) from I)) I (go1 ?_));refine gv ((zV (q:=2) I I oM oM).cv (show _=vI (2) from I)) I (gv ((vC (q:=3) I I oM oM).cv (show _=vI (2) from I)) I (go4 ?_));refine zK 17 _ [] (zai 0 7 (zai 8 6 [(7,.c),(14,.c),(15,.c),(16,.q),(17,.t)])) yA nX (wV zot) nX (λr hr=>hr) (go3 ?_);refine wX I (xB yJ (y5i pH) J) λbv bi=>(go2 ?_);refine wX I (xB yJ (y5u pH) H) λbs bf=>(go2 ?_);refine wX I (xB yJ (y5u pH) J) λbp bc=>(go2 ?_);refine wX I (xB yJ (y5i pH) H) λbm az=>?_;refine w_c I (sC (ev2 I I) call9 (λw hs=>qS hs bi bf oM) λao h1 cm ab=>?_)
 change (rpQ (k+l)).Is h1 ao (a.y*b.z) at ab
 refine w_c I (sC (ev2 I I) call9 (λw hs=>qS hs bc.up az.up oM) λak h2 cl U=>?_)
 change (rpQ (k+l)).Is h2 ak (a.z*b.y) at U
 refine w_c I (sC (ev2 I I) call16 (λw hs=>tM hs ab.up U oM) λah h3 ck G=>?_)
 change (rpQ ((k+l)+(k+l)+1)).Is h3 ah ((a.y*b.z)-(a.z*b.y)) at G
 replace G:=Rp.Is.le G (Le.q (l:=2*k+2*l+1) oM);refine go1 ?_;refine yG (A:=[]) I (uB sizeOf26 (y4e pH) bw (G.le (Le.q (l:=2*k+2*l+3) oM))) λcc av=>(go5 ?_);refine gv ((zV (q:=1) I I oM oM).cv (show _=vI (1) from I)) I (go2 ?_);refine xM (go4 ?_);refine gv (OpV.tr dC (yH (q:=3) I I)) I (qE ?_);refine gv ((zV (q:=1) I I oM oM).cv (show _=vI (2) from I)) I (gv ((vC (q:=3) I I oM oM).cv (show _=vI (2) from I)) I (go1 ?_));refine gv ((zV (q:=2) I I oM oM).cv (show _=vI (3) from I)) I (gv ((vC (q:=3) I I oM oM).cv (show _=vI (0) from I)) I (go4 ?_));refine zK 17 _ [] (zai 0 7 (zai 8 6 [(7,.c),(14,.c),(15,.c),(16,.q),(17,.t)])) yA nX (wV zot) nX (λr hr=>hr) (go3 ?_);refine wX I (xB yJ (y5u pH) J) λbu bh=>(go2 ?_);refine wX I (xB yJ (y4e pH) H) λbr be=>(go2 ?_);refine wX I (xB yJ (y4e pH) J) λbo bb=>(go2 ?_);refine wX I (xB yJ (y5u pH) H) λbl ay=>?_;refine w_c I (sC (ev2 I I) call9 (λw hs=>qS hs bh be oM) λan h4 cj aa=>?_)
 change (rpQ (k+l)).Is h4 an (a.z*b.x) at aa
 refine w_c I (sC (ev2 I I) call9 (λw hs=>qS hs bb.up ay.up oM) λaj h5 ci O=>?_)
 change (rpQ (k+l)).Is h5 aj (a.x*b.z) at O
 refine w_c I (sC (ev2 I I) call16 (λw hs=>tM hs aa.up O oM) λae h6 ch D=>?_)
 change (rpQ ((k+l)+(k+l)+1)).Is h6 ae ((a.z*b.x)-(a.x*b.z)) at D
 replace D:=Rp.Is.le D (Le.q (l:=2*k+2*l+1) oM);refine go1 ?_;refine yG (A:=[]) I (uB sizeOf26 (y5i pH) av (D.le (Le.q (l:=2*k+2*l+3) oM))) λcb au=>(go5 ?_);refine gv ((zV (q:=1) I I oM oM).cv (show _=vI (2) from I)) I (go2 ?_);refine xM (go4 ?_);refine gv (OpV.tr dC (yH (q:=3) I I)) I (qE ?_);refine gv ((zV (q:=1) I I oM oM).cv (show _=vI (3) from I)) I (gv ((vC (q:=3) I I oM oM).cv (show _=vI (0) from I)) I (go1 ?_));refine gv ((zV (q:=2) I I oM oM).cv (show _=vI (4) from I)) I (gv ((vC (q:=3) I I oM oM).cv (show _=vI (1) from I)) I (go4 ?_));refine zK 17 _ [] (zai 0 7 (zai 8 6 [(7,.c),(14,.c),(15,.c),(16,.q),(17,.t)])) yA nX (wV zot) nX (λr hr=>hr) (go3 ?_);refine wX I (xB yJ (y4e pH) J) λbt bg=>(go2 ?_);refine wX I (xB yJ (y5i pH) H) λbq bd=>(go2 ?_);refine wX I (xB yJ (y5i pH) J) λbn ba=>(go2 ?_);refine wX I (xB yJ (y4e pH) H) λbk ax=>?_;refine w_c I (sC (ev2 I I) call9 (λw hs=>qS hs bg bd oM) λam h7 cg Z=>?_)
 change (rpQ (k+l)).Is h7 am (a.x*b.y) at Z
 refine w_c I (sC (ev2 I I) call9 (λw hs=>qS hs ba.up ax.up oM) λai h8 cf M=>?_)
 change (rpQ (k+l)).Is h8 ai (a.y*b.x) at M
 refine w_c I (sC (ev2 I I) call16 (λw hs=>tM hs Z.up M oM) λad h9 ce C=>?_)
 change (rpQ ((k+l)+(k+l)+1)).Is h9 ad ((a.x*b.y)-(a.y*b.x)) at C
 replace C:=Rp.Is.le C (Le.q (l:=2*k+2*l+1) oM);refine go1 ?_;refine yG (A:=[]) I (uB sizeOf26 (y5u pH) au (C.le (Le.q (l:=2*k+2*l+3) oM))) λca ar=>(go5 ?_);refine gv ((zV (q:=1) I I oM oM).cv (show _=vI (3) from I)) I (go2 ?_);refine xM (go4 ?_);refine gv (OpV.fa dC (yH (q:=3) I I)) I (qE ?_);refine lX (xB zR pH ar) λbj aw=>(zU (A:=[_]) (uB sizeOf53 pH bx aw) λbz aq=>(go3 ?_));refine xH (qK (t:=4) zR mh1 I aq) ?_;intro cd ac ap;refine yI (λE S=>zS I ac E S) ?_;exact ap
theorem zTE{m l:Nat}{vs:Value}{s:Pq}(rs:(tPl m l).Is h0 vs s)(hcd0:m<=1000000000):
 Calls prog 209 #[vs] w0 (Ret w0 h0 (λh r=>r=.tuple #[vI (↑(axI s.1):Int),vI (↑(axJ s.1):Int),vI (↑(axK s.1):Int)])):=by
 refine cb1 29 vs func209 hs ?_;refine go2 ?_;refine nB rs λb1 av G=>(iD ?_);refine lX (xB yJ (y4i (y5u pH)) G) λar ak=>(cL (ev1 I) call17 (λw hs=>vX hs ak oM) λae h1 au aj=>?_);obtain rfl:ae=vI (yU s.1.z):=aj;have an:=xW s.1.z;refine gc3 (λac=>?_) λac=>?_
 ·
  refine jI ?_;refine lX (xB yJ (y4i (y5i pH)) G) λaq ai=>(cL (ev1 I) call17 (λw hs=>vX hs ai oM) λad h2 ap ah=>?_);obtain rfl:ad=vI (yU s.1.y):=ah;have am:=xW s.1.y;refine gc3 (λab=>?_) λab=>?_
  ·
   refine jF ?_;refine lX (xB yJ (y4i (y4e pH)) G) λaa J=>(cL (ev1 I) call17 (λw hs=>vX hs J oM) λD h3 ao H=>?_);obtain rfl:D=vI (yU s.1.x):=H;have M:=xW s.1.x;refine gc3 (λC=>?_) λC=>?_
   ·
    refine zX3 ?_;refine jZ I I I I ?_;have Z:axI s.1=2:=by unfold axI;simp only[uJ,qX] at *;grind
    have U:axJ s.1=1:=by unfold axJ;simp only[uJ,qX] at *;grind
    have O:axK s.1=0:=by unfold axK;simp only[uJ,qX] at *;grind
    rw[Z,U,O];rfl
   refine pV ?_;refine jZ I I I I ?_;have Z:axI s.1=1:=by unfold axI;simp only[uJ,qX] at *;grind
   have U:axJ s.1=2:=by unfold axJ;simp only[uJ,qX] at *;grind
   have O:axK s.1=0:=by unfold axK;simp only[uJ,qX] at *;grind
   rw[Z,U,O];rfl
  refine go8 ?_;refine lX (xB yJ (y4i (y5i pH)) G) λaa J=>(cL (ev1 I) call17 (λw hs=>vX hs J oM) λD h3 ao H=>?_);obtain rfl:D=vI (yU s.1.y):=H;have M:=xW s.1.y;refine gc3 (λC=>?_) λC=>?_
  ·
   refine zX3 ?_;refine jZ I I I I ?_;have Z:axI s.1=0:=by unfold axI;simp only[uJ,qX] at *;grind
   have U:axJ s.1=2:=by unfold axJ;simp only[uJ,qX] at *;grind
   have O:axK s.1=1:=by unfold axK;simp only[uJ,qX] at *;grind
   rw[Z,U,O];rfl
  refine pV ?_;refine jZ I I I I ?_;have Z:axI s.1=2:=by unfold axI;simp only[uJ,qX] at *;grind
  have U:axJ s.1=0:=by unfold axJ;simp only[uJ,qX] at *;grind
  have O:axK s.1=1:=by unfold axK;simp only[uJ,qX] at *;grind
  rw[Z,U,O];rfl
 refine go8 ?_;refine lX (xB yJ (y4i (y5u pH)) G) λaa J=>(cL (ev1 I) call17 (λw hs=>vX hs J oM) λD h2 ap H=>?_);obtain rfl:D=vI (yU s.1.z):=H;have M:=xW s.1.z;refine gc3 (λC=>?_) λC=>?_
 ·
  refine zX3 ?_;refine jZ I I I I ?_;have Z:axI s.1=1:=by unfold axI;simp only[uJ,qX] at *;grind
  have U:axJ s.1=0:=by unfold axJ;simp only[uJ,qX] at *;grind
  have O:axK s.1=2:=by unfold axK;simp only[uJ,qX] at *;grind
  rw[Z,U,O];rfl
 refine pV ?_;refine jZ I I I I ?_;have Z:axI s.1=0:=by unfold axI;simp only[uJ,qX] at *;grind
 have U:axJ s.1=1:=by unfold axJ;simp only[uJ,qX] at *;grind
 have O:axK s.1=2:=by unfold axK;simp only[uJ,qX] at *;grind
 rw[Z,U,O];rfl
theorem zJZ{m l k:Nat}{vs:Value}{s:Pq}(rs:(tPl m l).Is h0 vs s){vp:Value}{p:Tq}(rp:(tPt k).Is h0 vp p)(hcd0:k<=1000000000)(hcd1:m<=1000000000):
 Calls prog 208 #[vs,vp] w0 (Ret w0 h0 (λh r=>(tPt (k+1)).Is h r (fX s p))):=by
 refine cb2 21 vs vp func208 hs ?_;refine go2 ?_;refine nB rs λb2 ao O=>(nB rp λJ an H=>(nA (ρ:=(tPt (k+1))) (X:=zT) yO (yS (yE oM)) λb4 am M=>(go4 ?_)));refine lX (xB iI pH O) λv9 r9=>(cL (ev1 I) call209 (λw hs=>zTE hs r9 oM) λaj h1 ak ab=>?_);obtain rfl:=ab;refine qE ?_;refine zK 7 _ [] (zai 0 7 [(7,.t)]) yA nX zot nX (λr hr=>hr) (go1 ?_);refine xD I (λ_ _=>(zP (sz:=3) (axI s.1) underlying53 sizeOf26 I I zoz (by exact zZG _)).cv (show _=vP J (((axI s.1)*3+0)) from zbi (vP J) oM)) I (wX I (xB yJ (Pc.ta pH (axI s.1) (by exact zZG _)) H) λai aa=>(go1 ?_));refine xD I (λ_ _=>(zP (sz:=3) (axJ s.1) underlying53 sizeOf26 I I zoz (by exact zZF _)).cv (show _=vP J (((axJ s.1)*3+0)) from zbi (vP J) oM)) I (wX I (xB yJ (Pc.ta pH (axJ s.1) (by exact zZF _)) H) λah Z=>(wX I (xV (ρ:=(tPt (k+1))) (wI (ps':=[(0,_),(1,_)]) underlying53 yO I I sizeOf26 e4z I (yS (yE oM)) (zC I (y4e (y3u _)) (aa.le (Le.q (l:=k+1) oM)) (zC I (y5i (y3u _)) (Z.le (Le.q (l:=k+1) oM)) zQ)))) λae U=>(yG (A:=[]) I (uB sizeOf53 pH M U) λac G=>(go3 ?_))));refine xH (qK (t:=4) zR mh0 I G) ?_;intro ad C D;refine yI (λE S=>zS I C E S) ?_;exact D
theorem zTF{m l k:Nat}{vs:Value}{s:Pq}(rs:(tPl m l).Is h0 vs s){vp:Value}{p:Tq}(rp:(tPt k).Is h0 vp p)(hcd0:k<=1000000)(hcd1:l<=1000000)(hcd2:m<=1000000):
 Calls prog 153 #[vs,vp] w0 (Ret w0 h0 (λ_ r=>r=vI (yU (xO s.1 p-s.2)))):=by
 refine cb2 13 vs vp func153 hs ?_;refine go2 ?_;refine nB rs λb2 ah D=>(nB rp λb3 ae H=>(go4 ?_));refine zK 9 _ [] [(0,.q),(1,.q),(2,.q),(4,.q),(5,.q),(3,.c),(6,.c),(7,.c),(8,.q)] yA nX zot nX (λr hr=>hr) (go1 ?_);refine wX I (xB zR (y4i pH) D) λv6 r6=>(wX I (xB zR pH H) λv7 r7=>(go1 ?_));refine wX I (xB yJ (y4u pH) D) λaa O=>?_;refine w_c I (sC (ev2 I I) call44 (λw hs=>tU hs r6 r7 oM) λv8 h1 ad J=>?_);replace J:=Rp.Is.le J (Le.q (l:=3*k+3*m+9) oM);refine w_c I (sC (ev2 I I) call16 (λw hs=>tM hs J O.up oM) λZ h2 ac C=>?_);replace C:=Rp.Is.le C (Le.q (l:=3*k+l+3*m+10) oM);refine w_c I (sC (ev1 I) call17 (λw hs=>vX hs C oM) λG h3 ab M=>?_);obtain rfl:G=vI (yU ((xO s.1 p)-s.2)):=M;have U:=xW ((xO s.1 p)-s.2);refine go4 ?_;refine zF I I ?_
 rfl
end
theorem aJ{w0 w:World}{h0 h:Mem}{b k:Nat}{vl:Value}{xs:List Int}(hl:Is h vl xs)(hk:k<=xs.length){L:List Res}(hs:St w0 h0 (.var b 97 [vl,vI ↑k]::L) h w):
 Calls prog 60 #[vP b 0] w (bC w0 h0 h L (λg r q'=>∃k':Nat,∃m:T3 Rat,q'=.var b 97 [vl,vI ↑k']/\k'<=xs.length/\(tPt 2).Is g r m)):=by
 have ac:=hl.lt63;refine jE (n:=10) (e:=[(0,vP b 0)]) (vs:=[vP b 0]) func60 rfl rfl (bL rfl) hs ⟨rfl,y3i⟩ (go2 ?_);refine nA (ρ:=(tPt 1)) (X:=zT) yO (yS (yE dC)) λb2 ak U=>(go5 ?_);refine yL (A:=[_]) (vs:=[_]) call106 ⟨I,y3i⟩ (λX w hs=>nO hl zow hs) I ?_;intro v4 g4 q4 ab H;obtain⟨k4,p4,rfl,aj,H⟩:=H;refine go1 ?_;refine yL (A:=[_]) (vs:=[_]) call106 ⟨I,y3i⟩ (λX w hs=>nO hl.up zow hs) I ?_;intro v6 g6 q6 aa G;obtain⟨k6,p6,rfl,ai,G⟩:=G;refine go1 ?_;refine yL (A:=[_]) (vs:=[_]) call106 ⟨I,y3i⟩ (λX w hs=>nO hl.up zow hs) I ?_;intro v8 g8 q8 Z D;obtain⟨k8,p8,rfl,ah,D⟩:=D;refine lX (xV (ρ:=(tPt 2)) (wI (ps':=[(0,_),(1,_),(2,_)]) underlying53 yO I I sizeOf26 e6z I (yS (yE dC)) (zC I (y4e (y3u _)) H.up (zC I (y5i (y3u _)) G.up (zC I (y5u (y3u _)) D zQ))))) λv9 r9=>?_;have J:=(Le.t (Le.q (l:=2) dC)).R U;refine zU (A:=[]) (uB sizeOf53 pH J r9) λad O=>(go3 ?_);refine xH (qK (t:=2) zR mh0 I O) ?_;intro ae C M;refine fK (λE S=>zS I C E S) ?_;exact⟨_,(.cons _ (zme _)),((ab.trans aa).trans Z),_,_,I,by omega,M⟩
theorem zPJ{w0 w:World}{h0 h:Mem}{b k:Nat}{vl:Value}{xs:List Int}(hl:Is h vl xs)(hk:k<=xs.length){L:List Res}(hs:St w0 h0 (.var b 97 [vl,vI ↑k]::L) h w):
 Calls prog 22 #[vP b 0] w (bC w0 h0 h L (λg r q'=>∃k':Nat,∃m:(T3 Tq)×Tq,q'=.var b 97 [vl,vI ↑k']/\k'<=xs.length/\(rpP (rpT (tPt 2)) (tPt 2)).Is g r m)):=by
 have ah:=hl.lt63;refine jE (n:=13) (e:=[(0,vP b 0)]) (vs:=[vP b 0]) func22 rfl rfl (bL rfl) hs ⟨rfl,y3i⟩ (go2 ?_);refine nA (ρ:=(rpP (rpT (tPt 1)) (tPt 1))) (X:=((T3.mk zT zT zT),zT)) eB (yF (yS (yS (yE dC))) (yS (yE dC))) λb2 ax aa=>(go5 ?_);refine yL (A:=[_]) (vs:=[_]) call60 ⟨I,y3i⟩ (λX w hs=>aJ hl zow hs) I ?_;intro v4 g4 q4 ae J;obtain⟨k4,p4,rfl,av,J⟩:=J;refine go1 ?_;refine yL (A:=[_]) (vs:=[_]) call60 ⟨I,y3i⟩ (λX w hs=>aJ hl.up zow hs) I ?_;intro v6 g6 q6 ad H;obtain⟨k6,p6,rfl,au,H⟩:=H;refine go1 ?_;refine yL (A:=[_]) (vs:=[_]) call60 ⟨I,y3i⟩ (λX w hs=>aJ hl.up zow hs) I ?_;intro v8 g8 q8 ac G;obtain⟨k8,p8,rfl,ar,G⟩:=G;refine lX (xV (ρ:=(rpT (tPt 2))) (wI (ps':=[(0,_),(1,_),(2,_)]) underlying54 zGM I I sizeOf53 e6z I (yS (yS (yE dC))) (zC I (y4e (y3u _)) J.up (zC I (y5i (y3u _)) H.up (zC I (y5u (y3u _)) G zQ))))) λv9 r9=>(go1 ?_);refine yL (A:=[_]) (vs:=[_]) call60 ⟨I,y3i⟩ (λX w hs=>aJ hl.up zow hs) I ?_;intro an aw ao Z C;obtain⟨aq,ap,rfl,ai,C⟩:=C;refine lX (xV (ρ:=(rpP (rpT (tPt 2)) (tPt 2))) (xE (ps':=[(0,_),(1,_)]) underlying56 eB I I (zFN underlying56) e4z I (yF (yS (yS (yE dC))) (yS (yE dC))) (zC I (y4i (y3u _)) r9.up (zC I (y4u (y3u _)) C zQ)))) λam ab=>?_;have M:=(Le.p (Le.t (Le.t (Le.q (l:=2) dC))) (Le.t (Le.q (l:=2) dC))).R aa;refine zU (A:=[]) (uB sizeOf56 pH M ab) λaj U=>(go3 ?_);refine xH (qK (t:=2) zA1 mh0 I U) ?_;intro ak D O;refine fK (λE S=>zS I D E S) ?_;exact⟨_,(.cons _ (zme _)),(((ae.trans ad).trans ac).trans Z),_,_,I,by omega,O⟩
end Go.Proofs.YtboaboflnckgoaaGreat
namespace Bk
open Classical
def lpP(x:List Int):Prop:=(3<=x.length/\x.length<=64)/\∀i,i<x.length->(0<=(x.getD i 0)/\(x.getD i 0)<512)/\∀k,k<i->¬(x.getD i 0)=(x.getD k 0)
def vfP(L:List (List Int)):Prop:=(1<=L.length/\L.length<=16)/\∀l,l<L.length->lpP ((L.getD l []))
def vaP(F:List (List (List Int))):Prop:=F.length<=256/\∀f,f<F.length->vfP ((F.getD f []))
abbrev E5:=Int×Int×Int×Int×Int
def edX(x:List Int)(f l:Nat):Nat->List E5:=uG λi=>((x.getD i 0),(x.getD ((i+1)%x.length) 0),(f:Int),(l:Int),(i:Int))
def edL(L:List (List Int))(f:Nat):Nat->List E5:=kK λl=>edX ((L.getD l [])) f l ((L.getD l [])).length
def edF(F:List (List (List Int))):Nat->List E5:=kK λf=>edL ((F.getD f [])) f ((F.getD f [])).length
def edZ(F:List (List (List Int))):List E5:=edF F F.length
abbrev e0:E5:=((0:Int),(0:Int),(0:Int),(0:Int),(0:Int))
def yB6(e:E5)(a b:Int):Prop:=e.1=a/\e.2.1=b
def zA6(E:List E5)(a b:Int):Nat->Int
  |0=>0
  |m+1=>if yB6 ((E.getD m ((0:Int),(0:Int),(0:Int),(0:Int),(0:Int)))) a b then zA6 E a b m+1 else zA6 E a b m
theorem zA5(E:List E5)(a b:Int):∀m,0<=zA6 E a b m/\zA6 E a b m<=m
  |0=>by unfold zA6;omega
  |m+1=>by
   have h:=zA5 E a b m;unfold zA6
   split<;>omega
theorem tm_t{E:List E5}{a b:Int}{m:Nat}(h:yB6 ((E.getD m ((0:Int),(0:Int),(0:Int),(0:Int),(0:Int)))) a b):zA6 E a b m+1=zA6 E a b (m+1):=(zau h).symm
theorem tm_f{E:List E5}{a b:Int}{m:Nat}(h:¬yB6 ((E.getD m ((0:Int),(0:Int),(0:Int),(0:Int),(0:Int)))) a b):zA6 E a b m=zA6 E a b (m+1):=(zae h).symm
def tmZ(E:List E5)(a b:Int):Int:=zA6 E a b E.length
def yJE(E:List E5)(i:Nat):Prop:=tmZ E ((E.getD i ((0:Int),(0:Int),(0:Int),(0:Int),(0:Int)))).2.1 ((E.getD i ((0:Int),(0:Int),(0:Int),(0:Int),(0:Int)))).1<tmZ E ((E.getD i ((0:Int),(0:Int),(0:Int),(0:Int),(0:Int)))).1 ((E.getD i ((0:Int),(0:Int),(0:Int),(0:Int),(0:Int)))).2.1
def yG8(E:List E5):Nat->List E5:=cQ (yJE E) λi=>((30:Int),(-1:Int),((E.getD i ((0:Int),(0:Int),(0:Int),(0:Int),(0:Int)))).2.2.1,((E.getD i ((0:Int),(0:Int),(0:Int),(0:Int),(0:Int)))).2.2.2.1,((E.getD i ((0:Int),(0:Int),(0:Int),(0:Int),(0:Int)))).2.2.2.2)
def clZ(F:List (List (List Int))):List E5:=if vaP F then yG8 (edZ F) (edZ F).length else[((1:Int),(-1:Int),(-1:Int),(-1:Int),(-1:Int))]
theorem zNB(x:List Int)(f l m:Nat):(edX x f l m).length=m:=xZ _ _
theorem zGX{L:List (List Int)}(h:∀l,l<L.length->((L.getD l [])).length<=64)(f:Nat):∀m,m<=L.length->(edL L f m).length<=64*m
  |0,_=>zbe _
  |m+1,hm=>by
   have h1:=zGX h f m zos;have h2:=h m zos
   show List.length (edL L f m++edX (L.getD m []) f m (L.getD m []).length)<=_
   rw[lAz,zNB];omega
theorem zCA{F:List (List (List Int))}(h:∀f,f<F.length->((F.getD f [])).length<=16/\∀l,l<((F.getD f [])).length->((((F.getD f [])).getD l [])).length<=64):∀m,m<=F.length->(edF F m).length<=1024*m
  |0,_=>zbe _
  |m+1,hm=>by
   have h1:=zCA h m zos;have h2:=h m zos;have h3:=zGX h2.2 m _ (zbe _)
   show List.length (edF F m++edL (F.getD m []) m (F.getD m []).length)<=_
   rw[lAz];omega
end Bk
namespace Bk
open Go Go.RowKit
section
variable {P:Program}{n:Nat}{w0:World}{h0:Mem}{e:List (Nat×Value)}{L:List Res}{h:Mem}{Q:Exit->Act->World->Prop}
variable {ty:TypeId}{ps:String}{af:Array Edge}
end
end Bk
namespace Go.Proofs.YtboaboflnckgoaaGreat
open Bk Go Tryz
attribute [local irreducible] GL GC GQ W OpV
section
variable{w0:World}{h0:Mem}(hs:MLe h0 (mem w0))
include hs
theorem iW{vL:Value}{L:(List (List Int))}(rL:tII.Is h0 vL L):
 Calls prog 186 #[vL] w0 (Ret w0 h0 (λ_ r=>r=vB (vfP L))):=by
 refine cb1 65 vL func186 hs ?_;refine jI ?_;refine gU 5 14 (vB (((↑(L).length:Int)<(1:Int))\/((16:Int)<(↑(L).length:Int)))) ?_ ?_
 ·
  refine yK ((↑(L).length:Int)<(1:Int)) (λC=>?_) (λC=>?_)
  ·
   refine gT C I (go5 ?_);refine gqU ?_;exact y2e (uL C)
  refine gF C I (go8 ?_);refine gqU ?_;exact y2e (uM C)
 refine gc2 (λah=>?_) λah=>?_
 ·
  refine go7 ?_;refine zF I I ?_;exact(yZ (λe=>by have:=e.1;omega)).symm
 refine go9 ?_;refine gcL (ι:=Nat×Mem) (λ(l,O)=>(MLe h0 O/\(l<=L.length/\∀u,u<l->lpP (L.getD u [])),[(0,vL),(3,vI ↑l)],[],O,L.length-l)) (0,h0) ?_ ?_
 · exact⟨mle,by omega,λu h=>by omega⟩
 rintro⟨l,O⟩ ⟨ba,bo,U⟩
 refine yW ?_;refine gc9 (λae=>?_) λae=>?_
 ·
  refine go8 ?_;refine lX (xI [] l underlying81 fR rL) λbn ar=>(lX (xA fR ar) λJ G=>(go9 ?_));refine gU 5 32 (vB (((↑((L.getD l [])).length:Int)<(3:Int))\/((64:Int)<(↑((L.getD l [])).length:Int)))) ?_ ?_
  ·
   refine yK ((↑((L.getD l [])).length:Int)<(3:Int)) (λC=>?_) (λC=>?_)
   ·
    refine gT C I (go5 ?_);refine gqU ?_;exact y2e (uL C)
   refine gF C I (go8 ?_);refine gqU ?_;exact y2e (uM C)
  refine gc2 (λad=>?_) λad=>?_
  ·
   refine jF ?_;refine zF I I ?_;exact(yZ (λe=>by have:=(e.2 l oM).1;omega)).symm
  refine go8 ?_;refine gcL (ι:=Nat×Mem) (λ(i,H)=>(MLe O H/\(i<=(L.getD l []).length/\∀u,u<i->(0<=(L.getD l []).getD u 0/\(L.getD l []).getD u 0<512)/\∀k,k<u->¬(L.getD l []).getD u 0=(L.getD l []).getD k 0),[(0,vL),(3,vI ↑l),(4,J),(5,vI ↑i)],[],H,(L.getD l []).length-i)) (0,O) ?_ ?_
  · exact⟨mle,by omega,λu h=>by omega⟩
  rintro⟨i,H⟩ ⟨az,bq,hi2⟩
  refine yW ?_;refine gc9 (λac=>?_) λac=>?_
  ·
   refine go9 ?_;refine lX (xI (0:Int) i underlying32 ty3 G) λbm aq=>(lX (xA ty3 aq) λbl ap=>?_);obtain⟨rfl,be,ax⟩:=gJ ap;refine go1 ?_;refine gU 7 50 (vB ((((L.getD l []).getD i (0:Int))<(0:Int))\/((512:Int)<=((L.getD l []).getD i (0:Int))))) ?_ ?_
   ·
    refine yK (((L.getD l []).getD i (0:Int))<(0:Int)) (λC=>?_) (λC=>?_)
    ·
     refine gT C I (go7 ?_);refine gqU ?_;exact y2e (uL C)
    refine gF C I (go5 ?_);refine lX (xI (0:Int) i underlying32 ty3 G) λbk ao=>(go1 ?_);refine lX (xA ty3 ao) λbj an=>?_;obtain⟨rfl,bd,aw⟩:=gJ an;refine go4 ?_;refine gqU ?_;exact y2e (uM C)
   refine gc2 (λab=>?_) λab=>?_
   ·
    refine zDD ?_;refine zF I I ?_;exact(yZ (λe=>by have:=((e.2 l oM).2 i oM).1;omega)).symm
   refine go8 ?_;refine gcL (ι:=Nat×Mem) (λ(k,M)=>(MLe H M/\(k<=i/\∀v,v<k->¬(L.getD l []).getD i 0=(L.getD l []).getD v 0),[(0,vL),(3,vI ↑l),(4,J),(5,vI ↑i),(6,vI ↑k)],[],M,i-k)) (0,H) ?_ ?_
   · exact⟨mle,by omega,λu h=>by omega⟩
   rintro⟨k,M⟩ ⟨ay,bp,Z⟩
   refine yW ?_;refine gc8 (λaa=>?_) λaa=>?_
   ·
    refine go5 ?_;refine zK 9 _ [] (zai 0 9 []) yA nX zot nX (λr hr=>hr) (go2 ?_);refine wX I (xI (0:Int) i underlying32 ty3 G) λbi am=>(wX I (xA ty3 am) λbh ak=>?_);obtain⟨rfl,bc,av⟩:=gJ ak;refine go2 ?_;refine wX I (xI (0:Int) k underlying32 ty3 G) λbg aj=>(wX I (xA ty3 aj) λbf ai=>?_);obtain⟨rfl,bb,au⟩:=gJ ai;refine gc3 (λD=>?_) λD=>?_
    ·
     refine yJC ?_;refine zF I I ?_;exact(yZ (λe=>((e.2 l oM).2 i oM).2 k oM D)).symm
    refine go8 ?_;refine gqL ((k+1),M) ?_ ?_
    · exact⟨mle,by omega,qN (Q:=λv=>¬(L.getD l []).getD i 0=(L.getD l []).getD v 0) Z D⟩
    omega
   refine jI ?_;refine gqL ((i+1),M) ?_ ?_
   · exact⟨mle,by omega,qN (Q:=λu=>(0<=(L.getD l []).getD u 0/\(L.getD l []).getD u 0<512)/\∀k,k<u->¬(L.getD l []).getD u 0=(L.getD l []).getD k 0) hi2 ⟨by omega,λk hk=>Z k oM⟩⟩
   omega
  refine jI ?_;refine gqL ((l+1),H) ?_ ?_
  · exact⟨mle,by omega,qN (Q:=λu=>lpP (L.getD u [])) U ⟨by omega,λu hu=>hi2 u oM⟩⟩
  omega
 refine jI ?_;refine zF I I ?_;exact(wB ⟨by omega,λu hu=>U u oM⟩).symm
theorem zPB{vF:Value}{F:(List (List (List Int)))}(rF:(rpS tII).Is h0 vF F):
 Calls prog 190 #[vF] w0 (Ret w0 h0 (λ_ r=>r=vB (vaP F))):=by
 refine cb1 19 vF func190 hs ?_;refine pV ?_;refine cnd (λZ=>?_) λZ=>?_
 ·
  refine go7 ?_;refine zF I I ?_;exact(yZ (λe=>by have:=e.1;omega)).symm
 refine go9 ?_;refine gcL (ι:=Nat×Mem) (λ(f,U)=>(MLe h0 U/\(f<=F.length/\∀u,u<f->vfP (F.getD u [])),[(0,vF),(3,vI ↑f)],[],U,F.length-f)) (0,h0) ?_ ?_
 · exact⟨mle,by omega,λu h=>by omega⟩
 rintro⟨f,U⟩ ⟨aa,ae,D⟩
 refine yW ?_;refine gc9 (λG=>?_) λG=>?_
 ·
  refine go8 ?_;refine lX (xI [] f underlying175 rQ rF) λac O=>(lX (xA rQ O) λab M=>(cL (ev1 I) call186 (λw hs=>iW hs M) λH h1 ad J=>?_));obtain rfl:H=vB (vfP (F.getD f [])):=J;refine gc3 (λC=>?_) λC=>?_
  ·
   refine jI ?_;refine zF I I ?_;exact(yZ (λe=>C (e.2 f oM))).symm
  refine go8 ?_;refine gqL ((f+1),h1) ?_ ?_
  · exact⟨mle,by omega,qN (Q:=λu=>vfP (F.getD u [])) D (zdi C)⟩
  omega
 refine jI ?_;refine zF I I ?_;exact(wB ⟨by omega,λu hu=>D u oM⟩).symm
theorem zFX{vF:Value}{F:(List (List (List Int)))}(rF:(rpS tII).Is h0 vF F)(hcd0:F.length<=1000)(hcd1:∀f,f<F.length->(F.getD f []).length<=16/\∀l,l<(F.getD f []).length->((F.getD f []).getD l []).length<=64):
 Calls prog 174 #[vF] w0 (Ret w0 h0 (λh r=>(rpS tE5).Is h r (edZ F))):=by
 refine cb1 56 vF func174 hs ?_;refine iD ?_;refine xK 193 5 ?_;have ae:=RL.nil (ρ:=rpP rpI (rpP rpI (rpP rpI (rpP rpI rpI)))) (h:=h0);refine gcL (ι:=Nat×List (Int×Int×Int×Int×Int)×Value×List Value×Mem) (λ(f,D0,H,M,ma)=>(MLe h0 ma/\(RL tE5 ma M D0/\f<=F.length/\D0=edF F f),[(0,vF),(3,H),(4,vI ↑f)],[.gs 193 5 H D0.length M],ma,F.length-f)) (0,[],(.slice none 0 0),[],h0) ?_ ?_
 · exact⟨mle,ae,by omega,I⟩
 rintro⟨f,D0,H,M,ma⟩ ⟨bi,Z,cj,ao⟩
 refine yW ?_;refine gc9 (λam=>?_) λam=>?_
 ·
  refine qE ?_;refine gcL (ι:=Nat×List (Int×Int×Int×Int×Int)×Value×List Value×Mem) (λ(l,D1,C,D,mb)=>(MLe ma mb/\(RL tE5 mb D D1/\l<=(F.getD f []).length/\D1=edF F f++edL (F.getD f []) f l),[(0,vF),(3,C),(4,vI ↑f),(5,vI ↑l)],[.gs 193 5 C D1.length D],mb,(F.getD f []).length-l)) (0,D0,H,M,ma) ?_ ?_
  · exact⟨mle,Z,by omega,by rw[ao];exact(zli _).symm⟩
  rintro⟨l,D1,C,D,mb⟩ ⟨bh,U,ch,an⟩
  refine yW ?_;refine go6 ?_;refine lX (xI [] f underlying175 rQ rF) λbw bc=>(lX (xA rQ bc) λbv bx=>(gc4 (λak=>?_) λak=>?_))
  ·
   refine go8 ?_;refine lX (xI [] f underlying175 rQ rF) λbu bb=>(lX (xA rQ bb) λbt ba=>(go1 ?_));refine lX (xI [] l underlying81 fR ba) λbs az=>(lX (xA fR az) λar ac=>(go9 ?_));refine gcL (ι:=Nat×List (Int×Int×Int×Int×Int)×Value×List Value×Mem) (λ(i,D2,G,J,mc)=>(MLe mb mc/\(RL tE5 mc J D2/\i<=((F.getD f []).getD l []).length/\D2=edF F f++edL (F.getD f []) f l++edX ((F.getD f []).getD l []) f l i),[(0,vF),(3,G),(4,vI ↑f),(5,vI ↑l),(6,ar),(7,vI ↑i)],[.gs 193 5 G D2.length J],mc,((F.getD f []).getD l []).length-i)) (0,D1,C,D,mb) ?_ ?_
   · exact⟨mle,U,by omega,by rw[an];exact(zli _).symm⟩
   rintro⟨i,D2,G,J,mc⟩ ⟨bg,O,ci,ad⟩
   refine yW ?_;have cg:=zCA hcd1 f oM;have cf:=(hcd1 f oM).1;have ce:=zGX (hcd1 f oM).2 f l oM;have cd:=(hcd1 f oM).2 l oM;have cc:=zNB ((F.getD f []).getD l []) f l i;have cb:D2.length<=1100000:=by rw[ad,lAz,lAz];omega
   refine gc9 (λaj=>?_) λaj=>?_
   ·
    refine go4 ?_;refine jS (A:=[]) 20 [] (zai 0 17 [(17,.c),(18,.c),(19,.q)]) yA nX (wV zot) nX (go3 ?_);refine wX I (xI (0:Int) i underlying32 ty3 ac) λbr ay=>(wX I (xA ty3 ay) λbq ax=>?_);obtain⟨rfl,bk,bf⟩:=gJ ax;refine go4 ?_;refine w_q I (λh' L' hh hR=>jA underlying32 I (ac.up.mono hh)) I (xD I (λ_ _=>vC I I oM oM) I (wX I (xI (0:Int) ((i+1)%((F.getD f []).getD l []).length) underlying32 ty3 ac (hi:=by exact zcu _ oM)) λbp aw=>(wX I (xA ty3 aw) λbo av=>?_)));obtain⟨rfl,bj,be⟩:=gJ av;refine go3 ?_;refine wX I (xV (ρ:=tE5) (xE (ps':=[(0,_),(1,_),(2,_),(3,_),(4,_)]) underlying193 zEV I I (zS6 underlying193) e10 I (yF wY (yF wY (yF wY (yF wY wY)))) (zC I (y4i (y3u _)) (wL oM oM) (zC I (y4u (y4i (y3u _))) (wL oM oM) (zC I (y4u (y4u (y4i (y3u _)))) (wL oM oM) (zC I (y4u (y4u (y4u (y4i (y3u _))))) (wL oM oM) (zC I (y4u (y4u (y4u (y4u (y3u _))))) (wL oM oM) zQ))))))) λbn au=>?_;refine w_c I (jN (λX=>zN (ρ:=tE5) (m:=1) (xs:=[((((F.getD f []).getD l []).getD i (0:Int)),((((F.getD f []).getD l []).getD ((i+1)%((F.getD f []).getD l []).length) (0:Int)),((↑f:Int),((↑l:Int),(↑i:Int)))))]) (ps':=[(0,_)]) underlying190 zEV I I I (yF wY (yF wY (yF wY (yF wY wY)))) e2z (zC I (y3e (y3u _) e50 0 dC) au zQ) zoi nP) I ?_)
    rintro bm ca ⟨bl,rfl,ai⟩
    refine w_c I (xT (A:=[]) (ρ:=tE5) ai dK ?_);intro h1 bd ab;refine gV (A:=[]) (λX=>yB (ρ:=tE5) (bytes:=40) underlying190 zEV I I I I nP I I O.up ab bO bO) I (wA zox) ?_
    rintro aq bz ⟨ap,rfl,ah⟩
    refine go9 ?_;refine gqL ((i+1),(D2++[((((F.getD f []).getD l []).getD i (0:Int)),((((F.getD f []).getD l []).getD ((i+1)%((F.getD f []).getD l []).length) (0:Int)),((↑f:Int),((↑l:Int),(↑i:Int)))))]),aq,ap,h1) ?_ ?_
    · exact⟨mle,ah,by omega,by rw[ad,zhu];rfl⟩
    omega
   have ei:i=((F.getD f []).getD l []).length:=by omega
   refine jI ?_;refine gqL ((l+1),D2,G,J,mc) ?_ ?_
   · exact⟨mle,O.up,by omega,by rw[ad,ei,zhu];rfl⟩
   omega
  have el:l=(F.getD f []).length:=by omega
  refine jI ?_;refine gqL ((f+1),D1,C,D,mb) ?_ ?_
  · exact⟨mle,U,by omega,by rw[an,el];rfl⟩
  omega
 have ef:f=F.length:=by omega
 refine jF ?_;refine wR (A:=[]) (ρ:=tE5) Z ?_;intro h1 bd aa;refine zF I I ?_;exact(Rp.Is.cast aa (by rw[ao,ef];rfl))
theorem zFW{vE:Value}{E:(List (Int×(Int×(Int×(Int×Int)))))}(rE:(rpS tE5).Is h0 vE E){a:Int}(ha1:-9223372036854775808<=a)(ha2:a<9223372036854775808){b:Int}(hb1:-9223372036854775808<=b)(hb2:b<9223372036854775808)(hcd0:E.length<=1000000):
 Calls prog 191 #[vE,vI a,vI b] w0 (Ret w0 h0 (λ_ r=>r=vI (tmZ E a b))):=by
 refine cb3 34 vE (vI a) (vI b) func191 hs ?_;refine iD ?_;refine gcL (ι:=Nat×Mem) (λ(m,D)=>(MLe h0 D/\(m<=E.length),[(0,vE),(1,vI a),(2,vI b),(7,vI (zA6 E a b m)),(8,vI ↑m)],[],D,E.length-m)) (0,h0) ?_ ?_
 · exact⟨mle,oM⟩
 rintro⟨m,D⟩ ⟨ae,G⟩
 refine yW ?_;have ar:=G;have aq:=zA5 E a b m;refine gc9 (λJ=>?_) λJ=>?_
 ·
  refine go8 ?_;refine lX (xI e50 m underlying190 j4 rE) λap ab=>(lX (xF underlying193 sizeOf3 (y4i pH) ab) λao aa=>(lX (xA ty3 aa) λan Z=>?_));obtain⟨rfl,ai,ad⟩:=gJ Z;refine go2 ?_;refine gU 9 30 (vB ((((E.getD m e50).1)=a)/\((((E.getD m e50).2).1)=b))) ?_ ?_
  ·
   refine yK (((E.getD m e50).1)=a) (λH=>?_) (λH=>?_)
   ·
    refine gT H I (go5 ?_);refine lX (xI e50 m underlying190 j4 rE) λam U=>(go1 ?_);refine lX (xF underlying193 sizeOf3 (y4u (y4i pH)) U) λak O=>(go1 ?_);refine lX (xA ty3 O) λaj M=>?_;obtain⟨rfl,ah,ac⟩:=gJ M;refine go6 ?_;refine gqU ?_;exact y2e (wE H)
   refine gF H I (go9 ?_);refine gqU ?_;exact y2e (wG H)
  refine gc2 (λC=>?_) λC=>?_
  ·
   refine jF ?_;refine gqL ((m+1),D) ?_ ?_ (he:=⟨I,I,I,zbi (λz=>some (vI z)) (tm_t C),I,y3i⟩)
   · exact⟨mle,oM⟩
   omega
  refine go8 ?_;refine gqL ((m+1),D) ?_ ?_ (he:=⟨I,I,I,zbi (λz=>some (vI z)) (tm_f C),I,y3i⟩)
  · exact⟨mle,oM⟩
  omega
 refine jF ?_;refine zF I I ?_;have em:m=E.length:=by omega
 subst em
 rfl
theorem zL6{vF:Value}{F:(List (List (List Int)))}(rF:(rpS tII).Is h0 vF F):
 Calls prog 158 #[vF] w0 (Ret w0 h0 (λh r=>(rpS tE5).Is h r (clZ F))):=by
 refine cb1 64 vF func158 hs ?_;refine go9 ?_;refine cL (ev1 I) call190 (λw hs=>zPB hs rF) λv7 h1 dw r7=>?_;obtain rfl:v7=vB (vaP F):=r7;refine gc3 (λac=>?_) λac=>?_
 ·
  refine go2 ?_;refine lX (xV (ρ:=tE5) (xE (ps':=[(0,_),(1,_),(2,_),(3,_),(4,_)]) underlying200 jX I I (zC0 underlying200) e10 I (yF wY (yF wY (yF wY (yF wY wY)))) (zC I (y4i (y3u _)) (wL dC dC) (zC I (y4u (y4i (y3u _))) (wL dC dC) (zC I (y4u (y4u (y4i (y3u _)))) (wL dC dC) (zC I (y4u (y4u (y4u (y4i (y3u _))))) (wL dC dC) (zC I (y4u (y4u (y4u (y4u (y3u _))))) (wL dC dC) zQ))))))) λv9 r9=>(zH (zN (ρ:=tE5) (m:=1) (xs:=[((1:Int),((-1:Int),((-1:Int),((-1:Int),(-1:Int)))))]) (ps':=[(0,_)]) underlying137 jX I I I (yF wY (yF wY (yF wY (yF wY wY)))) e2z (zC I (y3e (y3u _) e50 0 dC) r9 zQ) zoi nP) I I I ?_)
  rintro dn dr ⟨cl,rfl,ai⟩
  refine go5 ?_;refine wR (A:=[]) (ρ:=tE5) ai ?_;intro h2 bt aa;refine zF I I ?_;exact(Rp.Is.cast aa (by exact(zae ac).symm))
 refine qE ?_;have O:vaP F:=zdi ac;have ad:∀f,f<F.length->(F.getD f []).length<=16/\∀l,l<(F.getD f []).length->((F.getD f []).getD l []).length<=64:=λf hf=>⟨(O.2 f hf).1.2,λl hl=>((O.2 f hf).2 l hl).1.2⟩;have dz:F.length<=256:=O.1;have dy:=zCA ad F.length (zbe _);have dx:(edZ F).length<=262144:=by show(edF F F.length).length<=_;omega
 refine cL (ev1 I) call174 (λw hs=>zFX hs rF.up (by first|omega|exact ad) (by first|omega|exact ad)) λap h2 bt G=>(qE ?_);refine xK 200 5 ?_;have ab:=RL.nil (ρ:=rpP rpI (rpP rpI (rpP rpI (rpP rpI rpI)))) (h:=h2);refine gcL (ι:=Nat×List (Int×Int×Int×Int×Int)×Value×List Value×Mem) (λ(i,D,C,H,ma)=>(MLe h2 ma/\(RL tE5 ma H D/\i<=(edZ F).length/\D=yG8 (edZ F) i),[(3,C),(4,ap),(5,vI ↑i)],[.gs 200 5 C D.length H],ma,(edZ F).length-i)) (0,[],(.slice none 0 0),[],h2) ?_ ?_
 · exact⟨mle,ab,by omega,I⟩
 rintro⟨i,D,C,H,ma⟩ ⟨cc,J,dt,hD⟩
 refine yW ?_;have ea:D.length<=i:=by rw[hD];exact cA _ _ i
 refine gc9 (λaj=>?_) λaj=>?_
 ·
  refine go5 ?_;refine zK 25 _ [] (zai 0 11 (zai 12 11 [(11,.c),(23,.c),(24,.q)])) yA nX (wV zot) nX (λr hr=>hr) (go3 ?_);refine wX I (xI e50 i underlying190 j4 G) λdm bp=>(wX I (xF underlying193 sizeOf3 (y4i pH) bp) λdl bo=>(wX I (xA ty3 bo) λdk bn=>?_));obtain⟨rfl,cj,cb⟩:=gJ bn;refine go2 ?_;refine wX I (xI e50 i underlying190 j4 G) λdj bm=>(wX I (xF underlying193 sizeOf3 (y4u (y4i pH)) bm) λdi bl=>(wX I (xA ty3 bl) λdh bk=>?_));obtain⟨rfl,ci,ca⟩:=gJ bk;refine go3 ?_;refine wX I (xI e50 i underlying190 j4 G) λdf bi=>(wX I (xF underlying193 sizeOf3 (y4u (y4i pH)) bi) λde bh=>(wX I (xA ty3 bh) λdd bg=>?_));obtain⟨rfl,ch,bz⟩:=gJ bg;refine go2 ?_;refine wX I (xI e50 i underlying190 j4 G) λdc bf=>(wX I (xF underlying193 sizeOf3 (y4i pH) bf) λdb be=>(wX I (xA ty3 be) λda bd=>?_));obtain⟨rfl,cg,bx⟩:=gJ bd;refine w_c I (sC (ev3 I I I) call191 (λw hs=>zFW hs G.up oM oM oM oM oM) λao h3 bs bj=>?_);obtain rfl:ao=vI (tmZ (edZ F) (((edZ F).getD i e50).1) ((((edZ F).getD i e50).2).1)):=bj;have br:=zA5 (edZ F) (((edZ F).getD i e50).1) ((((edZ F).getD i e50).2).1) (edZ F).length;refine w_c I (sC (ev3 I I I) call191 (λw hs=>zFW hs G.up oM oM oM oM oM) λan h4 dv bc=>?_);obtain rfl:an=vI (tmZ (edZ F) ((((edZ F).getD i e50).2).1) (((edZ F).getD i e50).1)):=bc;have bq:=zA5 (edZ F) ((((edZ F).getD i e50).2).1) (((edZ F).getD i e50).1) (edZ F).length;refine gc3 (λM=>?_) λM=>?_
  ·
   refine jS (A:=[]) 20 [] (zai 0 17 [(17,.c),(18,.c),(19,.q)]) yA nX (wV zot) nX (go3 ?_);refine wX I (xI e50 i underlying190 j4 G) λcz bb=>(wX I (xF underlying193 sizeOf3 (y4u (y4u (y4i pH))) bb) λcy ba=>(wX I (xA ty3 ba) λcw az=>?_));obtain⟨rfl,cf,bw⟩:=gJ az;refine go2 ?_;refine wX I (xI e50 i underlying190 j4 G) λcv ay=>(wX I (xF underlying193 sizeOf3 (y4u (y4u (y4u (y4i pH)))) ay) λcu ax=>(wX I (xA ty3 ax) λct aw=>?_));obtain⟨rfl,ce,bv⟩:=gJ aw;refine go2 ?_;refine wX I (xI e50 i underlying190 j4 G) λcq av=>(wX I (xF underlying193 sizeOf3 (y4u (y4u (y4u (y4u pH)))) av) λcp au=>(wX I (xA ty3 au) λco ar=>?_));obtain⟨rfl,cd,bu⟩:=gJ ar;refine wX I (xV (ρ:=tE5) (xE (ps':=[(0,_),(1,_),(2,_),(3,_),(4,_)]) underlying200 jX I I (zC0 underlying200) e10 I (yF wY (yF wY (yF wY (yF wY wY)))) (zC I (y4i (y3u _)) (wL dC dC) (zC I (y4u (y4i (y3u _))) (wL dC dC) (zC I (y4u (y4u (y4i (y3u _)))) (wL oM oM) (zC I (y4u (y4u (y4u (y4i (y3u _))))) (wL oM oM) (zC I (y4u (y4u (y4u (y4u (y3u _))))) (wL oM oM) zQ))))))) λcn aq=>?_;refine w_c I (jN (λX=>zN (ρ:=tE5) (m:=1) (xs:=[((30:Int),((-1:Int),((((((edZ F).getD i e50).2).2).1),(((((((edZ F).getD i e50).2).2).2).1),((((((edZ F).getD i e50).2).2).2).2)))))]) (ps':=[(0,_)]) underlying137 jX I I I (yF wY (yF wY (yF wY (yF wY wY)))) e2z (zC I (y3e (y3u _) e50 0 dC) aq zQ) zoi nP) I ?_)
   rintro cm dq ⟨ck,rfl,ah⟩
   refine w_c I (xT (A:=[]) (ρ:=tE5) ah dK ?_);intro h5 du Z;refine gV (A:=[]) (λX=>yB (ρ:=tE5) (bytes:=40) underlying137 jX I I I I nP I I J.up Z bO bO) I (wA zox) ?_
   rintro am dp ⟨ak,rfl,ae⟩
   refine go9 ?_;refine gqL ((i+1),(D++[((30:Int),((-1:Int),((((((edZ F).getD i e50).2).2).1),(((((((edZ F).getD i e50).2).2).2).1),((((((edZ F).getD i e50).2).2).2).2)))))]),am,ak,h5) ?_ ?_
   · exact⟨mle,ae,by omega,by rw[hD];exact zBF M⟩
   omega
  refine go8 ?_;refine gqL ((i+1),D,C,H,h4) ?_ ?_
  · exact⟨mle,J.up,by omega,by rw[hD];exact zBG M⟩
  omega
 refine jF ?_;refine wR (A:=[]) (ρ:=tE5) J.up ?_;intro h3 bs U;refine zF I I ?_;exact(Rp.Is.cast U (by rw[hD,show i=(edZ F).length by omega];exact(zau O).symm))
end
end Go.Proofs.YtboaboflnckgoaaGreat
namespace Bk
open Classical
def qF(a b:Pt):Pt:=T3.mk (a.x+b.x) (a.y+b.y) (a.z+b.z)
def yIY(l l':List Pt)(v:Pt):Prop:=l'.length=l.length/\∀q,q<l.length->gp l' q=qF (gp l q) v
def hgt(pl:Pl)(p:Pt):Rat:=xO pl.1 p-pl.2
def sdZ(pl:Pl)(p:Pt):Int:=yU (hgt pl p)
theorem zLL(pl:Pl)(p:Pt):-1<=sdZ pl p/\sdZ pl p<=1:=xW _
abbrev nx(l:List Pt)(m:Nat):Pt:=gp l ((m+1)%l.length)
section
variable {pl:Pl}{l B:List Pt}{m:Nat}
end
def cS(l:List Pt):Prop:=aG l 0 1->¬uU l 0 1 l.length=0
theorem zDH{l:List Pt}(h:¬uU l 0 1 l.length=0):cS l:=λ_=>h
abbrev PI:=Int×Int
def crI(u v w:PI):Int:=(v.1-u.1)*(w.2-u.2)-(v.2-u.2)*(w.1-u.1)
def sgI(n:Int):Int:=if 0<n then 1 else if n<0 then -1 else 0
def orI(u v w:PI):Int:=sgI (crI u v w)
def lxI(u v:PI):Bool:=decide (u.1<v.1\/(u.1=v.1/\u.2<v.2))
def apI(a b c d:Int):Bool:=decide ((a<c/\a<d/\b<c/\b<d)\/(c<a/\d<a/\c<b/\d<b))
def alS(a b c d:PI):Int:=
 if lxI (if lxI d b then d else b) (if lxI a c then c else a) then 0 else if lxI (if lxI a c then c else a) (if lxI d b then d else b) then 3
 else if((if lxI a c then c else a)=a\/(if lxI a c then c else a)=b)/\((if lxI a c then c else a)=c\/(if lxI a c then c else a)=d) then 1 else 2
def alI(a b c d:PI):Int:=alS (if lxI b a then b else a) (if lxI b a then a else b) (if lxI d c then d else c) (if lxI d c then c else d)
def toI(a b c d:PI):Int:=
 if apI a.1 b.1 c.1 d.1\/apI a.2 b.2 c.2 d.2 then 0
 else if orI a b c=0/\orI a b d=0/\orI c d a=0/\orI c d b=0 then alI a b c d
 else if 0<orI a b c*orI a b d\/0<orI c d a*orI c d b then 0
 else if(orI a b c=0\/orI a b d=0)/\(orI c d a=0\/orI c d b=0) then 1 else 2
def af(x y r:Int)(u:PI):P2:=(((x+r*u.1:Int):Rat),((y+r*u.2:Int):Rat))
def waI(n p q:Nat):Int:=if q=p+1\/(p=0/\q+1=n) then 1 else 0
theorem zYR{a b:List Pt}{p q:Nat}:2<=oF (gP a 0 1 p) (gO a 0 1 p) (gP b 0 1 q) (gO b 0 1 q)↔s4 a b 0 1 p q:=by
 unfold s4;rw[zK9];omega
theorem zUA{a b:List Pt}{p q:Nat}(h:s4 a b 0 1 p q):s4 b a 0 1 q p:=by
 unfold s4 at *;rw[zE5];exact h
theorem eM{a b:List Pt}(h:fD a b 0 1):fD b a 0 1:=by
 obtain⟨p,q,D,C,h⟩:=h;exact⟨q,p,C,D,zUA h⟩
theorem yCU(a b:Pt):pr (T3.mk (zC8 a.x b.x) (zC8 a.y b.y) (0:Rat)) 0 1=zPR (pr a 0 1) (pr b 0 1):=rfl
theorem zYA{l:List Pt}(hf:cS l)(hs:aG l 0 1):¬yU (arZ l 0 1)=0:=λe=>hf hs (uJ.1 e)
theorem yB0{L:List (List Pt)}(h:∀x,x∈L->cS x)(m:Nat):cS (gl L m):=by
 show cS (L.getD m [])
 rw[zoa]
 rcases zve m L.length with h1|h1
 · rw[zoc h1]
   exact h _ (ynu h1)
 · rw[zse h1]
   exactλe=>absurd e.1 zov
theorem yFH{L:List (List Pt)}{m:Nat}(h:yU (uU (gl L m) 0 1 (gl L m).length)<0):sG L 0 1 m L.length=pZ L 0 1 m:=by
 have h1:yU (arZ (gl L m) 0 1)<0:=h;unfold pZ;rw[zae zos]
theorem zV6{L:List (List Pt)}{m:Nat}(hf:∀x,x∈L->cS x)(hs:aG (gl L m) 0 1)(h:¬yU (uU (gl L m) 0 1 (gl L m).length)<0):0<yU (arZ (gl L m) 0 1):=by
 have h1:¬yU (arZ (gl L m) 0 1)<0:=h;have h2:=zYA (yB0 hf m) hs;omega
theorem yFG{L:List (List Pt)}{m:Nat}(hf:∀x,x∈L->cS x)(hs:aG (gl L m) 0 1)(h:¬yU (uU (gl L m) 0 1 (gl L m).length)<0):-1=pZ L 0 1 m:=by
 unfold pZ;rw[zau (zV6 hf hs h)]
theorem zIY{O:List Int}{m:Nat}{f:Nat->Int}{p:Int}(hl:O.length=m)(h:∀q,q<m->O.getD q 0=f q)(hp:p=f m):(O++[p]).length=m+1/\∀q,q<m+1->(O++[p]).getD q 0=f q:=by
 refine⟨by rw[lAz,hl];rfl,λq C=>?_⟩;rw[zoa]
 by_cases e:q=m
 · subst e
   rw[you zos,hl,yue];exact hp
 · rw[ypu zos,<-zoa]
   exact h q zos
theorem yFP{L:List (List Pt)}{a:Nat}(h:0<yU (arZ (gl L a) 0 1)):¬eX L 0 1 a/\∀b,b<L.length->¬zCS L 0 1 a b:=by
 refine⟨λe=>e.1 h,λb _ e=>?_⟩;have h1:=e.1.1.2;have h2:pZ L 0 1 a= -1:=by unfold pZ;rw[zau h]
 omega
theorem yGT{L:List (List Pt)}{m:Nat}(hf:∀x,x∈L->cS x)(hs:aG (gl L m) 0 1)(h:0<=yU (uU (gl L m) 0 1 (gl L m).length)):0<yU (arZ (gl L m) 0 1):=zV6 hf hs zos
theorem zRP{L:List (List Pt)}{a:Nat}{o:Int}(h:¬0<=yU (uU (gl L a) 0 1 (gl L a).length))(ho:o=pZ L 0 1 a)(h1:o<0):eX L 0 1 a:=by
 have h2:yU (arZ (gl L a) 0 1)<0:=ywi.1 h;refine⟨by omega,?_⟩;rw[ho] at h1;unfold pZ at h1;rw[zae zos] at h1;exact h1
theorem zBU{L:List (List Pt)}{a:Nat}{o:Int}(ho:o=pZ L 0 1 a)(h1:¬o<0):¬eX L 0 1 a:=λe=>by
 rw[ho] at h1;unfold pZ at h1;rw[zae e.1] at h1;exact h1 e.2
abbrev Fc:=(Pt×Rat)×List (List Int)×List Nat
abbrev En:=Int×Int×Rat
abbrev Sd:=List Pt×List Fc×List En
abbrev zS7:Pt×Rat:=(zT,(0:Rat))
abbrev zA:Fc:=(zS7,([]:List (List Int)),([]:List Nat))
def nmL(n:Nat)(x:List Int):Prop:=∀k,k<x.length->0<=(x.getD k 0)/\(x.getD k 0)<n
def nmP(s:Sd)(f:Nat):Prop:=∀l,l<((s.2.1.getD f zA).2.1).length->nmL s.1.length ((((s.2.1.getD f zA).2.1).getD l []))
def uA(s:Sd):List (List (List Int)):=uG (λf=>(s.2.1.getD f zA).2.1) s.2.1.length
theorem rH(s:Sd):(uA s).length=s.2.1.length:=xZ _ _
theorem mR{s:Sd}{f:Nat}(h:f<s.2.1.length):((uA s).getD f [])=(s.2.1.getD f zA).2.1:=jL _ _ h
def zOM(ps:List Pt)(x:List Int):Nat->List Pt:=uG λk=>gp ps ((x.getD k 0)).toNat
def zKW(s:Sd)(f:Nat):Nat->List (List Pt):=uG λl=>zOM s.1 ((((s.2.1.getD f zA).2.1).getD l [])) ((((s.2.1.getD f zA).2.1).getD l [])).length
def fE(s:Sd)(f:Int):List (List Pt):=if(0<=f/\f<s.2.1.length)/\nmP s f.toNat then zKW s f.toNat ((s.2.1.getD f.toNat zA).2.1).length else[]
theorem yB9{s:Sd}{f:Int}(h:∀f,f<s.2.1.length->(s.2.1.getD f zA).2.1.length<=10000/\∀l,l<(s.2.1.getD f zA).2.1.length->((s.2.1.getD f zA).2.1.getD l []).length<=10000):(fE s f).length<=10000/\∀l,((fE s f).getD l []).length<=10000:=by
 unfold fE
 split
 · rename_i hf
   have h1:=h f.toNat zos;have h2:(zKW s f.toNat (s.2.1.getD f.toNat zA).2.1.length).length=(s.2.1.getD f.toNat zA).2.1.length:=xZ _ _;refine⟨by omega,λl=>?_⟩
   rcases zve l (s.2.1.getD f.toNat zA).2.1.length with h3|h3
   · unfold zKW
     rw[jL _ _ h3];unfold zOM;rw[xZ];exact h1.2 l h3
   · rw[zoa,zse zos];exact zri _
 · exact⟨zri _,λl=>zri _⟩
def flA(pl:Pl)(l:List Pt):Nat->List Pt:=uG λi=>fX pl (gp l i)
def flL(pl:Pl)(L:List (List Pt)):Nat->List (List Pt):=uG λi=>flA pl (gl L i) (gl L i).length
def sY(s:Sd)(f:Nat):List (List Pt):=flL ((s.2.1.getD f zA)).1 (fE s f) (fE s f).length
def dg(kind face loop edge:Int):E5:=(kind,(-1:Int),face,loop,edge)
def szP(s:Sd)(f:Nat):Prop:=¬vfP ((s.2.1.getD f zA).2.1)\/¬nmP s f
def zNP(s:Sd):Prop:=(512<s.1.length\/256<s.2.1.length)\/1024<s.2.2.length
def yEJ(s:Sd):Nat->List E5:=cQ (szP s) λf=>dg 1 f (-1) (-1)
def szZ(s:Sd):List E5:=if zNP s then yEJ s s.2.1.length++[dg 2 (-1) (-1) (-1)] else yEJ s s.2.1.length
def twP(s:Sd)(i:Nat):Prop:=∃k,k<i/\gp s.1 i=gp s.1 k
def zK7(s:Sd):Nat->List E5:=cQ (twP s) λi=>dg 37 (-1) (-1) i
def zrP(s:Sd)(f:Nat):Prop:=((s.2.1.getD f zA)).1.1=zT
def zUH(s:Sd):Nat->List E5:=cQ (zrP s) λf=>dg 9 f (-1) (-1)
def ofP(s:Sd)(f l k:Nat):Prop:=¬sdZ ((s.2.1.getD f zA)).1 (gp (gl (fE s f) l) k)=0
def ofX(s:Sd)(f l:Nat):Nat->List E5:=cQ (ofP s f l) λk=>dg 31 f l k
def ofL(s:Sd)(f:Nat):Nat->List E5:=kK λl=>ofX s f l (gl (fE s f) l).length
def zO8(s:Sd):Nat->List E5:=kK λf=>ofL s f (fE s f).length
theorem mX{s:Sd}{f:Int}(h:∀f,f<s.2.1.length->(s.2.1.getD f zA).2.1.length<=16/\∀l,l<(s.2.1.getD f zA).2.1.length->((s.2.1.getD f zA).2.1.getD l []).length<=64):(fE s f).length<=16/\∀l,((fE s f).getD l []).length<=64:=by
 unfold fE
 split
 · rename_i hf
   have h1:=h f.toNat zos;have h2:(zKW s f.toNat (s.2.1.getD f.toNat zA).2.1.length).length=(s.2.1.getD f.toNat zA).2.1.length:=xZ _ _;refine⟨by omega,λl=>?_⟩
   rcases zve l (s.2.1.getD f.toNat zA).2.1.length with h3|h3
   · unfold zKW
     rw[jL _ _ h3];unfold zOM;rw[xZ];exact h1.2 l h3
   · rw[zoa,zse zos];exact zri _
 · exact⟨zri _,λl=>zri _⟩
section
variable {s:Sd}(h:∀f,f<s.2.1.length->(s.2.1.getD f zA).2.1.length<=16/\∀l,l<(s.2.1.getD f zA).2.1.length->((s.2.1.getD f zA).2.1.getD l []).length<=64)
include h
theorem zFT(f:Nat):∀l,(ofL s f l).length<=64*l
  |0=>zbe _
  |l+1=>by
   have h1:=zFT f l;have h2:(ofX s f l ((fE s f).getD l []).length).length<=((fE s f).getD l []).length:=cA _ _ _;have h3:=(mX (f:=↑f) h).2 l
   show List.length (ofL s f l++ofX s f l ((fE s f).getD l []).length)<=_
   rw[lAz];omega
theorem zWM:∀f,f<=s.2.1.length->(zO8 s f).length<=1024*f
  |0,_=>zbe _
  |f+1,hf=>by
   have h1:=zWM f zos;have h2:=zFT h f (fE s f).length;have h3:=(mX (f:=↑f) h).1
   show List.length (zO8 s f++ofL s f (fE s f).length)<=_
   rw[lAz];omega
end
def plZ(s:Sd):List E5:=if 0<(zUH s s.2.1.length).length then zUH s s.2.1.length else zO8 s s.2.1.length
def zAE(L:List (List Pt)):Nat->Int
  |0=>0
  |m+1=>if 0<yU (arZ (gl L m) 0 1) then zAE L m+1 else zAE L m
theorem zBN(L:List (List Pt)):∀m,0<=zAE L m/\zAE L m<=m
  |0=>by unfold zAE;omega
  |m+1=>by
   have h:=zBN L m;unfold zAE
   split<;>omega
theorem ou_t{L:List (List Pt)}{m:Nat}(h:0<yU (arZ (gl L m) 0 1)):zAE L m+1=zAE L (m+1):=(zau h).symm
theorem ou_f{L:List (List Pt)}{m:Nat}(h:¬0<yU (arZ (gl L m) 0 1)):zAE L m=zAE L (m+1):=(zae h).symm
def ouZ(L:List (List Pt)):Int:=zAE L L.length
def bnP(s:Sd)(f:Nat):Prop:=¬uF (sY s f) 0 1=0
def zY5(s:Sd):Nat->List E5:=cQ (bnP s) λf=>dg (uF (sY s f) 0 1) f (-1) (-1)
def mnP(s:Sd)(f:Nat):Prop:=¬ouZ (sY s f)=1
def yFU(s:Sd):Nat->List E5:=cQ (mnP s) λf=>dg 33 f (-1) (-1)
def neZ(s:Sd):List E5:=if 0<(zY5 s s.2.1.length).length then zY5 s s.2.1.length else yFU s s.2.1.length
theorem zMM(L:List (List Pt))(i j:Nat):0<=uF L i j/\uF L i j<=33:=by
 unfold uF
 repeat' split
 all_goals decide
theorem zEX(s:Sd)(f:Nat):(sY s f).length=(fE s ↑f).length/\∀l,((sY s f).getD l []).length=((fE s ↑f).getD l []).length:=by
 have h1:(sY s f).length=(fE s ↑f).length:=xZ _ _;refine⟨h1,λl=>?_⟩
 rcases zve l (fE s ↑f).length with h|h
 · unfold sY flL
   rw[jL _ _ h];exact xZ _ _
 · rw[zoa,zoa,zse zos,zse h]
def okS(s:Sd):Prop:=((s.1.length<=1000/\s.2.1.length<=1000)/\s.2.2.length<=2000)/\(∀f,f<s.2.1.length->(s.2.1.getD f zA).2.1.length<=16/\∀l,l<(s.2.1.getD f zA).2.1.length->((s.2.1.getD f zA).2.1.getD l []).length<=64)/\∀f,f<s.2.1.length->∀x,x∈sY s f->cS x
theorem okS.big{s:Sd}(h:okS s):∀f,f<s.2.1.length->(s.2.1.getD f zA).2.1.length<=10000/\∀l,l<(s.2.1.getD f zA).2.1.length->((s.2.1.getD f zA).2.1.getD l []).length<=10000:=λf hf=>⟨zci (h.2.1 f hf).1 zov,λl hl=>zci ((h.2.1 f hf).2 l hl) zov⟩
theorem okS.mem{s:Sd}(h:okS s):∀f,f<s.2.1.length->(s.2.1.getD f zA).2.1.length<=100000/\∀x,x∈(s.2.1.getD f zA).2.1->x.length<=100000:=λf hf=>⟨zci (h.2.1 f hf).1 zov,λx hx=>by
 obtain⟨m,hm,e⟩:=yge hx;have:=(h.2.1 f hf).2 m hm;rw[zoa,zoc hm] at this;rw[<-e];exact zci this zov⟩
def zYW(s:Sd):List E5:=if 0<(szZ s).length then szZ s else if 0<(zK7 s s.1.length).length then zK7 s s.1.length else if 0<(plZ s).length then plZ s else if 0<(neZ s).length then neZ s else clZ (uA s)
def lT(s:Sd):Prop:=(zYW s).length=0
def lsP(p q:Pt):Prop:=p.x<q.x\/(p.x=q.x/\(p.y<q.y\/(p.y=q.y/\p.z<q.z)))
def cJ:List Int->List Int->Int
  |[],[]=>0
  |[],_::_=>-1
  |_::_,[]=>1
  |x::a,y::b=>if x=y then cJ a b else if x<y then -1 else 1
theorem zR7{i:Nat}:∀{a b:List Int},(∀u,u<i->(a.getD u 0)=(b.getD u 0))->i<a.length->i<b.length->¬(a.getD i 0)=(b.getD i 0)->cJ a b=if(a.getD i 0)<(b.getD i 0) then -1 else 1:=by
 induction i with
 |zero=>
  intro a b _ ha hb hne
  match a,b,ha,hb with
  |x::a,y::b,_,_=>exact zae hne
 |succ i ih=>
  intro a b h ha hb hne
  match a,b,ha,hb with
  |x::a,y::b,ha,hb=>
   have h0:x=y:=h 0 zos
   show(if x=y then cJ a b else _)=_
   rw[zau h0];exact ih (λu hu=>h (u+1) zos) (by simpa using ha) (by simpa using hb) hne
theorem zG0{i:Nat}:∀{a b:List Int},(∀u,u<i->(a.getD u 0)=(b.getD u 0))->i=min a.length b.length->cJ a b=if a.length<b.length then -1 else if b.length<a.length then 1 else 0:=by
 induction i with
 |zero=>
  intro a b _ he
  match a,b with
  |[],[]=>rfl
  |[],_::_=>rfl
  |_::_,[]=>rfl
  |_::_,_::_=>simp at he
 |succ i ih=>
  intro a b h he
  match a,b with
  |[],_=>simp at he
  |_::_,[]=>simp at he
  |x::a,y::b=>
   have h0:x=y:=h 0 zos
   show(if x=y then cJ a b else _)=_
   rw[zau h0,ih (λu hu=>h (u+1) zos) (by simp at he;omega)];simp only[lC,Nat.add_lt_add_iff_right]
theorem zAW:∀a b:List Int,-1<=cJ a b/\cJ a b<=1
  |[],[]=>⟨by show(-1:Int)<=0;decide,by show(0:Int)<=1;decide⟩
  |[],_::_=>⟨by show(-1:Int)<= -1;decide,by show(-1:Int)<=1;decide⟩
  |_::_,[]=>⟨by show(-1:Int)<=1;decide,by show(1:Int)<=1;decide⟩
  |x::a,y::b=>by
   show -1<=(if x=y then cJ a b else if x<y then -1 else 1)/\(if x=y then cJ a b else if x<y then -1 else 1)<=1
   split
   · exact zAW a b
   · split<;>decide
def cR(x:List Int):Nat->Nat
  |0=>0
  |m+1=>if(x.getD m 0)<(x.getD (cR x m) 0) then m else cR x m
theorem yCT(x:List Int):∀m,cR x m<m\/cR x m=0
  |0=>.inr rfl
  |m+1=>by
   have h:=yCT x m;unfold cR
   split<;>omega
theorem mn_t{x:List Int}{m:Nat}(h:(x.getD m 0)<(x.getD (cR x m) 0)):m=cR x (m+1):=(zau h).symm
theorem mn_f{x:List Int}{m:Nat}(h:¬(x.getD m 0)<(x.getD (cR x m) 0)):cR x m=cR x (m+1):=(zae h).symm
def zS1(x:List Int):List Int:=x.drop (cR x x.length)++x.take (cR x x.length)
def zTT:List (List Int)->List (List Int)->Prop
  |[],[]=>False
  |[],_::_=>True
  |_::_,[]=>False
  |x::a,y::b=>if cJ x y=0 then zTT a b else cJ x y<0
theorem yBH{i:Nat}:∀{a b:List (List Int)},(∀u,u<i->cJ ((a.getD u [])) ((b.getD u []))=0)->i<a.length->i<b.length->¬cJ ((a.getD i [])) ((b.getD i []))=0->(zTT a b↔cJ ((a.getD i [])) ((b.getD i []))<0):=by
 induction i with
 |zero=>
  intro a b _ ha hb hne
  match a,b,ha,hb with
  |x::a,y::b,_,_=>exact Iff.of_eq (zae hne)
 |succ i ih=>
  intro a b h ha hb hne
  match a,b,ha,hb with
  |x::a,y::b,ha,hb=>
   have h0:cJ x y=0:=h 0 zos
   show(if cJ x y=0 then zTT a b else _)↔_
   rw[zau h0];exact ih (λu hu=>h (u+1) zos) (by simpa using ha) (by simpa using hb) hne
theorem zXG{i:Nat}:∀{a b:List (List Int)},(∀u,u<i->cJ ((a.getD u [])) ((b.getD u []))=0)->i=min a.length b.length->(zTT a b↔a.length<b.length):=by
 induction i with
 |zero=>
  intro a b _ he
  match a,b with
  |[],[]=>exact⟨False.elim,λh=>absurd h (yii _)⟩
  |[],_::_=>exact⟨λ_=>ytu _,λ_=>trivial⟩
  |_::_,[]=>exact⟨False.elim,λh=>absurd h (z4u _)⟩
  |_::_,_::_=>simp at he
 |succ i ih=>
  intro a b h he
  match a,b with
  |[],_=>simp at he
  |_::_,[]=>simp at he
  |x::a,y::b=>
   have h0:cJ x y=0:=h 0 zos
   show(if cJ x y=0 then zTT a b else _)↔_
   rw[zau h0,ih (λu hu=>h (u+1) zos) (by simp at he;omega)];simp only[lC,Nat.add_lt_add_iff_right]
def lsF(a b:Fc):Prop:=if a.2.2=b.2.2 then zTT a.2.1 b.2.1 else lsN a.2.2 b.2.2
theorem ls_x{p q:Pt}(h:¬vH p.x q.x=0):vH p.x q.x<0↔lsP p q:=by
 unfold lsP;rw[aB];rw[aV] at h;exact⟨.inl,λe=>e.elim id λe=>absurd e.1 h⟩
theorem ls_y{p q:Pt}(h:vH p.x q.x=0)(h2:¬vH p.y q.y=0):vH p.y q.y<0↔lsP p q:=by
 unfold lsP;rw[aB];rw[aV] at h h2;have:=@Rat.lt_irrefl p.x;exact⟨λe=>.inr ⟨h,.inl e⟩,λe=>e.elim (λe=>absurd (h▸e) this) λe=>e.2.elim id λe=>absurd e.1 h2⟩
theorem ls_z{p q:Pt}(h:vH p.x q.x=0)(h2:vH p.y q.y=0)(h3:¬vH p.z q.z=0):vH p.z q.z<0↔lsP p q:=by
 unfold lsP;rw[aB];rw[aV] at h h2;have D:=@Rat.lt_irrefl p.x;have C:=@Rat.lt_irrefl p.y;exact⟨λe=>.inr ⟨h,.inr ⟨h2,e⟩⟩,λe=>e.elim (λe=>absurd (h▸e) D) λe=>e.2.elim (λe=>absurd (h2▸e) C) λe=>e.2⟩
theorem yI3{p q:Pt}(h:vH p.x q.x=0)(h2:vH p.y q.y=0)(h3:vH p.z q.z=0):¬lsP p q:=by
 rw[aV] at h h2 h3;have G:=@Rat.lt_irrefl p.x;have D:=@Rat.lt_irrefl p.y;have C:=@Rat.lt_irrefl p.z;exactλe=>e.elim (λe=>absurd (h▸e) G) λe=>e.2.elim (λe=>absurd (h2▸e) D) λe=>absurd (h3▸e.2) C
theorem yI5{p q:Pt}{i:Nat}(hi:i<3)(h:∀u,u<i->vH (p.at u) (q.at u)=0)(hn:¬vH (p.at i) (q.at i)=0):vH (p.at i) (q.at i)<0↔lsP p q:=by
 match i,hi with
 |0,_=>exact ls_x hn
 |1,_=>exact ls_y (h 0 zov) hn
 |2,_=>exact ls_z (h 0 zov) (h 1 zov) hn
theorem yF3{p q:Pt}(h:∀u,u<3->vH (p.at u) (q.at u)=0):¬lsP p q:=yI3 (h 0 zov) (h 1 zov) (h 2 zov)
def ivA(x:Rat):Rat:=if cM x=0 then 0 else((1:Int):Rat)/cM x
def scW(r:Rat)(pl:Pl):Pl:=(T3.mk (r*pl.1.x) (r*pl.1.y) (r*pl.1.z),r*pl.2)
def scZ(pl:Pl):Pl:=if ¬yU pl.1.x=0 then scW (ivA pl.1.x) pl else if ¬yU pl.1.y=0 then scW (ivA pl.1.y) pl else if ¬yU pl.1.z=0 then scW (ivA pl.1.z) pl else zS7
theorem yIF{pl:Pl}{i:Nat}(hi:i<3)(h:∀u,u<i->yU (pl.1.at u)=0)(hn:¬yU (pl.1.at i)=0):scW (ivA (pl.1.at i)) pl=scZ pl:=by
 unfold scZ
 match i,hi with
 |0,_=>exact(zau hn).symm
 |1,_=>exact((zae (λe=>e (h 0 zov))).trans (zau hn)).symm
 |2,_=>exact((zae (λe=>e (h 0 zov))).trans ((zae (λe=>e (h 1 zov))).trans (zau hn))).symm
theorem yE5{pl:Pl}(h:∀u,u<3->yU (pl.1.at u)=0):zS7=scZ pl:=by
 unfold scZ;exact((zae (λe=>e (h 0 zov))).trans ((zae (λe=>e (h 1 zov))).trans (zae (λe=>e (h 2 zov))))).symm
def zAA(x:List Int):Nat->List Int:=uG λi=>x.getD (x.length-1-i) 0
def zI8(E:List E5)(m i:Nat):Prop:=∃q,q<m/\(E.getD q ((0:Int),(0:Int),(0:Int),(0:Int),(0:Int))).1=(i:Int)
theorem zUM{E:List E5}{m n:Nat}{U:List Prop}(hl:U.length=n)(h:∀u,u<n->(U.getD u False↔zI8 E m u))(h0:0<=(E.getD m ((0:Int),(0:Int),(0:Int),(0:Int),(0:Int))).1)(h1:(E.getD m ((0:Int),(0:Int),(0:Int),(0:Int),(0:Int))).1<n):∀u,u<n->((U.set (E.getD m ((0:Int),(0:Int),(0:Int),(0:Int),(0:Int))).1.toNat True).getD u False↔zI8 E (m+1) u):=by
 intro u D;rw[zoa,y1e];have hx:zI8 E (m+1) u↔zI8 E m u\/(E.getD m ((0:Int),(0:Int),(0:Int),(0:Int),(0:Int))).1=(u:Int):=by
  constructor
  · rintro⟨q,C,e⟩
    rcases znu.1 C with h|h
    · exact .inl ⟨q,h,e⟩
    · subst h;exact .inr e
  · rintro(⟨q,C,e⟩|e)
    · exact⟨q,by omega,e⟩
    · exact⟨m,by omega,e⟩
 rw[hx]
 split
 · rename_i e
   rw[zau zos];exact⟨λ_=>.inr zos,λ_=>trivial⟩
 · rename_i e
   have:=h u D;rw[zoa] at this;rw[this];exact⟨.inl,λh=>h.resolve_right zos⟩
def nmA(s:Sd):Prop:=∀f,f<s.2.1.length->nmP s f
theorem zT4{s:Sd}(h:nmA s){q:Nat}(hq:q<(edZ (uA s)).length):0<=((edZ (uA s)).getD q ((0:Int),(0:Int),(0:Int),(0:Int),(0:Int))).1/\((edZ (uA s)).getD q ((0:Int),(0:Int),(0:Int),(0:Int),(0:Int))).1<s.1.length:=by
 have C:=gM (d:=((0:Int),(0:Int),(0:Int),(0:Int),(0:Int))) hq;generalize (edZ (uA s)).getD q ((0:Int),(0:Int),(0:Int),(0:Int),(0:Int))=e at C ⊢;obtain⟨f,D,C⟩:=dO C;obtain⟨l,G,C⟩:=dO C;obtain⟨i,hi,rfl⟩:=zKI C;rw[rH] at D;have H:(uA s).getD f []=(s.2.1.getD f zA).2.1:=jL _ _ D;rw[H] at G hi ⊢;exact h f D l G i hi
theorem yB5{s:Sd}(h:okS s):(edZ (uA s)).length<=1100000:=by
 have h1:=zCA (F:=uA s) (λf C=>by rw[rH] at C;rw[mR C];exact h.2.1 f C) _ (zbe _);rw[rH] at h1;have h2:=h.1.1.2
 show(edF (uA s) (uA s).length).length<=_
 rw[rH];omega
def zTB(s:Sd)(out:List Int)(i k:Nat):Prop:=lsP (gp s.1 i) (gp s.1 (out.getD k 0).toNat)
def aI(s:Sd):Nat->List Int
  |0=>[]
  |i+1=>if zI8 (edZ (uA s)) (edZ (uA s)).length i then dG (aI s i) (aP (zTB s (aI s i) i) (aI s i).length) (i:Int) else aI s i
theorem zO6(s:Sd):∀i,(aI s i).length<=i
  |0=>zbe _
  |i+1=>by
   have:=zO6 s i;unfold aI
   split
   · rw[zGL _ _ (zEY _ _)];omega
   · omega
theorem zJX{s:Sd}{x:Int}:∀{i},x∈aI s i->0<=x/\x<i
  |0,h=>absurd h zgi
  |i+1,h=>by
   unfold aI at h
   split at h
   · unfold dG at h
     rcases zpi.1 h with h|h
     · have:=zJX (zwe h);omega
     · rcases zfi.1 h with rfl|h
       · omega
       · have:=zJX (z5e h);omega
   · have:=zJX h;omega
theorem oN{s:Sd}{i k:Nat}(h:k<(aI s i).length):0<=(aI s i).getD k 0/\(aI s i).getD k 0<i:=zJX (gM h)
def nwL(s:Sd)(ix:List Int)(f i:Nat):Nat->List Int:=uG λq=>ix.getD (((s.2.1.getD f zA).2.1.getD i []).getD q 0).toNat 0
def nfL(s:Sd)(ix:List Int)(f i:Nat):List Int:=zS1 (nwL s ix f i ((s.2.1.getD f zA).2.1.getD i []).length)
def zEA(s:Sd)(f i:Nat):Prop:=0<yU (arZ (gl (sY s f) i) 0 1)
def ouL(s:Sd)(ix:List Int)(f:Nat):Nat->List (List Int):=cQ (zEA s f) (nfL s ix f)
def zX0(l:List Int)(D:List (List Int))(k:Nat):Prop:=cJ l (D.getD k [])<0
def zAS(s:Sd)(ix:List Int)(f:Nat):Nat->List (List Int)
  |0=>[]
  |i+1=>if zEA s f i then zAS s ix f i else dG (zAS s ix f i) (aP (zX0 (nfL s ix f i) (zAS s ix f i)) (zAS s ix f i).length) (nfL s ix f i)
theorem zP4(s:Sd)(ix:List Int)(f:Nat):∀i,(zAS s ix f i).length<=i
  |0=>zbe _
  |i+1=>by
   have:=zP4 s ix f i;unfold zAS
   split
   · omega
   · rw[zGL _ _ (zEY _ _)];omega
def nfF(s:Sd)(ix:List Int)(f:Nat):Fc:=(scZ (s.2.1.getD f zA).1,ouL s ix f (s.2.1.getD f zA).2.1.length++zAS s ix f (s.2.1.getD f zA).2.1.length,(s.2.1.getD f zA).2.2)
theorem zQA{s:Sd}{f:Nat}(hf:f<s.2.1.length)(h:nmP s f):fE s ↑f=zKW s f (s.2.1.getD f zA).2.1.length:=zau ⟨by omega,h⟩
theorem yGV{s:Sd}{f:Nat}(hf:f<s.2.1.length)(h:nmP s f):(sY s f).length=(s.2.1.getD f zA).2.1.length:=by
 rw[(zEX s f).1,zQA hf h];exact xZ _ _
def fV(s:Sd):List Int:=aI s s.1.length
def zHM(s:Sd):Nat->List Int
  |0=>List.replicate s.1.length (0:Int)
  |i+1=>(zHM s i).set ((fV s).getD i 0).toNat (i:Int)
theorem zDC(s:Sd):∀i,(zHM s i).length=s.1.length
  |0=>yde
  |i+1=>by unfold zHM;rw[lS];exact zDC s i
def ixZ(s:Sd):List Int:=zHM s (fV s).length
def zWW(s:Sd):Nat->List Pt:=uG λi=>gp s.1 ((fV s).getD i 0).toNat
def zPV(x:Fc)(D:List Fc)(k:Nat):Prop:=lsF x (D.getD k zA)
def zAJ(s:Sd):Nat->List Fc
  |0=>[]
  |f+1=>dG (zAJ s f) (aP (zPV (nfF s (ixZ s) f) (zAJ s f)) (zAJ s f).length) (nfF s (ixZ s) f)
theorem zPL(s:Sd):∀f,(zAJ s f).length=f
  |0=>rfl
  |f+1=>by
   unfold zAJ;rw[zGL _ _ (zEY _ _),zPL s f]
def nrP(s:Sd):List Pt:=if lT s then zWW s (fV s).length else[]
def nrF(s:Sd):List Fc:=if lT s then zAJ s s.2.1.length else[]
def nrE(s:Sd):List En:=if lT s then s.2.2 else[]
theorem yEM{s:Sd}(h:lT s):nmA s:=by
 have h1:(szZ s).length=0:=by
  unfold lT zYW at h
  split at h
  · omega
  · omega
 have h2:szZ s=[]:=zof h1;unfold szZ at h2
 split at h2
 · exact absurd h2 zo1
 · intro f C
   exact zdu λe=>(zJI _).1 h2 f C (.inr e)
theorem zF6{s:Sd}(h:okS s){ix:List Int}{f:Nat}(hf:f<s.2.1.length):(nfF s ix f).2.1.length<=100:=by
 have h1:=cA (zEA s f) (nfL s ix f) (s.2.1.getD f zA).2.1.length;have h2:=zP4 s ix f (s.2.1.getD f zA).2.1.length;have h3:=(h.2.1 f hf).1
 show List.length (ouL s ix f _++zAS s ix f _)<=_
 rw[lAz];have C:(ouL s ix f (s.2.1.getD f zA).2.1.length).length<=(s.2.1.getD f zA).2.1.length:=h1;omega
theorem zXX{α:Type}{p:α->Prop}{l:List α}{k:Nat}{x:α}(h:∀y,y∈l->p y)(hx:p x):∀y,y∈dG l k x->p y:=by
 intro y hy;unfold dG at hy
 rcases zpi.1 hy with hy|hy
 · exact h y (zwe hy)
 · rcases zfi.1 hy with rfl|hy
   · exact hx
   · exact h y (z5e hy)
theorem zWS{s:Sd}(h:okS s):∀f,f<=s.2.1.length->∀x,x∈zAJ s f->x.2.1.length<=100
  |0,_,x,hx=>absurd hx zgi
  |f+1,hf,x,hx=>zXX (p:=λx:Fc=>x.2.1.length<=100) (zWS h f zos) (zF6 h zos) x hx
end Bk
namespace Go.Proofs.YtboaboflnckgoaaGreat
open Bk Go Tryz
attribute [local irreducible] GL GC GQ W OpV
section
variable{w0:World}{h0:Mem}(hs:MLe h0 (mem w0))
include hs
theorem zHH{vL:Value}{L:(List (List Int))}(rL:tII.Is h0 vL L)(hcd0:L.length<=100000)(hcd1:∀x,x∈L->x.length<=100000):
 Calls prog 108 #[vL] w0 (Ret w0 h0 (λh r=>tII.Is h r L)):=by
 refine cb1 20 vL func108 hs ?_;refine iD ?_;refine xK 32 1 ?_;have Z:=RL.nil (ρ:=rpS rpI) (h:=h0);refine gcL (ι:=Nat×List (List Int)×Value×List Value×Mem) (λ(i,D,C,G,mi)=>(MLe h0 mi/\(RL (rpS rpI) mi G D/\i<=L.length/\D=L.take i),[(0,vL),(3,C),(4,vI ↑i)],[.gs 32 1 C D.length G],mi,L.length-i)) (0,[],(.slice none 0 0),[],h0) ?_ ?_
 · exact⟨mle,Z,by omega,I⟩
 rintro⟨i,D,C,G,mi⟩ ⟨am,H,az,hD⟩
 refine yW ?_;have bb:=zM5 hcd1 i;have ay:D.length<=i:=by rw[hD,zei];omega
 refine gc9 (λak=>?_) λak=>?_
 ·
  refine go8 ?_;refine lX (xI [] i underlying81 fR rL) λau ai=>(lX (xA fR ai) λar ah=>(zDE 3 1 ?_));have U:=RL.nil (ρ:=rpI) (h:=mi);refine xU (A:=[]) (yB (ρ:=rpI) (bytes:=8) underlying32 jV I I I I nP I I U ah bO bO) I I I ?_
  rintro aq ax ⟨ao,rfl,ac⟩
  refine zX (A:=[]) (ρ:=rpI) ac ?_;intro h1 aj O;refine zH (zN (ρ:=(rpS rpI)) (m:=1) (xs:=[(([]:List Int)++(L.getD i []))]) (ps':=[(0,_)]) underlying81 jH I I I wD e2z (zC I (y3e (y3u _) [] 0 dC) O zQ) zoj nP) I I I ?_
  rintro ap aw ⟨an,rfl,ab⟩
  refine zX (A:=[]) (ρ:=(rpS rpI)) ab ?_;intro h2 ba M;refine xU (A:=[]) (yB (ρ:=(rpS rpI)) (bytes:=24) underlying81 jH I I I I nP I I H.up M bO bO) I I I ?_
  rintro ae av ⟨ad,rfl,aa⟩
  refine go9 ?_;refine gqL ((i+1),(D++[(([]:List Int)++(L.getD i []))]),ae,ad,h2) ?_ ?_
  · exact⟨mle,aa,by omega,by rw[hD,zge];exact(zHV [] oM).symm⟩
  omega
 have ei:i=L.length:=by omega
 refine jF ?_;refine wR (A:=[]) (ρ:=(rpS rpI)) H.up ?_;intro h1 aj J;refine zF I I ?_;exact(Rp.Is.cast J (by rw[hD,ei,zue]))
theorem zIK{k m n j:Nat}{vs:Value}{s:Sq}(rs:(tSd k m n j).Is h0 vs s)(hcd0:s.2.1.length<=100000)(hcd1:∀f,f<s.2.1.length->(s.2.1.getD f zA).2.1.length<=100000/\∀x,x∈(s.2.1.getD f zA).2.1->x.length<=100000):
 Calls prog 159 #[vs] w0 (Ret w0 h0 (λh r=>(rpS tII).Is h r (uA s))):=by
 refine cb1 23 vs func159 hs ?_;refine go2 ?_;refine nB rs λb1 an aa=>(u5 ?_);refine xK 81 1 ?_;have O:=RL.nil (ρ:=rpS (rpS rpI)) (h:=h0);refine gcL (ι:=Nat×List (List (List Int))×Value×List Value×Mem) (λ(f,D,C,G,mf)=>(MLe h0 mf/\(RL tII mf G D/\f<=s.2.1.length/\D=uG (λf=>(s.2.1.getD f zA).2.1) f),[(1,vP b1 0),(3,C),(4,vI ↑f)],[.gs 81 1 C D.length G,.var b1 50 an],mf,s.2.1.length-f)) (0,[],(.slice none 0 0),[],h0) ?_ ?_
 · exact⟨mle,O,by omega,I⟩
 rintro⟨f,D,C,G,mf⟩ ⟨ao,H,bc,hD⟩
 refine yW ?_;have ba:D.length=f:=by rw[hD];exact xZ _ _
 refine go5 ?_;refine lX (xB gG (y4u (y4i pH)) aa) λv7 r7=>(gc4 (λam=>?_) λam=>?_)
 ·
  refine go7 ?_;refine lX (xB gG (y4u (y4i pH)) aa) λax aj=>(go1 ?_);refine lX (xI zA f underlying47 sJ aj) λaw ai=>(lX (xF underlying83 sizeOf81 (y4u (y4i pH)) ai) λav ah=>(lX (xA rQ ah) λau ae=>(cL (ev1 I) call108 (λw hs=>zHH hs ae (by first|omega|exact(hcd1 f oM).1|exact(hcd1 f oM).2) (by first|omega|exact(hcd1 f oM).1|exact(hcd1 f oM).2)) λar h1 ak ad=>(zH (zN (ρ:=tII) (m:=1) (xs:=[(((s.2.1.getD f zA).2).1)]) (ps':=[(0,_)]) underlying175 zP3 I I I wD e2z (zC I (y3e (y3u _) [] 0 dC) ad zQ) zoj nP) I I I ?_))))
  rintro aq az ⟨ap,rfl,Z⟩
  refine zX (A:=[]) (ρ:=tII) Z ?_;intro h2 bb M;refine xU (A:=[]) (yB (ρ:=tII) (bytes:=24) underlying175 zP3 I I I I nP I I H.up M bO bO) I I I ?_
  rintro ac ay ⟨ab,rfl,U⟩
  refine go9 ?_;refine gqL ((f+1),(D++[(((s.2.1.getD f zA).2).1)]),ac,ab,h2) ?_ ?_
  · exact⟨mle,U,by omega,by rw[hD];rfl⟩
  omega
 have ef:f=s.2.1.length:=by omega
 refine jF ?_;refine wR (A:=[]) (ρ:=tII) H.up ?_;intro h1 ak J;refine zF I I ?_;exact(Rp.Is.cast J (by rw[hD,ef];rfl))
theorem zIJ{k m n j:Nat}{vs:Value}{s:Sq}(rs:(tSd k m n j).Is h0 vs s){f:Int}(hf1:-9223372036854775808<=f)(hf2:f<9223372036854775808)(hcd0:0<=f)(hcd1:f<↑s.2.1.length)(hcd2:(s.2.1.getD f.toNat zA).2.1.length<=100000)(hcd3:∀l,l<(s.2.1.getD f.toNat zA).2.1.length->((s.2.1.getD f.toNat zA).2.1.getD l []).length<=100000):
 Calls prog 187 #[vs,vI f] w0 (Ret w0 h0 (λ_ r=>r=vB (nmP s f.toNat))):=by
 refine cb2 50 vs (vI f) func187 hs ?_;refine go2 ?_;refine nB rs λb2 ab H=>(go6 ?_);refine lX (xB gG (y4u (y4i pH)) H) λv9 r9=>(go1 ?_);refine lX (xI zA f.toNat underlying47 sJ r9) λbl aq=>(lX (xF underlying83 sizeOf81 (y4u (y4i pH)) aq) λbk ap=>(lX (xA rQ ap) λG D=>(qE ?_)));refine gcL (ι:=Nat×Mem) (λ(l,M)=>(MLe h0 M/\(l<=(s.2.1.getD f.toNat zA).2.1.length/\∀u,u<l->nmL s.1.length ((s.2.1.getD f.toNat zA).2.1.getD u [])),[(2,vP b2 0),(5,G),(6,vI ↑l)],[.var b2 50 ab],M,(s.2.1.getD f.toNat zA).2.1.length-l)) (0,h0) ?_ ?_
 · exact⟨mle,by omega,λu h=>by omega⟩
 rintro⟨l,M⟩ ⟨aw,bo,O⟩
 refine yW ?_;refine gc9 (λaa=>?_) λaa=>?_
 ·
  refine qE ?_;refine gcL (ι:=Nat×Mem) (λ(i,J)=>(MLe M J/\(i<=((s.2.1.getD f.toNat zA).2.1.getD l []).length/\∀u,u<i->0<=((s.2.1.getD f.toNat zA).2.1.getD l []).getD u 0/\((s.2.1.getD f.toNat zA).2.1.getD l []).getD u 0<↑s.1.length),[(2,vP b2 0),(5,G),(6,vI ↑l),(7,vI ↑i)],[.var b2 50 ab],J,((s.2.1.getD f.toNat zA).2.1.getD l []).length-i)) (0,M) ?_ ?_
  · exact⟨mle,by omega,λu h=>by omega⟩
  rintro⟨i,J⟩ ⟨av,bp,hi2⟩
  refine yW ?_;have bn:=hcd3 l oM;refine go6 ?_;refine lX (xI [] l underlying81 fR D) λbj ao=>(lX (xA fR ao) λbi bm=>(gc4 (λZ=>?_) λZ=>?_))
  ·
   refine go5 ?_;refine zK 21 _ [] (zai 0 21 []) yA nX (wV zot) nX (λr hr=>hr) (go2 ?_);refine wX I (xI [] l underlying81 fR D) λbh an=>(wX I (xA fR an) λbg am=>(go1 ?_));refine wX I (xI (0:Int) i underlying32 ty3 am) λbf ak=>(wX I (xA ty3 ak) λbe aj=>?_);obtain⟨rfl,ay,au⟩:=gJ aj;refine go2 ?_;refine tJ ((((((s.2.1.getD f.toNat zA).2).1).getD l []).getD i (0:Int))<(0:Int)) (λC=>?_) (λC=>?_)
   ·
    rw[wB C];refine go30 ?_;refine zF I I ?_;exact(yZ (λe=>by have:=e l oM i oM;omega)).symm
   rw[yZ C];refine xG I I I (λh' L' hh hR=>xL I) I (xG I I I (λh' L' hh hR=>xL I) I (oX I (xI [] l underlying81 fR D) λbd ai=>(oX I (xA fR ai) λbc ah=>(xG I I I (λh' L' hh hR=>xL I) I (oX I (xI (0:Int) i underlying32 ty3 ah) λbb ae=>(oX I (xA ty3 ae) λba ad=>?_))))));obtain⟨rfl,ax,ar⟩:=gJ ad;refine go1 ?_;refine oX I (xB qD (y4i pH) H) λaz ac=>(xG I I I (λh' L' hh hR=>jA underlying46 I (ac.mono hh)) I (gc4 (λU=>?_) λU=>?_))
   ·
    refine u5 ?_;refine zF I I ?_;exact(yZ (λe=>by have:=e l oM i oM;omega)).symm
   refine go8 ?_;refine gqL ((i+1),J) ?_ ?_
   · exact⟨mle,by omega,qN (Q:=λu=>0<=((s.2.1.getD f.toNat zA).2.1.getD l []).getD u 0/\((s.2.1.getD f.toNat zA).2.1.getD l []).getD u 0<↑s.1.length) hi2 oM⟩
   omega
  refine jI ?_;refine gqL ((l+1),J) ?_ ?_
  · exact⟨mle,by omega,qN (Q:=λu=>nmL s.1.length ((s.2.1.getD f.toNat zA).2.1.getD u [])) O (λu hu=>hi2 u oM)⟩
  omega
 refine jI ?_;refine zF I I ?_;exact(wB (λu hu=>O u oM)).symm
theorem zD0{k m n j:Nat}{vs:Value}{s:Sq}(rs:(tSd k m n j).Is h0 vs s){f:Int}(hf1:-9223372036854775808<=f)(hf2:f<9223372036854775808)(hcd0:s.1.length<=100000)(hcd1:∀f,f<s.2.1.length->(s.2.1.getD f zA).2.1.length<=10000/\∀l,l<(s.2.1.getD f zA).2.1.length->((s.2.1.getD f zA).2.1.getD l []).length<=10000):
 Calls prog 189 #[vs,vI f] w0 (Ret w0 h0 (λh r=>(tLL (k+1)).Is h r (fE s f))):=by
 refine cb2 65 vs (vI f) func189 hs ?_;refine go2 ?_;refine nB rs λb2 an ab=>(go8 ?_);refine gU 7 18 (vB ((f<(0:Int))\/((↑(s.2.1).length:Int)<=f))) ?_ ?_
 ·
  refine yK (f<(0:Int)) (λZ=>?_) (λZ=>?_)
  ·
   refine gT Z I (go7 ?_);refine gqU ?_;exact y2e (uL Z)
  refine gF Z I (go5 ?_);refine lX (xB gG (y4u (y4i pH)) ab) λct cv=>(go6 ?_);refine gqU ?_;exact y2e (uM Z)
 refine qM (ι:=Mem) 6 (λm_=>MLe h0 m_) (λ_=>[(24,vB (((f<(0:Int))\/((↑(s.2.1).length:Int)<=f))\/(¬(nmP s f.toNat)))),(1,vI f),(2,vP b2 0)]) (λ_=>[.var b2 50 an]) (λm_=>m_) ?_ ?_
 ·
  refine yK ((f<(0:Int))\/((↑(s.2.1).length:Int)<=f)) (λZ=>?_) (λZ=>?_)
  ·
   refine gT Z I (go6 ?_);refine zY h0 (MLe.refl _) ⟨?_,I,I,y3i⟩ I I;exact y2e (uL Z)
  refine gF Z I (go1 ?_);refine lX (xB qP pH ab) λcq bt=>(go3 ?_);refine cL (ev2 I I) call187 (λw hs=>zIJ hs bt oM oM oM (by first|omega|exact zci (hcd1 f.toNat oM).1 dC|exactλl hl=>zci ((hcd1 f.toNat oM).2 l hl) dC) (by first|omega|exact zci (hcd1 f.toNat oM).1 dC|exactλl hl=>zci ((hcd1 f.toNat oM).2 l hl) dC) (by first|omega|exact zci (hcd1 f.toNat oM).1 dC|exactλl hl=>zci ((hcd1 f.toNat oM).2 l hl) dC)) λbg h1 ac bs=>?_;obtain rfl:bg=vB (nmP s f.toNat):=bs;refine go4 ?_;refine zY h1 ac ⟨?_,I,I,y3i⟩ I I;exact y2e (uM Z)
 intro J ay;refine rN ?_;refine gc2 (λaa=>?_) λaa=>?_
 ·
  refine go7 ?_;refine zF I I ?_;exact(Rp.Is.cast (eA _) (by exact(zae (λe=>aa.elim (λh=>by omega) (λh=>h e.2))).symm))
 have aw:(0<=f/\f<↑s.2.1.length)/\nmP s f.toNat:=by constructor;exact oM;exact zdi (λe=>aa (.inr e))
 have ax:∀l,l<(s.2.1.getD f.toNat zA).2.1.length->∀q,q<((s.2.1.getD f.toNat zA).2.1.getD l []).length->0<=((s.2.1.getD f.toNat zA).2.1.getD l []).getD q 0/\((s.2.1.getD f.toNat zA).2.1.getD l []).getD q 0<↑s.1.length:=λl hl q hq=>aw.2 l hl q hq;have az:=hcd1 f.toNat oM;refine qE ?_;refine lX (xB gG (y4u (y4i pH)) ab) λcp br=>(go1 ?_);refine lX (xI zA f.toNat underlying47 sJ br) λco bq=>(lX (xF underlying83 sizeOf81 (y4u (y4i pH)) bq) λcn bp=>(lX (xA rQ bp) λao av=>(qE ?_)));refine xK 46 1 ?_;have ak:=RL.nil (ρ:=rpS (tPt (k+1))) (h:=J);refine gcL (ι:=Nat×List (List Tq)×Value×List Value×Mem) (λ(l,D,C,G,ml)=>(MLe J ml/\(RL (tLs (k+1)) ml G D/\l<=(s.2.1.getD f.toNat zA).2.1.length/\D=zKW s f.toNat l),[(2,vP b2 0),(5,C),(6,ao),(7,vI ↑l)],[.gs 46 1 C D.length G,.var b2 50 an],ml,(s.2.1.getD f.toNat zA).2.1.length-l)) (0,[],(.slice none 0 0),[],J) ?_ ?_
 · exact⟨mle,ak,by omega,I⟩
 rintro⟨l,D,C,G,ml⟩ ⟨bx,U,de,hD⟩
 refine yW ?_;have dd:D.length=l:=by rw[hD];exact xZ _ _
 refine gc9 (λbb=>?_) λbb=>?_
 ·
  refine zDD ?_;refine xK 53 9 ?_;have aj:=RL.nil (ρ:=rpT (rpQ (k+1))) (h:=ml);refine gcL (ι:=Nat×List Tq×Value×List Value×Mem) (λ(q,YY,H,M,mq)=>(MLe ml mq/\(RL (tPt (k+1)) mq M YY/\q<=((s.2.1.getD f.toNat zA).2.1.getD l []).length/\YY=zOM s.1 ((s.2.1.getD f.toNat zA).2.1.getD l []) q),[(2,vP b2 0),(5,C),(6,ao),(7,vI ↑l),(8,H),(9,vI ↑q)],[.gs 53 9 H YY.length M,.gs 46 1 C D.length G,.var b2 50 an],mq,((s.2.1.getD f.toNat zA).2.1.getD l []).length-q)) (0,[],(.slice none 0 0),[],ml) ?_ ?_
  · exact⟨mle,aj,by omega,I⟩
  rintro⟨q,YY,H,M,mq⟩ ⟨bw,O,db,am⟩
  refine yW ?_;have dc:YY.length=q:=by rw[am];exact xZ _ _
  have bu:=az.2 l oM;refine go6 ?_;refine lX (xI [] l underlying81 fR av) λcm bo=>(lX (xA fR bo) λcl cu=>(gc4 (λba=>?_) λba=>?_))
  ·
   refine go4 ?_;refine jS (A:=[]) 15 [] (zai 0 12 [(12,.c),(13,.c),(14,.q)]) yA nX (wV zot) nX (go2 ?_);refine wX I (xB qD (y4i pH) ab) λck bn=>(go2 ?_);refine wX I (xI [] l underlying81 fR av) λcj bm=>(wX I (xA fR bm) λci bl=>(go1 ?_));refine wX I (xI (0:Int) q underlying32 ty3 bl) λch bk=>(wX I (xA ty3 bk) λcg bj=>?_);obtain⟨rfl,bz,bv⟩:=gJ bj;refine tA (F:=λv_=>AtP (tPt k) mq v_ (s.1.getD ((((s.2.1.getD f.toNat zA).2.1.getD l []).getD q 0).toNat) zT)) I (sO zT ((((s.2.1.getD f.toNat zA).2.1.getD l []).getD q 0).toNat) underlying46 zR I I bn (by(have h:=ax l oM q oM;omega)) (by(have h:=ax l oM q oM;omega)) nP) zAL I ?_;intro cf bi;refine wX I (xA zR bi) λce bh=>?_;refine w_c I (jN (λX=>zN (ρ:=(tPt (k+1))) (m:=1) (xs:=[(s.1.getD ((((s.2.1.getD f.toNat zA).2.1.getD l []).getD q 0).toNat) zT)]) (ps':=[(0,_)]) underlying46 yO I I I (yS (yE oM)) e2z (zC I (y3e (y3u _) zT 0 dC) (bh.le (Le.t (Le.q (l:=k+1) oM))) zQ) zok nP) I ?_)
   rintro cd da ⟨cb,rfl,au⟩
   refine w_c I (xT (A:=[]) (ρ:=(tPt (k+1))) au dK ?_);intro h1 ac ai;refine gV (A:=[]) (λX=>yB (ρ:=(tPt (k+1))) (bytes:=168) underlying46 yO I I I I nP I I O.up ai bO bO) I (wA zox) ?_
   rintro bf cz ⟨bd,rfl,ar⟩
   refine go9 ?_;refine gqL ((q+1),(YY++[(s.1.getD ((((s.2.1.getD f.toNat zA).2.1.getD l []).getD q 0).toNat) zT)]),bf,bd,h1) ?_ ?_
   · exact⟨mle,ar,by omega,by rw[am];rfl⟩
   omega
  have eq:q=((s.2.1.getD f.toNat zA).2.1.getD l []).length:=by omega
  have bu:=az.2 l oM;refine go8 ?_;refine zX (A:=[]) (ρ:=(tPt (k+1))) O.up ?_;intro h1 ac ah;refine zH (zN (ρ:=(tLs (k+1))) (m:=1) (xs:=[YY]) (ps':=[(0,_)]) underlying115 lH I I I wD e2z (zC I (y3e (y3u _) [] 0 dC) ah zQ) zoj nP) I I I ?_
  rintro cc cy ⟨ca,rfl,aq⟩
  refine zX (A:=[]) (ρ:=(tLs (k+1))) aq ?_;intro h2 df ae;refine xU (A:=[]) (yB (ρ:=(tLs (k+1))) (bytes:=24) underlying115 lH I I I I nP I I U.up ae bO bO) I I I ?_
  rintro be cw ⟨bc,rfl,ap⟩
  refine go9 ?_;refine gqL ((l+1),(D++[YY]),be,bc,h2) ?_ ?_
  · exact⟨mle,ap,by omega,by rw[hD,am,eq];rfl⟩
  omega
 have el:l=(s.2.1.getD f.toNat zA).2.1.length:=by omega
 refine jF ?_;refine wR (A:=[]) (ρ:=(tLs (k+1))) U.up ?_;intro h1 ac ad;refine zF I I ?_;exact(Rp.Is.cast ad (by rw[hD,el];exact(zau aw).symm))
theorem zEB{m n k:Nat}{vpl:Value}{pl:Pq}(rpl:(tPl m n).Is h0 vpl pl){vl:Value}{l:(List Tq)}(rl:(tLs k).Is h0 vl l)(hcd0:k<=100000000)(hcd1:m<=100000000)(hcd2:n<=100000000)(hcd3:l.length<=100000):
 Calls prog 207 #[vpl,vl] w0 (Ret w0 h0 (λh r=>(tLs (k+1)).Is h r (flA pl l l.length))):=by
 refine cb2 23 vpl vl func207 hs ?_;refine go2 ?_;refine nB rpl λb2 am ad=>(u5 ?_);refine xK 53 9 ?_;have O:=RL.nil (ρ:=rpT (rpQ (k+1))) (h:=h0);refine gcL (ι:=Nat×List Tq×Value×List Value×Mem) (λ(i,D,C,G,mi)=>(MLe h0 mi/\(RL (tPt (k+1)) mi G D/\i<=l.length/\D=flA pl l i),[(1,vl),(2,vP b2 0),(5,C),(6,vI ↑i)],[.gs 53 9 C D.length G,.var b2 80 am],mi,l.length-i)) (0,[],(.slice none 0 0),[],h0) ?_ ?_
 · exact⟨mle,O,by omega,I⟩
 rintro⟨i,D,C,G,mi⟩ ⟨an,H,ay,hD⟩
 refine yW ?_;have ba:D.length=i:=by rw[hD];exact xZ _ _
 refine gc9 (λaa=>?_) λaa=>?_
 ·
  refine go4 ?_;refine jS (A:=[]) 10 [] (zai 0 6 [(6,.c),(7,.c),(8,.c),(9,.q)]) yA nX zot nX (go1 ?_);refine wX I (xB iI pH ad) λav aj=>(go2 ?_);refine wX I (xI zT i underlying46 zR rl) λau ai=>(wX I (xA zR ai) λar ah=>?_);refine w_c I (sC (ev2 I I) call208 (λw hs=>zJZ hs aj ah oM oM) λaq h1 ak ae=>?_);refine w_c I (jN (λX=>zN (ρ:=(tPt (k+1))) (m:=1) (xs:=[fX pl (l.getD i zT)]) (ps':=[(0,_)]) underlying46 yO I I I (yS (yE oM)) e2z (zC I (y3e (y3u _) zT 0 dC) ae zQ) zok nP) I ?_)
  rintro ap ax ⟨ao,rfl,Z⟩
  refine w_c I (xT (A:=[]) (ρ:=(tPt (k+1))) Z dK ?_);intro h2 az M;refine gV (A:=[]) (λX=>yB (ρ:=(tPt (k+1))) (bytes:=168) underlying46 yO I I I I nP I I H.up M bO bO) I (wA zox) ?_
  rintro ac aw ⟨ab,rfl,U⟩
  refine go9 ?_;refine gqL ((i+1),(D++[fX pl (l.getD i zT)]),ac,ab,h2) ?_ ?_
  · exact⟨mle,U,by omega,by rw[hD];rfl⟩
  omega
 have ei:i=l.length:=by omega
 refine jF ?_;refine wR (A:=[]) (ρ:=(tPt (k+1))) H.up ?_;intro h1 ak J;refine zF I I ?_;exact(Rp.Is.cast J (by rw[hD,ei]))
theorem zBR{m n k:Nat}{vpl:Value}{pl:Pq}(rpl:(tPl m n).Is h0 vpl pl){vL:Value}{L:(List (List Tq))}(rL:(tLL k).Is h0 vL L)(hcd0:k<=100000000)(hcd1:m<=100000000)(hcd2:n<=100000000)(hcd3:L.length<=100000)(hcd4:∀l,l<L.length->(L.getD l []).length<=10000):
 Calls prog 198 #[vpl,vL] w0 (Ret w0 h0 (λh r=>(tLL (k+1)).Is h r (flL pl L L.length))):=by
 refine cb2 23 vpl vL func198 hs ?_;refine go2 ?_;refine nB rpl λb2 am ad=>(u5 ?_);refine xK 46 1 ?_;have O:=RL.nil (ρ:=rpS (tPt (k+1))) (h:=h0);refine gcL (ι:=Nat×List (List Tq)×Value×List Value×Mem) (λ(i,D,C,G,mi)=>(MLe h0 mi/\(RL (tLs (k+1)) mi G D/\i<=L.length/\D=flL pl L i),[(1,vL),(2,vP b2 0),(5,C),(6,vI ↑i)],[.gs 46 1 C D.length G,.var b2 80 am],mi,L.length-i)) (0,[],(.slice none 0 0),[],h0) ?_ ?_
 · exact⟨mle,O,by omega,I⟩
 rintro⟨i,D,C,G,mi⟩ ⟨an,H,ay,hD⟩
 refine yW ?_;have ba:D.length=i:=by rw[hD];exact xZ _ _
 refine gc9 (λaa=>?_) λaa=>?_
 ·
  refine go4 ?_;refine jS (A:=[]) 10 [] (zai 0 6 [(6,.c),(7,.c),(8,.c),(9,.q)]) yA nX zot nX (go1 ?_);refine wX I (xB iI pH ad) λav aj=>(go2 ?_);refine wX I (xI [] i underlying115 qD rL) λau ai=>(wX I (xA qD ai) λar ah=>?_);refine w_c I (sC (ev2 I I) call207 (λw hs=>zEB hs aj ah oM oM oM (by first|omega|exact zci (hcd4 i oM) dC)) λaq h1 ak ae=>?_);refine w_c I (jN (λX=>zN (ρ:=(tLs (k+1))) (m:=1) (xs:=[flA pl (L.getD i []) (L.getD i []).length]) (ps':=[(0,_)]) underlying115 lH I I I wD e2z (zC I (y3e (y3u _) [] 0 dC) ae zQ) zoj nP) I ?_)
  rintro ap ax ⟨ao,rfl,Z⟩
  refine w_c I (xT (A:=[]) (ρ:=(tLs (k+1))) Z dK ?_);intro h2 az M;refine gV (A:=[]) (λX=>yB (ρ:=(tLs (k+1))) (bytes:=24) underlying115 lH I I I I nP I I H.up M bO bO) I (wA zox) ?_
  rintro ac aw ⟨ab,rfl,U⟩
  refine go9 ?_;refine gqL ((i+1),(D++[flA pl (L.getD i []) (L.getD i []).length]),ac,ab,h2) ?_ ?_
  · exact⟨mle,U,by omega,by rw[hD];rfl⟩
  omega
 have ei:i=L.length:=by omega
 refine jF ?_;refine wR (A:=[]) (ρ:=(tLs (k+1))) H.up ?_;intro h1 ak J;refine zF I I ?_;exact(Rp.Is.cast J (by rw[hD,ei]))
theorem zME{k m n j:Nat}{vs:Value}{s:Sq}(rs:(tSd k m n j).Is h0 vs s){f:Nat}(hcd0:k<=1000)(hcd1:m<=100000)(hcd2:n<=100000)(hcd3:s.1.length<=100000)(hcd4:∀f,f<s.2.1.length->(s.2.1.getD f zA).2.1.length<=10000/\∀l,l<(s.2.1.getD f zA).2.1.length->((s.2.1.getD f zA).2.1.getD l []).length<=10000)(hcd5:f<s.2.1.length)(hcd6:s.2.1.length<=100000):
 Calls prog 176 #[vs,vI ↑f] w0 (Ret w0 h0 (λh r=>(tLL (k+2)).Is h r (sY s f))):=by
 have C:=yB9 (s:=s) (f:=↑f) hcd4;refine cb2 15 vs (vI ↑f) func176 hs ?_;refine go2 ?_;refine nB rs λb2 ad G=>(go4 ?_);refine zK 11 _ [] (zai 0 8 [(8,.c),(9,.c),(10,.q)]) yA nX zot nX (λr hr=>hr) (go1 ?_);refine wX I (xB gG (y4u (y4i pH)) G) λv6 r6=>(go1 ?_);refine wX I (xI zA f underlying47 sJ r6) λv8 r8=>(wX I (xF underlying83 sizeOf80 (y4i pH) r8) λv9 r9=>(wX I (xA iI r9) λaa M=>(wX I (xB qP pH G) λZ J=>(go1 ?_))));refine w_c I (sC (ev2 I I) call189 (λw hs=>zD0 hs J oM oM (by first|omega|exact hcd4) (by first|omega|exact hcd4)) λU h1 ac H=>?_);refine w_c I (sC (ev2 I I) call198 (λw hs=>zBR hs M.up H oM oM oM (by first|omega|exact C.1|exactλl hl=>C.2 l) (by first|omega|exact C.1|exactλl hl=>C.2 l)) λO h2 ab D=>?_);replace D:=Rp.Is.le D (Le.s (Le.s (Le.t (Le.q (l:=k+2) oM))));refine go4 ?_;refine zF I I ?_;exact D
theorem zAH{kind:Int}(hkind1:-9223372036854775808<=kind)(hkind2:kind<9223372036854775808){face:Int}(hface1:-9223372036854775808<=face)(hface2:face<9223372036854775808){loop:Int}(hloop1:-9223372036854775808<=loop)(hloop2:loop<9223372036854775808){edge:Int}(hedge1:-9223372036854775808<=edge)(hedge2:edge<9223372036854775808):
 Calls prog 188 #[vI kind,vI face,vI loop,vI edge] w0 (Ret w0 h0 (λh r=>tE5.Is h r (dg kind face loop edge))):=by
 refine fF (n:=14) (e:=[(0,vI kind),(1,vI face),(2,vI loop),(3,vI edge)]) (vs:=[vI kind,vI face,vI loop,vI edge]) func188 rfl rfl (bL rfl) hs e4z (go2 ?_);refine nA (ρ:=tE5) (X:=e50) jX (yF wY (yF wY (yF wY (yF wY wY)))) λb8 Z H=>(go8 ?_);refine lX (xV (ρ:=tE5) (xE (ps':=[(0,_),(1,_),(2,_),(3,_),(4,_)]) underlying200 jX I I (zC0 underlying200) e10 I (yF wY (yF wY (yF wY (yF wY wY)))) (zC I (y4i (y3u _)) (wL oM oM) (zC I (y4u (y4i (y3u _))) (wL dC dC) (zC I (y4u (y4u (y4i (y3u _)))) (wL oM oM) (zC I (y4u (y4u (y4u (y4i (y3u _))))) (wL oM oM) (zC I (y4u (y4u (y4u (y4u (y3u _))))) (wL oM oM) zQ))))))) λU J=>(zU (A:=[]) (uB sizeOf200 pH H J) λM G=>(go3 ?_));refine xH (qK (t:=8) yH6 mh0 I G) ?_;intro O C D;refine yI (λE S=>zS I C E S) ?_;exact D
theorem zWQ{k l:Nat}{vp:Value}{p:Tq}(rp:(tPt k).Is h0 vp p){vq:Value}{q:Tq}(rq:(tPt l).Is h0 vq q)(hcd0:k<=100000000)(hcd1:l<=100000000):
 Calls prog 175 #[vp,vq] w0 (Ret w0 h0 (λ_ r=>r=vB (lsP p q))):=by
 refine cb2 22 vp vq func175 hs ?_;refine go2 ?_;refine nB rp λG ad M=>(nB rq λD ac J=>(qE ?_));refine gcL (ι:=Nat×Mem) (λ(i,ma)=>(MLe h0 ma/\(i<=3/\∀u,u<i->vH (p.at u) (q.at u)=0),[(2,vP G 0),(3,vP D 0),(5,vI ↑i)],[.var D 53 ac,.var G 53 ad],ma,3-i)) (0,h0) ?_ ?_
 · exact⟨mle,by omega,λu h=>by omega⟩
 rintro⟨i,ma⟩ ⟨ae,aj,hi2⟩
 refine yW ?_;refine gc7 (λab=>?_) λab=>?_
 ·
  refine go5 ?_;refine zK 8 _ [] (zai 0 6 [(6,.c),(7,.q)]) yA nX zot nX (λr hr=>hr) (go1 ?_);refine xD I (λ_ _=>(zP (sz:=3) i underlying53 sizeOf26 I I I oM).cv (show _=vP G ((i*3+0)) from zbi (vP G) oM)) I (wX I (xB yJ (Pc.ta pH i oM) M) λai Z=>(go1 ?_));refine xD I (λ_ _=>(zP (sz:=3) i underlying53 sizeOf26 I I I oM).cv (show _=vP D ((i*3+0)) from zbi (vP D) oM)) I (wX I (xB yJ (Pc.ta pH i oM) J) λah U=>?_);refine w_c I (sC (ev2 I I) call18 (λw hs=>tN hs Z U oM) λH h1 ak O=>?_);obtain rfl:H=vI (vH (p.at i) (q.at i)):=O;have aa:=gQ (p.at i) (q.at i);refine gc9 (λC=>?_) λC=>?_
  ·
   refine pV ?_;refine zF I I ?_;exact tZ (yI5 oM hi2 C)
  refine go8 ?_;refine gqL ((i+1),h1) ?_ ?_
  · exact⟨mle,by omega,qN (Q:=λu=>vH (p.at u) (q.at u)=0) hi2 (zdi C)⟩
  omega
 have ei:i=3:=by omega
 refine jI ?_;refine zF I I ?_;exact(yZ (yF3 λu hu=>hi2 u oM)).symm
theorem zD1{va:Value}{a:(List Int)}(ra:(rpS rpI).Is h0 va a){vb:Value}{b:(List Int)}(rb:(rpS rpI).Is h0 vb b):
 Calls prog 178 #[va,vb] w0 (Ret w0 h0 (λ_ r=>r=vI (cJ a b))):=by
 have bd:=yIH ra;have bc:=yIH rb;refine cb2 48 va vb func178 hs ?_;refine jF ?_;refine gcL (ι:=Nat×Mem) (λ(i,O)=>(MLe h0 O/\((i<=a.length/\i<=b.length)/\∀u,u<i->a.getD u 0=b.getD u 0),[(0,va),(1,vb),(5,vI ↑i)],[],O,a.length-i)) (0,h0) ?_ ?_
 · exact⟨mle,by omega,λu h=>by omega⟩
 rintro⟨i,O⟩ ⟨an,be,hi2⟩
 refine yW ?_;refine go7 ?_;refine gU 6 15 (vB (((↑i:Int)<(↑(a).length:Int))/\((↑i:Int)<(↑(b).length:Int)))) ?_ ?_
 ·
  refine yK ((↑i:Int)<(↑(a).length:Int)) (λG=>?_) (λG=>?_)
  ·
   refine gT G I (qE ?_);refine gqU ?_;exact y2e (wE G)
  refine gF G I (go6 ?_);refine gqU ?_;exact y2e (wG G)
 refine gc2 (λM=>?_) λM=>?_
 ·
  refine go5 ?_;refine zK 9 _ [] (zai 0 9 []) yA nX zot nX (λr hr=>hr) (go2 ?_);refine wX I (xI (0:Int) i underlying32 ty3 ra) λbb ah=>(wX I (xA ty3 ah) λba ae=>?_);obtain⟨rfl,ar,am⟩:=gJ ae;refine go2 ?_;refine wX I (xI (0:Int) i underlying32 ty3 rb) λaz ad=>(wX I (xA ty3 ad) λay ac=>?_);obtain⟨rfl,aq,ak⟩:=gJ ac;refine gc3 (λC=>?_) λC=>?_
  ·
   refine go2 ?_;refine zK 9 _ [] (zai 0 9 []) yA nX zot nX (λr hr=>hr) (go2 ?_);refine wX I (xI (0:Int) i underlying32 ty3 ra) λax ab=>(wX I (xA ty3 ab) λaw aa=>?_);obtain⟨rfl,ap,aj⟩:=gJ aa;refine go2 ?_;refine wX I (xI (0:Int) i underlying32 ty3 rb) λav Z=>(wX I (xA ty3 Z) λau U=>?_);obtain⟨rfl,ao,ai⟩:=gJ U;refine gc3 (λD=>?_) λD=>?_
   ·
    refine jF ?_;refine zF I I ?_;refine zbi vI ?_;rw[zR7 hi2 oM oM C,zau D]
   refine pV ?_;refine zF I I ?_;refine zbi vI ?_;rw[zR7 hi2 oM oM C,zae D]
  refine go8 ?_;refine gqL ((i+1),O) ?_ ?_
  · exact⟨mle,by omega,qN (Q:=λu=>a.getD u 0=b.getD u 0) hi2 (zdi C)⟩
  omega
 have ei:i=min a.length b.length:=by omega
 refine iD ?_;refine cnd (λJ=>?_) λJ=>?_
 ·
  refine go8 ?_;refine zF I I ?_;refine zbi vI ?_;rw[zG0 hi2 ei,zau oM]
 refine u6 (λH=>?_) λH=>?_
 ·
  refine go8 ?_;refine zF I I ?_;refine zbi vI ?_;rw[zG0 hi2 ei,zae oM,zau oM]
 refine go9 ?_;refine zF I I ?_;refine zbi vI ?_;rw[zG0 hi2 ei,zae oM,zae oM]
theorem zPD{vx:Value}{x:(List Int)}(rx:(rpS rpI).Is h0 vx x)(hcd0:x.length<=100000):
 Calls prog 177 #[vx] w0 (Ret w0 h0 (λh r=>(rpS rpI).Is h r (zS1 x))):=by
 refine cb1 29 vx func177 hs ?_;refine iD ?_;refine gcL (ι:=Nat×Mem) (λ(i,D)=>(MLe h0 D/\(i<=x.length),[(0,vx),(3,vI ↑(cR x i)),(4,vI ↑i)],[],D,x.length-i)) (0,h0) ?_ ?_
 · exact⟨mle,oM⟩
 rintro⟨i,D⟩ ⟨ak,O⟩
 refine yW ?_;have bd:=O;have bc:=yCT x i;refine gc9 (λah=>?_) λah=>?_
 ·
  refine go5 ?_;refine zK 9 _ [] (zai 0 9 []) yA nX zot nX (λr hr=>hr) (go2 ?_);refine wX I (xI (0:Int) i underlying32 ty3 rx) λaz ae=>(wX I (xA ty3 ae) λay ad=>?_);obtain⟨rfl,an,aj⟩:=gJ ad;refine go2 ?_;refine wX I (xI (0:Int) (cR x i) underlying32 ty3 rx) λax ac=>(wX I (xA ty3 ac) λaw ab=>?_);obtain⟨rfl,am,ai⟩:=gJ ab;refine gc3 (λC=>?_) λC=>?_
  ·
   refine jI ?_;refine gqL ((i+1),D) ?_ ?_ (he:=⟨I,zbi (λz:Nat=>some (vI ↑z)) (mn_t C),I,y3i⟩)
   · exact⟨mle,oM⟩
   omega
  refine go8 ?_;refine gqL ((i+1),D) ?_ ?_ (he:=⟨I,zbi (λz:Nat=>some (vI ↑z)) (mn_f C),I,y3i⟩)
  · exact⟨mle,oM⟩
  omega
 have ei:i=x.length:=by omega
 refine go6 ?_;refine zK 9 _ [] [(0,.q),(1,.q),(2,.q),(4,.q),(5,.q),(6,.q),(3,.c),(7,.c),(8,.q)] yA nX zot nX (λr hr=>hr) (go2 ?_);refine tA (F:=λU=>(rpS rpI).Is D U (x.drop (cR x i))) I (zOU (ρ:=rpI) (cR x i) underlying32 sizeOf3 I I rx.up oM oM) zAL I ?_;intro av aa;refine go2 ?_;refine tA (F:=λU=>(rpS rpI).Is D U (x.take (cR x i))) I (zOV (ρ:=rpI) (cR x i) underlying32 sizeOf3 I I rx.up oM oM) zAL I ?_;intro ar Z;refine w_c I (iN 3 1 ?_);have H:=RL.nil (ρ:=rpI) (h:=D);refine gV (A:=[]) (λX=>yB (ρ:=rpI) (bytes:=8) underlying32 jV I I I I nP I I H aa zo5 zo5) I (wA zox) ?_
 rintro au bb ⟨ap,rfl,M⟩
 refine w_c I (gV (A:=[]) (λX=>yB (ρ:=rpI) (bytes:=8) underlying32 jV I I I I nP I I M Z zo5 zo5) I (wA zox) ?_)
 rintro aq ba ⟨ao,rfl,J⟩
 refine go4 ?_;refine wR (A:=[]) (ρ:=rpI) J ?_;intro h1 be G;refine zF I I ?_;exact(Rp.Is.cast G (by rw[ei,zge];rfl))
theorem zJ3{m n k l:Nat}{va:Value}{a:(Pq×((List (List Int))×(List Nat)))}(ra:(tFc m n).Is h0 va a){vb:Value}{b:(Pq×((List (List Int))×(List Nat)))}(rb:(tFc k l).Is h0 vb b)(hcd0:a.2.1.length<=100000)(hcd1:b.2.1.length<=100000):
 Calls prog 129 #[va,vb] w0 (Ret w0 h0 (λ_ r=>r=vB (lsF a b))):=by
 refine cb2 53 va vb func129 hs ?_;refine go2 ?_;refine nB ra λb2 au D=>(nB rb λb3 ar C=>(go7 ?_));refine lX (xB ty9 (y4u (y4u pH)) D) λv8 r8=>?_;obtain⟨rfl,aq⟩:=kV r8;refine go1 ?_;refine lX (xB ty9 (y4u (y4u pH)) C) λbi ao=>?_;obtain⟨rfl,aa⟩:=kV ao;refine gv (zWC (pa:=a.2.2) (pb:=b.2.2) aq aa I I) I (gc2 (λH=>?_) λH=>?_)
 ·
  refine go3 ?_;refine lX (xB ty9 (y4u (y4u pH)) D) λbh an=>?_;obtain⟨rfl,Z⟩:=kV an;refine go1 ?_;refine lX (xB ty9 (y4u (y4u pH)) C) λbg am=>?_;obtain⟨rfl,U⟩:=kV am;refine gv (zWF (pa:=a.2.2) (pb:=b.2.2) Z U I I) I (go5 ?_);refine zF I I ?_;exact tZ (Iff.of_eq (zae H).symm)
 have J:a.2.2=b.2.2:=zdi H;refine go9 ?_;refine gcL (ι:=Nat×Mem) (λ(i,ma)=>(MLe h0 ma/\((i<=a.2.1.length/\i<=b.2.1.length)/\∀u,u<i->cJ (a.2.1.getD u []) (b.2.1.getD u [])=0),[(2,vP b2 0),(3,vP b3 0),(5,vI ↑i)],[.var b3 83 ar,.var b2 83 au],ma,a.2.1.length-i)) (0,h0) ?_ ?_
 · exact⟨mle,by omega,λu h=>by omega⟩
 rintro⟨i,ma⟩ ⟨av,bn,hi2⟩
 refine yW ?_;refine go5 ?_;refine lX (xB rQ (y4u (y4i pH)) D) λbf bm=>(go2 ?_);refine gU 7 28 (vB (((↑i:Int)<(↑(a.2.1).length:Int))/\((↑i:Int)<(↑(b.2.1).length:Int)))) ?_ ?_
 ·
  refine yK ((↑i:Int)<(↑(a.2.1).length:Int)) (λM=>?_) (λM=>?_)
  ·
   refine gT M I (go5 ?_);refine lX (xB rQ (y4u (y4i pH)) C) λbe bl=>(go6 ?_);refine gqU ?_;exact y2e (wE M)
  refine gF M I (go7 ?_);refine gqU ?_;exact y2e (wG M)
 refine gc2 (λO=>?_) λO=>?_
 ·
  refine go5 ?_;refine zK 12 _ [] (zai 0 10 [(10,.c),(11,.q)]) yA nX (wV zot) nX (λr hr=>hr) (go1 ?_);refine wX I (xB rQ (y4u (y4i pH)) D) λbd ak=>(go1 ?_);refine wX I (xI [] i underlying81 fR ak) λbc aj=>(wX I (xA fR aj) λbb ai=>(go1 ?_));refine wX I (xB rQ (y4u (y4i pH)) C) λba ah=>(go1 ?_);refine wX I (xI [] i underlying81 fR ah) λaz ae=>(wX I (xA fR ae) λay ad=>?_);refine w_c I (sC (ev2 I I) call178 (λw hs=>zD1 hs ai ad) λab h1 bo ac=>?_);obtain rfl:ab=vI (cJ (a.2.1.getD i []) (b.2.1.getD i [])):=ac;have ap:=zAW (a.2.1.getD i []) (b.2.1.getD i []);refine gc9 (λG=>?_) λG=>?_
  ·
   refine pV ?_;refine zF I I ?_;exact tZ ((yBH hi2 oM oM G).symm.trans (Iff.of_eq (zau J).symm))
  refine go8 ?_;refine gqL ((i+1),h1) ?_ ?_
  · exact⟨mle,by omega,qN (Q:=λu=>cJ (a.2.1.getD u []) (b.2.1.getD u [])=0) hi2 (zdi G)⟩
  omega
 have ei:i=min a.2.1.length b.2.1.length:=by omega
 refine go8 ?_;refine lX (xB rQ (y4u (y4i pH)) D) λax bk=>(go2 ?_);refine lX (xB rQ (y4u (y4i pH)) C) λaw bj=>(go6 ?_);refine zF I I ?_;exact tZ (Iff.trans oM ((zXG hi2 ei).symm.trans (Iff.of_eq (zau J).symm)))
theorem zIG{m n:Nat}{vs:Value}{s:Pq}(rs:(tPl m n).Is h0 vs s)(hcd0:m<=10000000)(hcd1:n<=10000000):
 Calls prog 64 #[vs] w0 (Ret w0 h0 (λh r=>(tPl (4*m+10) (m+n+10)).Is h r (scZ s))):=by
 refine cb1 36 vs func64 hs ?_;refine go2 ?_;refine nB rs λb1 be G=>(nA (ρ:=(tPl 1 1)) (X:=(zT,(0:Rat))) sU (yF (yS (yE dC)) (yE dC)) λb2 bd ai=>(go9 ?_));refine gcL (ι:=Nat×Mem) (λ(i,ma)=>(MLe h0 ma/\(i<=3/\∀u,u<i->yU (s.1.at u)=0),[(1,vP b1 0),(2,vP b2 0),(3,vI ↑i)],[.var b2 80 bd,.var b1 80 be],ma,3-i)) (0,h0) ?_ ?_
 · exact⟨mle,by omega,λu h=>by omega⟩
 rintro⟨i,ma⟩ ⟨bg,bx,hi2⟩
 refine yW ?_;refine gc7 (λbb=>?_) λbb=>?_
 ·
  refine go8 ?_;refine gv ((zP (sz:=3) i underlying53 sizeOf26 I I I oM).cv (show _=vP b1 ((i*3+0)) from zbi (vP b1) oM)) I (lX (xB yJ (y4i (Pc.ta pH i oM)) G) λbw az=>(cL (ev1 I) call17 (λw hs=>vX hs az oM) λaj h1 ce ay=>?_));obtain rfl:aj=vI (yU (s.1.at i)):=ay;have ba:=xW (s.1.at i);refine gc3 (λD=>?_) λD=>?_
  ·
   refine go1 ?_;refine zK 13 _ [(10,(4,26,[.bool false,.slice none 0 0,.slice none 0 0]))] (zai 1 4 [(0,.c),(5,.c),(6,.c),(7,.q),(8,.q),(9,.q),(10,.a),(11,.c),(12,.q)]) yA (jT.cons I I (uX yR I I) jT.nil) (wV zot) (qA I I kO) (λr hr=>hr) (go2 ?_);refine xD I (λ_ _=>(zP (sz:=3) i underlying53 sizeOf26 I I I oM).cv (show _=vP b1 ((i*3+0)) from zbi (vP b1) oM)) I (wX I (xB yJ (y4i (Pc.ta pH i oM)) G) λbu aw=>?_);refine w_c I (sC (vs:=[vI (1)]) ⟨I,y3i⟩ call39 (λw hs=>qI hs dC dC) λbv h2 cd ax=>?_);refine w_c I (sC (ev1 I) call29 (λw hs=>zFV hs aw.up oM) λbt h3 cc av=>?_);refine w_c I (sC (ev2 I I) call112 (λw hs=>zPA hs ax.up av oM) λbs h4 cb au=>?_);obtain⟨M,rfl,C⟩:=au
   change (rpQ (2+m)).Is h4 M (if(cM (s.1.at i))=0 then 0 else(((1:Int):Int):Rat)/(cM (s.1.at i))) at C
   replace C:=Rp.Is.le C (Le.q (l:=m+2) oM);refine go3 ?_;refine w_a I I (λb4=>?_);have ak:(rpQ 1).R h4 [.bool false,.slice none 0 0,.slice none 0 0] (0:Rat):=(yE dC);refine w_c I ?_;have ae:=(Le.q (l:=m+2) oM).R ak;refine cD (A:=[]) (uB sizeOf26 pH ae C) (wA zox) λbi J=>(go4 ?_);refine zK 9 _ [] [(0,.q),(1,.q),(2,.q),(4,.q),(5,.q),(6,.q),(3,.c),(7,.c),(8,.q),(9,.t)] yA nX zot nX (λr hr=>hr) (wX I (xB yJ pH J) λbr ar=>(go1 ?_));refine wX I (xB zR (y4i pH) G) λbq aq=>(wX I (xB yJ pH J) λbo ap=>(go1 ?_));refine wX I (xB yJ (y4u pH) G) λbn ao=>?_;refine w_c I (sC (ev2 I I) call111 (λw hs=>zFZ hs ar aq oM) λbp h5 ca ab=>?_);replace ab:=Rp.Is.le ab (Le.t (Le.q (l:=4*m+7) oM));refine w_c I (sC (ev2 I I) call9 (λw hs=>qS hs ap.up ao.up oM) λbm h6 bz aa=>?_);replace aa:=Rp.Is.le aa (Le.q (l:=m+n+2) oM);refine wX I (xV (ρ:=(tPl (4*m+7) (m+n+2))) (xE (ps':=[(0,_),(1,_)]) underlying80 sU I I (sM underlying80) e4z I (yF (yS (yE oM)) (yE oM)) (zC I (y4i (y3u _)) ab.up (zC I (y4u (y3u _)) aa zQ)))) λbl an=>?_;have ad:=(Le.p (Le.t (Le.q (l:=4*m+7) oM)) (Le.q (l:=m+n+2) oM)).R ai;refine yG (A:=[_]) I (uB sizeOf80 pH ad an) λbh ah=>(go8 ?_);refine xH (qK (t:=2) iI mh1 I ah) ?_;intro bj ac U;refine yI (λE S=>zS I ac E S) ?_;exact(Rp.Is.cast (Rp.Is.le U (Le.p (Le.t (Le.q (l:=4*m+10) oM)) (Le.q (l:=m+n+10) oM))) (by exact yIF oM hi2 D))
  refine go8 ?_;refine gqL ((i+1),h1) ?_ ?_
  · exact⟨mle,by omega,qN (Q:=λu=>yU (s.1.at u)=0) hi2 (zdi D)⟩
  omega
 have ei:i=3:=by omega
 refine go7 ?_;refine lX (xV (ρ:=(tPl 1 1)) (xE (ps':=[]) underlying80 sU I I (sM underlying80) trivial I (yF (yS (yE dC)) (yE dC)) zQ)) λbk am=>(zU (A:=[]) (uB sizeOf80 pH ai am) λbc Z=>(go3 ?_));refine xH (qK (t:=2) iI mh0 I Z) ?_;intro bf H O;refine yI (λE S=>zS I H E S) ?_;exact(Rp.Is.cast (Rp.Is.le O (Le.p (Le.t (Le.q (l:=4*m+10) oM)) (Le.q (l:=m+n+10) oM))) (by exact yE5 λu hu=>hi2 u oM))
theorem iX{vx:Value}{x:(List Int)}(rx:(rpS rpI).Is h0 vx x)(hcd0:x.length<=100000):
 Calls prog 65 #[vx] w0 (Ret w0 h0 (λh r=>(rpS rpI).Is h r (zAA x x.length))):=by
 refine cb1 20 vx func65 hs ?_;refine go20 ?_;refine xK 3 1 ?_;have O:=RL.nil (ρ:=rpI) (h:=h0);refine gcL (ι:=Nat×List Int×Value×List Value×Mem) (λ(i,D,C,G,ma)=>(MLe h0 ma/\(RL rpI ma G D/\i<=x.length/\D=zAA x i),[(0,vx),(3,C),(4,vI (↑x.length-1-↑i))],[.gs 3 1 C D.length G],ma,x.length-i)) (0,[],(.slice none 0 0),[],h0) ?_ ?_ (he:=⟨I,I,zbi (λz=>some (vI z)) oM,y3i⟩)
 · exact⟨mle,O,by omega,I⟩
 rintro⟨i,D,C,G,ma⟩ ⟨aj,H,au,hD⟩
 refine yW ?_;have av:D.length=i:=by rw[hD];exact xZ _ _
 refine gc7 (λah=>?_) λah=>?_
 ·
  refine go8 ?_;refine lX (xI (0:Int) (x.length-1-i) underlying32 ty3 rx) λap ad=>(lX (xA ty3 ad) λao ac=>?_);obtain⟨rfl,ak,ai⟩:=gJ ac;refine zH (zN (ρ:=rpI) (m:=1) (xs:=[(x.getD (x.length-1-i) (0:Int))]) (ps':=[(0,_)]) underlying32 jV I I I wY e2z (zC I (y3e (y3u _) (0:Int) 0 dC) (wL oM oM) zQ) zoj nP) I I I ?_
  rintro an ar ⟨am,rfl,Z⟩
  refine zX (A:=[]) (ρ:=rpI) Z ?_;intro h1 ae M;refine xU (A:=[]) (yB (ρ:=rpI) (bytes:=8) underlying32 jV I I I I nP I I H.up M bO bO) I I I ?_
  rintro ab aq ⟨aa,rfl,U⟩
  refine go9 ?_;refine gqL ((i+1),(D++[(x.getD (x.length-1-i) (0:Int))]),ab,aa,h1) ?_ ?_ (he:=⟨I,I,zbi (λz=>some (vI z)) oM,y3i⟩)
  · exact⟨mle,U,by omega,by rw[hD];rfl⟩
  omega
 have ei:i=x.length:=by omega
 refine jF ?_;refine wR (A:=[]) (ρ:=rpI) H.up ?_;intro h1 ae J;refine zF I I ?_;exact(Rp.Is.cast J (by rw[hD,ei]))
theorem zTI{k m n j:Nat}{vs:Value}{s:Sq}(rs:(tSd k m n j).Is h0 vs s)(hcd0:k<=1000)(hcd1:okS s)(hcd2:nmA s):
 Calls prog 127 #[vs] w0 (Ret w0 h0 (λh r=>(rpS rpI).Is h r (aI s s.1.length))):=by
 have dx:=hcd1.1.1.1;have dw:=hcd1.1.1.2;have be:=rH s;refine cb1 80 vs func127 hs ?_;refine go2 ?_;refine nB rs λb1 ba aj=>(go6 ?_);refine lX (xB qD (y4i pH) aj) λdq dt=>(go1 ?_);refine zH (zIP (ρ:=rpB) (X:=False) (by':=1) s.1.length underlying189 yCY I I I I zr_b I I zoz zoz bO bO) I I I ?_
 rintro bs du ⟨bn,rfl,bd⟩
 refine go5 ?_;refine lX (xB qP pH aj) λdp ci=>(cL (ev1 I) call159 (λw hs=>zIK hs ci (by first|omega|exact hcd1.mem) (by first|omega|exact hcd1.mem)) λdn h1 eb ch=>(cL (ev1 I) call174 (λw hs=>zFX hs ch (by first|omega|exactλf hf=>(by rw[be] at hf;rw[mR hf];exact hcd1.2.1 f hf)) (by first|omega|exactλf hf=>(by rw[be] at hf;rw[mR hf];exact hcd1.2.1 f hf))) λbr h2 ea cg=>(go6 ?_)));have ec:=yB5 hcd1;have hE:∀q,q<(edZ (uA s)).length->0<=((edZ (uA s)).getD q e50).1/\((edZ (uA s)).getD q e50).1<↑s.1.length:=λq hq=>zT4 hcd2 hq;refine go4 ?_;refine gcL (ι:=Nat×List Prop×Value×List Value×Mem) (λ(i,U,C,O,ma)=>(MLe h2 ma/\(RL rpB ma O U/\(i<=(edZ (uA s)).length/\U.length=s.1.length)/\∀u,u<s.1.length->(U.getD u False↔zI8 (edZ (uA s)) i u)),[(1,vP b1 0),(3,C),(4,br),(5,vI ↑i)],[.gs 4 1 C U.length O,.var b1 50 ba],ma,(edZ (uA s)).length-i)) (0,(List.replicate s.1.length False),bs,bn,h2) ?_ ?_
 · exact⟨mle,bd.up,⟨by omega,yde⟩,λu h=>by rw[zS2 h];exact⟨False.elim,λ⟨q,h,_⟩=>by omega⟩⟩
 rintro⟨i,U,C,O,ma⟩ ⟨cw,ak,⟨dy,bj⟩,bi⟩
 refine yW ?_;refine gc9 (λbh=>?_) λbh=>?_
 ·
  refine go8 ?_;refine lX (xI e50 i underlying190 j4 cg) λdm cf=>(lX (xF underlying193 sizeOf3 (y4i pH) cf) λdl ce=>(lX (xA ty3 ce) λdk cd=>?_));obtain⟨rfl,cz,cq⟩:=gJ cd;refine gv ((yP (((edZ (uA s)).getD i e50).1.toNat) mh0 underlying189 sizeOf4 I I (by(have:=hE i oM;omega)) (by(have:=hE i oM;omega)) nP).cv (show _=zI 1 C ((((edZ (uA s)).getD i e50).1.toNat*1+0)) from zbi (zI 1 C) zoz)) I (fW (A:=[]) (F:=λc_=>RL rpB ma c_ (U.set (((edZ (uA s)).getD i e50).1.toNat) True)) (sD sizeOf4 (y3e (y3u _) False (((edZ (uA s)).getD i e50).1.toNat) (by(have:=hE i oM;omega))) I nP I I ak (yJA) I) ?_);intro bk bc;refine go8 ?_;refine gqL ((i+1),(U.set (((edZ (uA s)).getD i e50).1.toNat) True),C,bk,ma) ?_ ?_
  · exact⟨mle,bc,⟨by omega,by rw[lS];exact bj⟩,zUM bj bi (hE i oM).1 (hE i oM).2⟩
  omega
 have av:∀u,u<s.1.length->(U.getD u False↔zI8 (edZ (uA s)) (edZ (uA s)).length u):=λu hu=>by rw[show(edZ (uA s)).length=i by omega];exact bi u hu
 refine iD ?_;refine xK 3 1 ?_;have bb:=RL.nil (ρ:=rpI) (h:=ma);refine gcL (ι:=Nat×List Int×Value×List Value×Mem) (λ(i,D,H,M,mb)=>(MLe ma mb/\(RL rpI mb M D/\i<=s.1.length/\D=aI s i),[(1,vP b1 0),(3,C),(6,H),(7,vI ↑i)],[.gs 3 1 H D.length M,.gs 4 1 C U.length O,.var b1 50 ba],mb,s.1.length-i)) (0,[],(.slice none 0 0),[],ma) ?_ ?_
 · exact⟨mle,bb,by omega,I⟩
 rintro⟨i,D,H,M,mb⟩ ⟨cu,J,hi2,hD⟩
 refine yW ?_;have ed:D.length<=i:=by rw[hD];exact zO6 s i
 refine go5 ?_;refine lX (xB qD (y4i pH) aj) λdj dr=>(gc4 (λbg=>?_) λbg=>?_)
 ·
  refine go9 ?_;refine gv ((yP i mh1 underlying189 sizeOf4 I I I bO nP).cv (show _=zI 1 C ((i*1+0)) from zbi (zI 1 C) zoz)) I (zGQ (F:=λv_=>rpB.Is mb v_ (U.getD i False)) (xP ty4 (y3e (y3u _) False i bO) I nP I ak.up I) (kH mh1) I ?_);intro di cc;obtain rfl:=of_b cc;refine gc3 (λae=>?_) λae=>?_
  ·
   refine go9 ?_;refine gqL ((i+1),D,H,M,mb) ?_ ?_
   · exact⟨mle,J,by omega,by rw[hD];exact(zae (λe=>ae ((av i oM).2 e))).symm⟩
   omega
  refine go5 ?_;refine gv (jU mh0 underlying32 I) I (go5 ?_);refine gcL (ι:=Nat×Mem) (λ(G,mk)=>(MLe mb mk/\(G<=D.length/\aP (zTB s D i) D.length=aP (zTB s D i) G),[(1,vP b1 0),(3,C),(6,H),(7,vI ↑i),(8,vI ↑G)],[.gs 3 1 H D.length M,.gs 4 1 C U.length O,.var b1 50 ba],mk,G)) (D.length,mb) ?_ ?_ (he:=e5)
  · exact⟨mle,by omega,I⟩
  rintro⟨G,mk⟩ ⟨ct,dv,ax⟩
  refine yW ?_;refine go2 ?_;refine zK 19 _ [] (zai 0 17 [(17,.c),(18,.q)]) yA nX (wV zot) nX (λr hr=>hr) (go3 ?_);refine tJ ((0:Int)<(↑G:Int)) (λac=>?_) (λac=>?_)
  ·
   rw[wB ac];refine go1 ?_;refine oX I (xB qD (y4i pH) aj) λdh cb=>(xG I I I (λh' L' hh hR=>xL I) I (oX I (xI zT i underlying46 zR cb) λdf ca=>(oX I (xA zR ca) λde bz=>(go1 ?_))));refine oX I (xB qD (y4i pH) aj) λdd bx=>(xG I I I (λh' L' hh hR=>xL I) I (xG I I I (λh' L' hh hR=>xL I) I (go1 ?_)));refine xG I I I (λh' L' hh hR=>(yP (G-1) (hR _ mh0) underlying32 sizeOf3 I I oM oM nP).cv (show _=zI 1 H (((G-1)*1+0)) from zbi (zI 1 H) zoz)) I (lV (F:=λv_=>rpI.Is mk v_ (D.getD (G-1) (0:Int))) I I I (xP ty3 (y3e (y3u _) (0:Int) (G-1) oM) I nP I J.up I) (kH mh0) I ?_);intro dc bw;obtain⟨rfl,cy,cp⟩:=gJ bw;refine lV (F:=λv_=>AtP (tPt k) mk v_ (s.1.getD ((D.getD (G-1) 0).toNat) zT)) I I I (sO zT ((D.getD (G-1) 0).toNat) underlying46 zR I I bx (by(have:=oN (s:=s) (i:=i) (k:=G-1) (by rw[<-hD];omega);rw[<-hD] at this;omega)) (by(have:=oN (s:=s) (i:=i) (k:=G-1) (by rw[<-hD];omega);rw[<-hD] at this;omega)) nP) zAL I ?_;intro db bv;refine oX I (xA zR bv) λda bu=>?_;refine w_c I (rC I I (sC (ev2 I I) call175 (λw hs=>zWQ hs bz bu oM oM) λbq h3 bf bt=>?_));obtain rfl:bq=vB (lsP (s.1.getD i zT) (s.1.getD ((D.getD (G-1) 0).toNat) zT)):=bt;refine gc3 (λad=>?_) λad=>?_
   ·
    refine go9 ?_;refine gqL ((G-1),h3) ?_ ?_ (he:=⟨I,I,I,I,zbi (λz=>some (vI z)) oM,y3i⟩)
    · exact⟨mle,by omega,by rw[ax];exact zQE oM ad⟩
    omega
   refine go8 ?_;refine zH (zN (ρ:=rpI) (m:=1) (xs:=[(0:Int)]) (ps':=[(0,_)]) underlying32 jV I I I wY e2z (zC I (y3e (y3u _) (0:Int) 0 dC) (wL dC dC) zQ) zoj nP) I I I ?_
   rintro bp cl ⟨bm,rfl,ai⟩
   refine zX (A:=[]) (ρ:=rpI) ai ?_;intro h4 dz ao;refine xU (A:=[]) (yB (ρ:=rpI) (bytes:=8) underlying32 jV I I I I nP I I J.up ao bO bO) I I I ?_
   rintro Z ck ⟨bl,rfl,ah⟩
   refine go4 ?_;refine lI (A:=[]) (by rw[lAz];exact ywu _) (λob co aa ab=>?_);refine jS (A:=[]) 8 [] (zai 0 7 [(7,.c)]) yA nX zot nX (go3 ?_);refine xD I (λ_ _=>jG (G+1) underlying32 sizeOf3 I I ⟨_,_,aa,ab⟩ oM zo0) I (go2 ?_);refine xD I (λ_ _=>jG G underlying32 sizeOf3 I I ⟨_,_,aa,ab⟩ oM zo0) I ?_;refine w_c I (gV (A:=[]) (λX=>mC (ρ:=rpI) G aa ab underlying32 sizeOf3 I I zo0 ah) I (wA zox) ?_)
   rintro bo cj ⟨cn,rfl,au⟩
   refine go6 ?_;refine gv ((yP G mh0 underlying32 sizeOf3 I I oM (by rw[fS zo0];simp only[lAz,lC,lN];omega) nP).cv (show _=zI 1 Z ((G*1+0)) from zbi (zI 1 Z) zoz)) I (fW (A:=[]) (F:=λc_=>RL rpI h4 c_ ((sL (D++[(0:Int)]) G).set G (↑i:Int))) (sD sizeOf3 (y3e (y3u _) (0:Int) G (by rw[fS zo0];simp only[lAz,lC,lN];omega)) I nP I I au (wL oM oM) I) ?_);intro az ar;refine go8 ?_;refine gqL ((i+1),((sL (D++[(0:Int)]) G).set G (↑i:Int)),Z,az,h4) ?_ ?_
   · exact⟨mle,ar,by omega,by rw[nZ oM];have aw:aP (zTB s D i) D.length=G:=by{rw[ax];exact zG2 (λe=>by first|omega|exact ad e.2)};rw[<-aw,hD];exact(zau ((av i oM).1 (zdi ae))).symm⟩
   omega
  rw[yZ ac];refine rT ?_;refine w_c I (zBI I I I I (jF ?_));refine zH (zN (ρ:=rpI) (m:=1) (xs:=[(0:Int)]) (ps':=[(0,_)]) underlying32 jV I I I wY e2z (zC I (y3e (y3u _) (0:Int) 0 dC) (wL dC dC) zQ) zoj nP) I I I ?_
  rintro bp cl ⟨bm,rfl,ai⟩
  refine zX (A:=[]) (ρ:=rpI) ai ?_;intro h3 bf an;refine xU (A:=[]) (yB (ρ:=rpI) (bytes:=8) underlying32 jV I I I I nP I I J.up an bO bO) I I I ?_
  rintro Z ck ⟨bl,rfl,ah⟩
  refine go4 ?_;refine lI (A:=[]) (by rw[lAz];exact ywu _) (λob co aa ab=>?_);refine jS (A:=[]) 8 [] (zai 0 7 [(7,.c)]) yA nX zot nX (go3 ?_);refine xD I (λ_ _=>jG (G+1) underlying32 sizeOf3 I I ⟨_,_,aa,ab⟩ oM zo0) I (go2 ?_);refine xD I (λ_ _=>jG G underlying32 sizeOf3 I I ⟨_,_,aa,ab⟩ oM zo0) I ?_;refine w_c I (gV (A:=[]) (λX=>mC (ρ:=rpI) G aa ab underlying32 sizeOf3 I I zo0 ah) I (wA zox) ?_)
  rintro bo cj ⟨cm,rfl,aq⟩
  refine go6 ?_;refine gv ((yP G mh0 underlying32 sizeOf3 I I oM (by rw[fS zo0];simp only[lAz,lC,lN];omega) nP).cv (show _=zI 1 Z ((G*1+0)) from zbi (zI 1 Z) zoz)) I (fW (A:=[]) (F:=λc_=>RL rpI h3 c_ ((sL (D++[(0:Int)]) G).set G (↑i:Int))) (sD sizeOf3 (y3e (y3u _) (0:Int) G (by rw[fS zo0];simp only[lAz,lC,lN];omega)) I nP I I aq (wL oM oM) I) ?_);intro ay ap;refine go8 ?_;refine gqL ((i+1),((sL (D++[(0:Int)]) G).set G (↑i:Int)),Z,ay,h3) ?_ ?_
  · exact⟨mle,ap,by omega,by rw[nZ oM];have aw:aP (zTB s D i) D.length=G:=by{rw[ax];exact zG2 (λe=>by first|omega|exact ad e.2)};rw[<-aw,hD];exact(zau ((av i oM).1 (zdi ae))).symm⟩
  omega
 have ei:i=s.1.length:=by omega
 refine jF ?_;refine wR (A:=[]) (ρ:=rpI) J.up ?_;intro h3 bf am;refine zF I I ?_;exact(Rp.Is.cast am (by rw[hD,ei]))
end
end Go.Proofs.YtboaboflnckgoaaGreat
