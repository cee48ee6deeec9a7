/- Texts that the proof needs, part 8. -/
import Derived.Test.YtlpflnindligbaaGreatKA7
set_option linter.unusedVariables false
set_option linter.unusedSimpArgs false
noncomputable section
set_option maxRecDepth 10000
set_option maxHeartbeats 1000000
open List renaming length→A1,getD→A0,toArray→Am
open Int renaming natAbs→AH
open Go renaming World→AP,Value→A2,Act→Av,Operand→Ag,Program→D,Oper→AY,Exit→BH,TypeId→Ab
namespace Go.Proofs.YtlpflnindligbaaGreat
open Bk Go Tryz
attribute [local irreducible] GL GC GQ W OpV
set_option maxHeartbeats 1000000 in
theorem Uz{w0:AP}{h0:A4}(hs:MLe h0 (BE w0)){k l:Nat}{va:A2}{a:Tq}(ra:(AD k).Is h0 va a){vb:A2}{b:Tq}(rb:(AD l).Is h0 vb b)(H0:k<=5)(H1:l<=5)(H2:dD a b->Ki a b):
 Calls prog 44 #[va,vb] w0 (gV w0 h0 (λh r L_=>∃u0 vF cs,r=.tuple #[u0,vI (L2 a b)]/\(A6 (Aq (2*k+2*l+40)) (A6 Az (AS (A6 A9 (A6 A9 (AE 6)))))).Is h u0 (IC a b,(vF,[]))/\L_=[.gs 53 14 vF (A1 (G5 a b)) cs]/\vF.oneCell'=true/\RL (BP (10000*k+10000*l+20000) (10000*k+10000*l+20000)) h cs (G5 a b))):=by
 refine B0 102 va vb func44 hs ?_;refine A5 ?_;refine nB ra λb2 ck an=>(nB rb λb3 cj am=>(nA (ρ:=(A6 (Aq 1) (A6 Az (AS (A6 A9 (A6 A9 (AE 1))))))) (X:=([],((A2.slice none 0 0),[]))) qS (zW wC (zW fG wC)) λb4 ci cd=>(vV ?_)));refine An (ι:=Nat×A4) (λ(i,ma)=>(MLe h0 ma/\(i<=3/\∀u,u<i->¬0<=wA (a.at u) (b.at u)),[(2,vP b2 0),(3,vP b3 0),(4,vP b4 0),(6,vI ↑i)],[.var b4 32 ci,.var b3 43 cj,.var b2 43 ck],ma,3-i)) (0,h0) ?_ ?_
 · exact⟨AM,A3,λu h=>by omega⟩
 rintro⟨i,ma⟩ ⟨dy,fj,BA⟩
 refine yO ?_;refine DV (λch=>?_) λch=>?_
 ·
  refine AR ?_;refine zG 8 _ [] (Ah 0 6 [(6,.c),(7,.q)]) zX nX Ac nX (λr hr=>hr) (A7 ?_);refine wK I (λ_ _=>(zM (sz:=3) i underlying43 sizeOf41 I I I O).cv (show _=vP b2 ((i*3+0)) from AJ (vP b2) O)) I (wX I (xB zU (Pc.ta pH i O) an) λfe dp=>(A7 ?_));refine wK I (λ_ _=>(zM (sz:=3) i underlying43 sizeOf41 I I I O).cv (show _=vP b3 ((i*3+0)) from AJ (vP b3) O)) I (wX I (xB zU (Pc.ta pH i O) am) λfd dn=>?_);refine AB I (sC (AK I I) call97 (λw hs=>tL hs dp dn O) λcm h1 dr dm=>?_);obtain rfl:cm=vI (wA (a.at i) (b.at i)):=dm;have dt:=uJ (a.at i) (b.at i);refine B4 (λar=>?_) λar=>?_
  ·
   refine A5 ?_;refine lX (xV (ρ:=(A6 (Aq 1) (A6 Az (AS (A6 A9 (A6 A9 (AE 1))))))) (xL (ps':=[]) underlying32 qS I I (pJ underlying32) trivial I (zW wC (zW fG wC)) zO)) λfc dl=>(zP (A:=[]) (uB sizeOf32 pH cd dl) λdz cc=>(Ak ?_));obtain⟨e1,e2,e3⟩:=gt (a:=a) (b:=b) (λe=>e i O ar);rw[e1,e2,e3];refine lM 53 14 ?_;have bz:=RL.nil (ρ:=A6 (Aj (10000*k+10000*l+20000) (10000*k+10000*l+20000)) (A6 Cv wQ)) (h:=h1);refine xW (qV (t:=4) jG Ax I cc) ?_;intro ed bk bx;refine kE (.cons_cons _ (E3 _)) (λE S=>qG I bk (gA I) E S) ?_;exact⟨_,_,_,I,(Rp.Is.le bx (Le.p (Le.s (AI (2*k+2*l+40))) (Le.p (Le.refl _) (Le.s (Le.p (Le.refl _) (Le.p (Le.refl _) (AL 6))))))),I,I,bz⟩
  refine AX ?_;refine Ad ((i+1),h1) ?_ ?_
  · exact⟨AM,A3,wZ (Q:=λu=>¬0<=wA (a.at u) (b.at u)) BA ar⟩
  omega
 have ce:dD a b:=λu hu=>BA u O;have ao:=H2 ce;have fo:=rq ao.2.1;refine AX ?_;refine lX (xB zU (BL pH) an) λfb dk=>(A7 ?_);refine lX (xB zU (BC pH) an) λfa dj=>(lX (xV (ρ:=(AD (k+1))) (xD (ps':=[(0,_),(1,_)]) underlying43 yA I I sizeOf41 BR I (yN (zR O)) (zD I (BL (AA _)) (dk.le (AL (k+1))) (zD I (BC (AA _)) (dj.le (AL (k+1))) zO)))) λez di=>(A7 ?_));refine lX (xB zU (BL pH) am) λey dh=>(A7 ?_);refine lX (xB zU (BC pH) an) λew df=>(lX (xV (ρ:=(AD (k+l+1))) (xD (ps':=[(0,_),(1,_)]) underlying43 yA I I sizeOf41 BR I (yN (zR O)) (zD I (BL (AA _)) (dh.le (AL (k+l+1))) (zD I (BC (AA _)) (df.le (AL (k+l+1))) zO)))) λev de=>(A7 ?_));refine lX (xB zU (BL pH) am) λeu dd=>(A7 ?_);refine lX (xB zU (BC pH) am) λes dc=>(lX (xV (ρ:=(AD (l+1))) (xD (ps':=[(0,_),(1,_)]) underlying43 yA I I sizeOf41 BR I (yN (zR O)) (zD I (BL (AA _)) (dd.le (AL (l+1))) (zD I (BC (AA _)) (dc.le (AL (l+1))) zO)))) λer db=>(A7 ?_));refine lX (xB zU (BL pH) an) λeq da=>(A7 ?_)
 let eX2:=[(zZ a),(T3.mk b.x a.y (0:Rat)),(zZ b),(T3.mk a.x b.y (0:Rat))]
 refine lX (xB zU (BC pH) am) λep cz=>(lX (xV (ρ:=(AD (k+l+1))) (xD (ps':=[(0,_),(1,_)]) underlying43 yA I I sizeOf41 BR I (yN (zR O)) (zD I (BL (AA _)) (da.le (AL (k+l+1))) (zD I (BC (AA _)) (cz.le (AL (k+l+1))) zO)))) λeo cy=>(zE (zL (ρ:=(AD (k+l+1))) (m:=4) (xs:=eX2) (ps':=[(0,_),(1,_),(2,_),(3,_)]) underlying28 yA I I I (yN (zR O)) e8 (zD I (AO (AA _) zT 0 dC) (di.le (AI (k+l+1))) (zD I (AO (AA _) zT 1 dC) de (zD I (AO (AA _) zT 2 dC) (db.le (AI (k+l+1))) (zD I (AO (AA _) zT 3 dC) cy zO)))) Zw nP) I I I ?_))
 rintro en fh ⟨eb,rfl,cb⟩
 refine zQ (A:=[]) (ρ:=(AD (k+l+1))) cb ?_;intro h1 dr bw;refine zE (zL (ρ:=(Aq (k+l+1))) (m:=1) (xs:=[eX2]) (ps':=[(0,_)]) underlying61 fW I I I wC Al (zD I (AO (AA _) [] 0 dC) bw zO) CO nP) I I I ?_
 rintro em fg ⟨ea,rfl,ca⟩
 refine A7 ?_;refine lX (xB zU (Bi pH) an) λel cw=>(A7 ?_);refine lX (xB zU (Bi pH) am) λek cu=>(zQ (A:=[]) (ρ:=(Aq (k+l+1))) ca ?_);intro h2 fm bv;refine uS (vs:=[_,_,_]) I I I I call102 EQ (λw hs=>Wb hs bv cw.up cu.up O O O (by first|omega|exact ao.1|exact ao.2.1) (by first|omega|exact ao.1|exact ao.2.1)) ?_;intro ej h3 fr fl ap;obtain⟨ff,bu,av,rfl,ap,rfl,cf,ae⟩:=ap
 change RL (BP (1000*(k+l+1)+1000*k+1000*l+2000) (1000*(k+l+1)+1000*k+1000*l+2000)) h3 av (Cg [eX2] a.z b.z) at ae
 replace ap:=Rp.Is.le ap (Le.p (Le.s (AI (2*k+2*l+21))) (Le.refl _));replace ae:=(Le.p (Le.p (AI (2000*k+2000*l+3000)) (AL (2000*k+2000*l+3000))) (Le.refl _)).rl ae;refine AN ?_;refine nA (ρ:=(A6 (Aq 1) (A6 Az (AS (A6 A9 (A6 A9 (AE 1))))))) (X:=([],((A2.slice none 0 0),[]))) qS (zW wC (zW fG wC)) λb7 fq cn=>?_;have ax:=(Le.p (Le.s (AI (2*k+2*l+21))) (Le.p (Le.refl _) (Le.s (Le.p (Le.refl _) (Le.p (Le.refl _) (AL 5)))))).R cn;refine zP (A:=[]) (uB sizeOf32 pH ax ap) λbt bj=>(vV ?_)
 let eX0:=(2000*k+2000*l+3000)
 refine An (ι:=Nat×List Fc×List A2×A2×List A2×A4) (λ(i,F1,J,D,ah,mb)=>(MLe h3 mb/\((A6 (Aq (2*k+2*l+30)) (A6 Az (AS (A6 A9 (A6 A9 (AE 5)))))).R mb J (Df (Bz a b) a.z b.z,(D,([]:List En)))/\RL (BP eX0 eX0) mb ah F1/\D.oneCell'=true/\i<=A1 (Cg (Bz a b) a.z b.z)/\F1=dF ID zA (Cg (Bz a b) a.z b.z) i),[(4,vP b4 0),(7,vP b7 0),(8,vI (Ct [eX2] a.z b.z)),(9,vI ↑i)],[.var b7 32 J,.gs 53 14 D (A1 F1) ah,.var b4 32 ci,.var b3 43 cj,.var b2 43 ck],mb,A1 (Cg (Bz a b) a.z b.z)-i)) (0,(Cg (Bz a b) a.z b.z),bt,bu,av,h3) ?_ ?_
 · exact⟨AM,((Le.p (Le.s (AI (2*k+2*l+30))) (Le.refl _)).R bj),ae,cf,A3,I⟩
 rintro⟨i,F1,J,D,ah,mb⟩ ⟨dx,H,C,M,fi,aa⟩
 refine yO ?_;have fp:A1 F1=A1 (Cg (Bz a b) a.z b.z):=by rw[aa];exact w5 _ _ _ _
 refine AR ?_;refine lX (sR (xB kO (AQ (AT pH)) H)) λeh ct=>?_;subst ct;refine gv (qR Ax underlying29 I) I (B4 (λcg=>?_) λcg=>?_)
 ·
  refine Af ?_;refine lX (sR (xB kO (AQ (AT pH)) H)) λeg cq=>?_;subst cq;refine A7 ?_
  let eX3:=(zH 1 D)
  refine gv ((yG i Ax underlying29 sizeOf53 I I I bO nP).cv (show _=zH 1 D ((i*14+0)) from AJ eX3 B5)) I (AZ ?_)
  let eX1:=(A0 F1 i zA)
  refine gv (pX (AO (AA _) zA i bO) I nP C Ax I) I (gv ((jE (AO (AA _) zA i bO) I nP C Ax underlying53 I sizeOf9 I).cv (show _=zH 1 D ((i*14+13)) from AJ eX3 (by show(i*14+0)+13=(i*14+13);omega))) I (nT (F:=λv_=>wQ.Is mb v_ ((eX1.2).2)) (xO Hd (AO (AQ (AQ (AA _))) zA i bO) I nP I C I) (gH Ax) I ?_));intro ef cp;obtain⟨rfl,ac⟩:=tJ cp;refine AR ?_;refine gv (oD (pa:=((eX1.2).2)) (pb:=([98,111,116,116,111,109]:List Nat)) ac (show BK [98,111,116,116,111,109] by unfold BK;decide) I I) I (B4 (λU=>?_) λU=>?_)
  ·
   refine A5 ?_;refine gv (pX (AO (AA _) zA i bO) I nP C Ax I) I (gv ((jE (AO (AA _) zA i bO) I nP C Ax underlying53 I sizeOf9 I).cv (show _=zH 1 D ((i*14+13)) from AJ eX3 (by show(i*14+0)+13=(i*14+13);omega))) I (kQ (A:=[_]) (F:=λc_=>RL (BP eX0 eX0) mb c_ (F1.set i (eX1.1,((eX1.2).1,([122,48]:List Nat))))) (tD sizeOf9 (AO (AQ (AQ (AA _))) zA i bO) I nP I I C (fV (show BK [122,48] by unfold BK;decide)) I) ?_));intro bs bf;refine Ak ?_;refine Ad ((i+1),(F1.set i (eX1.1,((eX1.2).1,([122,48]:List Nat)))),J,D,bs,mb) ?_ ?_
   · exact⟨AM,H,bf,M,A3,IG aa (by unfold FX;rw[AC U])⟩
   omega
  refine A5 ?_;refine gv (oD (pa:=((eX1.2).2)) (pb:=([116,111,112]:List Nat)) ac (show BK [116,111,112] by unfold BK;decide) I I) I (B4 (λZ=>?_) λZ=>?_)
  ·
   refine A5 ?_;refine gv (pX (AO (AA _) zA i bO) I nP C Ax I) I (gv ((jE (AO (AA _) zA i bO) I nP C Ax underlying53 I sizeOf9 I).cv (show _=zH 1 D ((i*14+13)) from AJ eX3 (by show(i*14+0)+13=(i*14+13);omega))) I (kQ (A:=[_]) (F:=λc_=>RL (BP eX0 eX0) mb c_ (F1.set i (eX1.1,((eX1.2).1,([122,49]:List Nat))))) (tD sizeOf9 (AO (AQ (AQ (AA _))) zA i bO) I nP I I C (fV (show BK [122,49] by unfold BK;decide)) I) ?_));intro br be;refine Ak ?_;refine Ad ((i+1),(F1.set i (eX1.1,((eX1.2).1,([122,49]:List Nat)))),J,D,br,mb) ?_ ?_
   · exact⟨AM,H,be,M,A3,IG aa (by unfold FX;rw[A8 U,AC Z])⟩
   omega
  refine A5 ?_;refine gv (oD (pa:=((eX1.2).2)) (pb:=([115,48,46,48]:List Nat)) ac (show BK [115,48,46,48] by unfold BK;decide) I I) I (B4 (λab=>?_) λab=>?_)
  ·
   refine A5 ?_;refine gv (pX (AO (AA _) zA i bO) I nP C Ax I) I (gv ((jE (AO (AA _) zA i bO) I nP C Ax underlying53 I sizeOf9 I).cv (show _=zH 1 D ((i*14+13)) from AJ eX3 (by show(i*14+0)+13=(i*14+13);omega))) I (kQ (A:=[_]) (F:=λc_=>RL (BP eX0 eX0) mb c_ (F1.set i (eX1.1,((eX1.2).1,([121,48]:List Nat))))) (tD sizeOf9 (AO (AQ (AQ (AA _))) zA i bO) I nP I I C (fV (show BK [121,48] by unfold BK;decide)) I) ?_));intro bq bd;refine Ak ?_;refine Ad ((i+1),(F1.set i (eX1.1,((eX1.2).1,([121,48]:List Nat)))),J,D,bq,mb) ?_ ?_
   · exact⟨AM,H,bd,M,A3,IG aa (by unfold FX;rw[A8 U,A8 Z,AC ab])⟩
   omega
  refine A5 ?_;refine gv (oD (pa:=((eX1.2).2)) (pb:=([115,48,46,49]:List Nat)) ac (show BK [115,48,46,49] by unfold BK;decide) I I) I (B4 (λaj=>?_) λaj=>?_)
  ·
   refine A5 ?_;refine gv (pX (AO (AA _) zA i bO) I nP C Ax I) I (gv ((jE (AO (AA _) zA i bO) I nP C Ax underlying53 I sizeOf9 I).cv (show _=zH 1 D ((i*14+13)) from AJ eX3 (by show(i*14+0)+13=(i*14+13);omega))) I (kQ (A:=[_]) (F:=λc_=>RL (BP eX0 eX0) mb c_ (F1.set i (eX1.1,((eX1.2).1,([120,49]:List Nat))))) (tD sizeOf9 (AO (AQ (AQ (AA _))) zA i bO) I nP I I C (fV (show BK [120,49] by unfold BK;decide)) I) ?_));intro bp bc;refine Ak ?_;refine Ad ((i+1),(F1.set i (eX1.1,((eX1.2).1,([120,49]:List Nat)))),J,D,bp,mb) ?_ ?_
   · exact⟨AM,H,bc,M,A3,IG aa (by unfold FX;rw[A8 U,A8 Z,A8 ab,AC aj])⟩
   omega
  refine A5 ?_;refine gv (oD (pa:=((eX1.2).2)) (pb:=([115,48,46,50]:List Nat)) ac (show BK [115,48,46,50] by unfold BK;decide) I I) I (B4 (λak=>?_) λak=>?_)
  ·
   refine A5 ?_;refine gv (pX (AO (AA _) zA i bO) I nP C Ax I) I (gv ((jE (AO (AA _) zA i bO) I nP C Ax underlying53 I sizeOf9 I).cv (show _=zH 1 D ((i*14+13)) from AJ eX3 (by show(i*14+0)+13=(i*14+13);omega))) I (kQ (A:=[_]) (F:=λc_=>RL (BP eX0 eX0) mb c_ (F1.set i (eX1.1,((eX1.2).1,([121,49]:List Nat))))) (tD sizeOf9 (AO (AQ (AQ (AA _))) zA i bO) I nP I I C (fV (show BK [121,49] by unfold BK;decide)) I) ?_));intro bo bb;refine Ak ?_;refine Ad ((i+1),(F1.set i (eX1.1,((eX1.2).1,([121,49]:List Nat)))),J,D,bo,mb) ?_ ?_
   · exact⟨AM,H,bb,M,A3,IG aa (by unfold FX;rw[A8 U,A8 Z,A8 ab,A8 aj,AC ak])⟩
   omega
  refine A5 ?_;refine gv (oD (pa:=((eX1.2).2)) (pb:=([115,48,46,51]:List Nat)) ac (show BK [115,48,46,51] by unfold BK;decide) I I) I (B4 (λaq=>?_) λaq=>?_)
  ·
   refine A5 ?_;refine gv (pX (AO (AA _) zA i bO) I nP C Ax I) I (gv ((jE (AO (AA _) zA i bO) I nP C Ax underlying53 I sizeOf9 I).cv (show _=zH 1 D ((i*14+13)) from AJ eX3 (by show(i*14+0)+13=(i*14+13);omega))) I (kQ (A:=[_]) (F:=λc_=>RL (BP eX0 eX0) mb c_ (F1.set i (eX1.1,((eX1.2).1,([120,48]:List Nat))))) (tD sizeOf9 (AO (AQ (AQ (AA _))) zA i bO) I nP I I C (fV (show BK [120,48] by unfold BK;decide)) I) ?_));intro bn ba;refine Ak ?_;refine Ad ((i+1),(F1.set i (eX1.1,((eX1.2).1,([120,48]:List Nat)))),J,D,bn,mb) ?_ ?_
   · exact⟨AM,H,ba,M,A3,IG aa (by unfold FX;rw[A8 U,A8 Z,A8 ab,A8 aj,A8 ak,AC aq])⟩
   omega
  refine Ak ?_;refine Ad ((i+1),F1,J,D,ah,mb) ?_ ?_
  · exact⟨AM,H,C,M,A3,q8 aa (by unfold FX;rw[A8 U,A8 Z,A8 ab,A8 aj,A8 ak,A8 aq]) O⟩
  omega
 have ei:i=A1 (Cg (Bz a b) a.z b.z):=by omega
 rw[ei] at aa;refine Af ?_;refine zQ (A:=[_]) (ρ:=(BP eX0 eX0)) C ?_;intro h4 dq ay;replace H:=H.mono dq;have bi:(BT (2*k+2*l+30) eX0 eX0 5).R h4 J ((Df (Bz a b) a.z b.z,(D,([]:List En))).1,(F1,((Df (Bz a b) a.z b.z,(D,([]:List En))).2).2)):=Fr H ay;have bh:(BT (2*k+2*l+30) eX0 eX0 5).R h4 J (Gd a b):=Rp.castR bi (by rw[aa];rfl);refine lX (xB jG pH bh) λee co=>?_;refine uS (vs:=[_]) I I I I call103 ⟨I,AW⟩ (λw hs=>Pk hs co O O O (by first|omega|exact ao.2.2)) ?_;intro dw h5 ec fk ai;obtain⟨cl,bm,ai,rfl,bl,ad⟩:=ai
 change RL (BP (4*eX0+12) (eX0+eX0+12)) h5 bm (Cb (Gd a b)) at ad
 replace ai:=Rp.Is.le ai (Le.p (Le.s (AI (2*k+2*l+31))) (Le.p (Le.refl _) (Le.s (Le.p (Le.refl _) (Le.p (Le.refl _) (AL 6))))));replace ad:=(Le.p (Le.p (AI (8000*k+8000*l+12012)) (AL (4000*k+4000*l+6012))) (Le.refl _)).rl ad;refine A7 ?_;have aw:=(Le.p (Le.s (AI (2*k+2*l+31))) (Le.p (Le.refl _) (Le.s (Le.p (Le.refl _) (Le.p (Le.refl _) (AL 6)))))).R cd;refine zP (A:=[_,_]) (uB sizeOf32 pH aw ai) λdu bg=>(AF ?_);obtain⟨e1,e2,e3⟩:=Mu ce;rw[e1,e2,e3];refine xW (qV (t:=4) jG C6 I bg) ?_;intro dv au az;refine kE (.cons_cons _ (E3 _)) (λE S=>qG I au (gA I) E S) ?_;exact⟨_,_,_,I,(Rp.Is.cast (Rp.Is.le az (Le.p (Le.s (AI (2*k+2*l+40))) (Le.refl _))) (by rw[show E7 (Gd a b)=[] from by unfold E7;split<;>rfl])),I,bl,((Le.p (Le.p (AI (10000*k+10000*l+20000)) (AL (10000*k+10000*l+20000))) (Le.refl _)).rl ad)⟩
end Go.Proofs.YtlpflnindligbaaGreat
namespace Bk
abbrev Dc:Sd:=Cw (pI 0 0 0) (pI 1 1 1)
theorem OK:∀u,u<3->Z.at u<U.at u:=λu hu=>by
 rcases Ox hu with rfl|rfl|rfl<;>(show(0:Rat)<1;decide +kernel)
theorem a0:dD Z U:=λu hu=>by rw[RH];exact Rat.not_le.2 (OK u hu)
theorem u2:Dc=CJ Z U:=YX a0
theorem q4{q:Rat}(h1:q.den=1)(h2:AH q.num<=1000):lq q<=2:=by
 have e:q=((q.num:Int):Rat):=Rat.ext I h1;rw[e];exact mP _ A3 A3
def K9(q:Rat):Bool:=decide (q.den=1)&&decide (AH q.num<=1000)
theorem MU{q:Rat}(h:K9 q=true):lq q<=2:=by
 unfold K9 at h;rw[Ap,CE,CE] at h;exact q4 h.1 h.2
def LC(p:Pt):Bool:=K9 p.x&&(K9 p.y&&K9 p.z)
theorem Qu{p:Pt}(h:LC p=true):Ft 2 p:=by
 unfold LC at h;rw[Ap,Ap] at h;exact⟨MU h.1,MU h.2.1,MU h.2.2⟩
theorem rj:(CJ Z U).1.all LC=true:=by decide +kernel
theorem kp:((CJ Z U).2.1.all λf=>LC f.1.1&&K9 f.1.2)=true:=by decide +kernel
theorem Td:K4 2 2 2 0 (CJ Z U):=⟨λp hp=>Qu (Bb.1 rj p hp),λf hf=>by
 have h:=Bb.1 kp f hf;rw[Ap] at h;exact⟨Qu h.1,MU h.2⟩,λe he=>absurd he Bv⟩
def Xk(w:List Pt->Bool)(l:List Pt)(ps:List Pl):Bool:=(List.range (A1 ps+1)).all λm=>(IF w [l] (ps.take m)).all λx=>x.all LC&&decide (A1 x<=32)
theorem sj{W:List Pt->Prop}{w:List Pt->Bool}(hw:∀x,W x↔w x=true){l:List Pt}{ps:List Pl}(h:Xk w l ps=true):J0 W l ps:=λm hm x hx=>by
 rw[TB w hw l ps m hm] at hx;have h1:=Bb.1 (Bb.1 h m (C3.2 A3)) x hx;rw[Ap,CE] at h1;exact⟨λp hp=>no (Qu (Bb.1 h1.1 p hp)) Aa,h1.2⟩
def X2(f:Nat):Bool:=(!decide (A1 (pG (Fe f) (A1 (Fe f)))=0)&&(!OE (A0 (CJ Z U).2.1 f zA).1.1&&decide (6+A1 (pG (Fe f) (A1 (Fe f)))<=20)))&&Xk (KR (lT (A0 (CJ Z U).2.1 f zA).1 (Fe f))) (J9 (A0 (CJ Z U).2.1 f zA).1 (pG (Fe f) (A1 (Fe f)))) (F6 (A0 (CJ Z U).2.1 f zA).1 (Fe f) DI)
theorem bu:(List.range 6).all X2=true:=by decide +kernel
theorem Qt{f:Nat}(hf:f<6):nS (A0 (CJ Z U).2.1 f zA).1 (jP (CJ Z U) f) DI/\6+A1 (pG (jP (CJ Z U) f) (A1 (jP (CJ Z U) f)))<=20:=by
 have h:=Bb.1 bu f (C3.2 hf);unfold X2 at h;rw[Ap,Ap,Ap,CE,<-eZ C,<-eZ (NS _)] at h;rw[QS hf];refine⟨⟨⟨h.1.1,h.1.2.1⟩,?_,show 6+_<=28 by have:=h.1.2.2;omega⟩,h.1.2.2⟩;rw[Tu];exact sj (Z3 _) h.2
structure qo:Prop where
 h:Ki (pI 0 0 0) (pI 1 1 1)
 oks:CF Dc
 snd:aP Dc
 sm:K4 2 2 2 0 Dc
 sh:Es [Dc]
 n6:A1 (qE [Dc] [Dc].length)=6
 fg:Oa Dc (qE [Dc] [Dc].length) 0
 f1:A1 (KT Dc (qE [Dc] [Dc].length) 0)=1
 pr:JL Dc
 yes:Lr Dc
theorem vZ:qo:=by
 have D:qE [CJ Z U] [CJ Z U].length=DI:=TK;have H:Es [CJ Z U]:=⟨show 1<=10 by decide,λs J=>by
  rw[DP.1 J];exact⟨λf C=>ng (Td.2.1 f C) Aa,show 6<=1000 by decide⟩⟩
 refine⟨Tz a0,?_,?_,?_,?_,?_,?_,?_,?_,?_⟩<;>rw[u2]
 · exact SD ⟨OK 0 Aa,OK 1 Aa,OK 2 Aa⟩ ⟨Aa,show 6<=256 by decide⟩ λf C=>⟨_,(Xm (a:=Z) (b:=U) C).1⟩
 · exact Ww
 · exact Td
 · exact H
 · rw[D];rfl
 · rw[D]
   intro g e M;exact Qt M
 · rw[D]
   exact(AJ List.length (A8 λe=>(Qt (f:=0) Aa).1.some e)).trans rm
 · exact⟨H,λf C=>by rw[TK];exact⟨(Qt C).1,λx hx=>(UG C hx).2⟩⟩
 · exactλf C x hx=>by rw[TK] at hx ⊢;exact(UG C hx).1
end Bk
namespace Go.Proofs.YtlpflnindligbaaGreat
open Bk Go Tryz
attribute [local irreducible] GL GC GQ W OpV
section
variable{w0:AP}{h0:A4}(hs:MLe h0 (BE w0))
include hs
theorem VU:
 Ae 10 #[] w0 h0 (λ_ r=>r=.bool true):=by
 refine UT 27 func10 hs ?_;refine Af ?_;refine cL (vs:=[vI (0),vI (0),vI (0)]) EQ call45 (λw hs=>rB hs dC dC dC dC dC dC) λv5 h1 bi r5=>(cL (vs:=[vI (1),vI (1),vI (1)]) EQ call45 (λw hs=>rB hs dC dC dC dC dC dC) λv6 h2 bh r6=>?_);refine uS (vs:=[_,_]) I I I I call44 Al (λw hs=>Uz hs r5.up r6 dC dC (by first|omega|exact vZ.oks|exact vZ.snd|exact eC vZ.snd|exactλ_=>vZ.h|exact vZ.sh|exact vZ.fg|exact vZ.pr)) ?_;intro v7 h3 L7 bg r7;obtain⟨u7,au,ah,rfl,r7,rfl,aq,D⟩:=r7
 let eX0:=(((0:Int):Int):Rat)
 let eX1:=(((1:Int):Int):Rat)
 change RL (BP (10000*2+10000*2+20000) (10000*2+10000*2+20000)) h3 ah (G5 (T3.mk eX0 eX0 eX0) (T3.mk eX1 eX1 eX1)) at D
 replace r7:=Rp.Is.le r7 (Le.p (Le.s (AI 48)) (Le.refl _));replace D:=(Le.p (Le.p (AI 60000) (AL 60000)) (Le.refl _)).rl D;refine AN ?_;refine nA (ρ:=(A6 (Aq 1) (A6 Az (AS (A6 A9 (A6 A9 (AE 1))))))) (X:=([],((A2.slice none 0 0),[]))) qS (zW wC (zW fG wC)) λb1 bj aj=>?_;have Z:=(Le.p (Le.s (AI 48)) (Le.p (Le.refl _) (Le.s (Le.p (Le.refl _) (Le.p (Le.refl _) (AL 6)))))).R aj;refine zP (A:=[]) (uB sizeOf32 pH Z r7) λJ H=>(AR ?_);refine zQ (A:=[_]) (ρ:=(BP 60000 60000)) D ?_;intro h4 ap aa;replace H:=H.mono ap;have ad:(BT 48 60000 60000 6).R h4 J (IC (T3.mk eX0 eX0 eX0) (T3.mk eX1 eX1 eX1),(G5 (T3.mk eX0 eX0 eX0) (T3.mk eX1 eX1 eX1),[])):=Fr H aa;have ac:(BT 48 60000 60000 6).R h4 J Dc:=Rp.castR ad B5;have C:(BT 2 2 2 0).R h4 J Dc:=OX ac vZ.sm;refine lX (xB jG pH C) λba ao=>(zE (zL (ρ:=(BT 2 2 2 1)) (m:=1) (xs:=[Dc]) (ps':=[(0,_)]) underlying27 qS I I I (zW wC (zW wC wC)) Al (zD I (AO (AA _) ([],([],[])) 0 dC) (ao.le (Le.p (Le.refl _) (Le.p (Le.refl _) (Le.s (Le.p (Le.refl _) (Le.p (Le.refl _) (AL 1))))))) zO) Yj nP) I I I ?_)
 rintro az bb ⟨ar,rfl,ab⟩
 refine zQ (A:=[]) (ρ:=(BT 2 2 2 1)) ab ?_;intro h5 bf M;refine cL (AU I) call15 (λw hs=>eY hs M (by first|omega|exact vZ.oks|exact vZ.snd|exact eC vZ.snd|exactλ_=>vZ.h|exact vZ.sh|exact vZ.fg|exact vZ.pr) dC dC) λay h6 be U=>?_;replace U:=Rp.Is.le U (Le.s (Le.p (AI 48) (AL 44)));refine Af ?_;refine gv (OpV.tr (by exact AJ Int.ofNat vZ.n6) (nD (q:=6) I I)) I (A5 ?_);refine lX (xB jG pH C) λax an=>(AN ?_);refine cL (vs:=[_,vI (0),_]) EQ call21 (λw hs=>bk hs an dC dC (U.le (Le.s (Le.p (AI 100) (AL 100)))) (by first|omega|exact vZ.oks|exact vZ.snd|exact eC vZ.snd|exactλ_=>vZ.h|exact vZ.sh|exact vZ.fg|exact vZ.pr) (by first|omega|exact vZ.oks|exact vZ.snd|exact eC vZ.snd|exactλ_=>vZ.h|exact vZ.sh|exact vZ.fg|exact vZ.pr) dC dC dC (by first|omega|exact vZ.oks|exact vZ.snd|exact eC vZ.snd|exactλ_=>vZ.h|exact vZ.sh|exact vZ.fg|exact vZ.pr)) λaw h7 bd ae=>?_;replace ae:=Rp.Is.le ae (Le.s (Le.p (Le.refl _) (Le.p (Le.p (AI 7) (AL 7)) (Le.refl _))));refine AN ?_;refine gv (OpV.tr (by exact AJ Int.ofNat vZ.f1) (nD (q:=1) I I)) I (AN ?_);refine lX (xB jG pH C) λav am=>(A7 ?_);refine cL (AU I) call26 (λw hs=>uw hs am (by first|omega|exact vZ.oks|exact vZ.snd|exact eC vZ.snd|exactλ_=>vZ.h|exact vZ.sh|exact vZ.fg|exact vZ.pr) (by first|omega|exact vZ.oks|exact vZ.snd|exact eC vZ.snd|exactλ_=>vZ.h|exact vZ.sh|exact vZ.fg|exact vZ.pr) dC dC dC (by first|omega|exact vZ.oks|exact vZ.snd|exact eC vZ.snd|exactλ_=>vZ.h|exact vZ.sh|exact vZ.fg|exact vZ.pr)) λai h8 bc ak=>?_;obtain rfl:ai=vB (Lr Dc):=ak;refine gv (OpV.tr (by exact vZ.yes) (lI I I)) I (AF ?_);refine zC I I ?_
 rfl
theorem YV{m l k:Nat}{vs:A2}{s:Pq}(rs:(Aj m l).Is h0 vs s){vp:A2}{p:Tq}(rp:(AD k).Is h0 vp p)(H0:k<=100000000)(H1:l<=100000000)(H2:m<=100000000):
 Ae 73 #[vs,vp] w0 h0 (λ_ r=>r=vI (B7 s p)):=by
 refine B0 13 vs vp func73 hs ?_;refine A5 ?_;refine nB rs λb2 aj D=>(nB rp λb3 ai J=>(AF ?_));refine zG 9 _ [] [(0,.q),(1,.q),(2,.q),(4,.q),(5,.q),(3,.c),(6,.c),(7,.c),(8,.q)] zX nX Ac nX (λr hr=>hr) (A7 ?_);refine wX I (xB zI (AT pH) D) λv6 r6=>(wX I (xB zI pH J) λv7 r7=>(A7 ?_));refine wX I (xB zU (AQ pH) D) λac Z=>?_;refine AB I (sC (AK I I) call93 (λw hs=>dY hs r6 r7 O) λv8 h1 ah M=>?_);replace M:=Rp.Is.le M (AL (3*k+3*m+9));refine AB I (sC (AK I I) call95 (λw hs=>tK hs M Z.up O) λab h2 ae C=>?_);replace C:=Rp.Is.le C (AL (3*k+l+3*m+10));refine AB I (sC (AU I) call74 (λw hs=>qA hs C O) λH h3 ad U=>?_);obtain rfl:H=vI (yK ((wL s.1 p)-s.2)):=U;have aa:=yZ ((wL s.1 p)-s.2);refine AF ?_;refine zC I I ?_
 rfl
theorem UI{k:Nat}{va:A2}{a:Tq}(ra:(AD k).Is h0 va a){vb:A2}{b:Tq}(rb:(AD k).Is h0 vb b){vc:A2}{c:Tq}(rc:(AD k).Is h0 vc c)(H0:k<=100000):
 Ae 113 #[va,vb,vc] w0 h0 (λh r=>∃u0,r=.tuple #[u0,vI (Px a b c)]/\(Aj (50*k+200) (200*k+900)).Is h u0 (CU a b c)):=by
 refine Cs 24 va vb vc func113 hs ?_;refine A5 ?_;refine nB ra λb3 cd U=>(nB rb λb4 cc ap=>(nB rc λb5 cb ao=>(nA (ρ:=(Aj 1 1)) (X:=(zT,(0:Rat))) uV (zW (yN (zR dC)) (zR dC)) λb6 ca ak=>(AF ?_))))
 let eX0:List A2:=Em
 refine zG 8 _ [(7,(8,43,eX0))] [(0,.q),(1,.q),(3,.q),(4,.q),(2,.c),(5,.c),(6,.c),(7,.a),(8,.t)] zX (uY.cons I I (vG yA I I) uY.nil) Ac (vH I I qT) (λr hr=>hr) (wX I (xB zI pH ap) λv9 r9=>(wX I (xB zI pH U) λbt bb=>(wX I (xB zI pH ao) λbr ba=>(wX I (xB zI pH U) λbq az=>?_))));refine AB I (sC (AK I I) call76 (λw hs=>MK hs r9 bb O) λbs h1 bz ac=>?_);replace ac:=Rp.Is.le ac (AI (2*k+1));refine AB I (sC (AK I I) call76 (λw hs=>MK hs ba.up az.up O) λbp h2 bx ab=>?_);replace ab:=Rp.Is.le ab (AI (2*k+1));refine AB I (sC (AK I I) call78 (λw hs=>Y9 hs ac.up ab O) λbo h3 bw aa=>?_);replace aa:=Rp.Is.le aa (AI (8*k+7));refine CA I I (λb8=>?_);have an:(AD 1).R h3 eX0 zT:=(yN (zR dC));have ah:=(AI (8*k+7)).R an;refine yD (A:=[]) I (uB sizeOf43 pH ah aa) λbf D=>(AR ?_);refine lX (xB zI pH D) λbn ay=>(cL (AU I) call72 (λw hs=>Q3 hs ay O) λam h4 bv ax=>?_);obtain rfl:am=vB ((xS (T3.mk (b.x-a.x) (b.y-a.y) (b.z-a.z)) (T3.mk (c.x-a.x) (c.y-a.y) (c.z-a.z)))=zT):=ax;refine BB (λC=>?_) λC=>?_
 ·
  refine A5 ?_;refine lX (xV (ρ:=(Aj 1 1)) (xL (ps':=[]) underlying45 uV I I (fP underlying45) trivial I (zW (yN (zR dC)) (zR dC)) zO)) λbm aw=>(zP (A:=[_]) (uB sizeOf45 pH ak aw) λbe aj=>(AR ?_));refine xW (qV (t:=6) qZ Ax I aj) ?_;intro bg ad ai;refine yI (λE S=>qG I ad (gA I) E S) ?_;refine⟨_,?_,(Rp.Is.cast (Rp.Is.le ai (Le.p (AI (50*k+200)) (AL (200*k+900)))) (by obtain⟨e1,e2⟩:=WD C;rw[e1]))⟩;obtain⟨e1,e2⟩:=WD C;rw[e2]
 refine AN ?_;refine zG 5 _ [] [(0,.q),(1,.q),(2,.q),(3,.c),(4,.q),(5,.t),(6,.t)] zX nX Ac nX (λr hr=>hr) (wX I (xB zI pH D) λbl av=>(wX I (xB zI pH D) λbk au=>(wX I (xB zI pH U) λbj ar=>?_)));refine AB I (sC (AK I I) call93 (λw hs=>dY hs au ar O) λbi h5 bu Z=>?_);replace Z:=Rp.Is.le Z (AL (27*k+30));refine wX I (xV (ρ:=(Aj (8*k+7) (27*k+30))) (xL (ps':=[(0,_),(1,_)]) underlying45 uV I I (fP underlying45) BR I (zW (yN (zR O)) (zR O)) (zD I (AT (AA _)) av.up (zD I (AQ (AA _)) Z zO)))) λbh aq=>?_;have ae:=(Le.p (AI (8*k+7)) (AL (27*k+30))).R ak;refine yD (A:=[_]) I (uB sizeOf45 pH ae aq) λbd M=>(nW I (rN (v:=vI (0)) I) I (AN ?_));refine xW (qV (t:=6) qZ Ax I M) ?_;intro bc H J;refine yI (λE S=>qG I H (gA I) E S) ?_;refine⟨_,?_,(Rp.Is.cast (Rp.Is.le J (Le.p (AI (50*k+200)) (AL (200*k+900)))) (by obtain⟨e1,e2⟩:=Kw C;rw[e1];rfl))⟩;obtain⟨e1,e2⟩:=Kw C;rw[e2]
theorem eW{m l:Nat}{vpl:A2}{pl:Pq}(rpl:(Aj m l).Is h0 vpl pl)(H0:m<=1000000)(H1:l<=1000000):
 Ae 48 #[vpl] w0 h0 (λh r=>(Aj (3*m+10) (l+1)).Is h r (CZ pl)):=by
 refine BI 11 vpl func48 hs ?_;refine A5 ?_;refine nB rpl λb1 aj M=>(nA (ρ:=(Aj 1 1)) (X:=(zT,(0:Rat))) uV (zW (yN (zR dC)) (zR dC)) λb2 ai U=>(AN ?_));refine zG 8 _ [] [(1,.q),(2,.q),(4,.q),(5,.q),(0,.c),(3,.c),(6,.c),(7,.q),(8,.t)] zX nX Ac nX (λr hr=>hr) (A7 ?_);refine wX I (xB zI (AT pH) M) λv5 r5=>(A7 ?_);refine wX I (xB zU (AQ pH) M) λv8 r8=>?_;refine AB I (sC (vs:=[vI (-1)]) ⟨I,AW⟩ call41 (λw hs=>gN hs dC dC) λv3 h1 ah r3=>?_);refine AB I (sC (AK I I) call40 (λw hs=>h7 hs r3 r5.up O) λv6 h2 ae r6=>?_);refine AB I (sC (AU I) call105 (λw hs=>eS hs r8.up O) λv9 h3 ad r9=>(wX I (xV (ρ:=(Aj (m+2) (l+1))) (xL (ps':=[(0,_),(1,_)]) underlying45 uV I I (fP underlying45) BR I (zW (yN (zR O)) (zR O)) (zD I (AT (AA _)) r6.up (zD I (AQ (AA _)) (r9.le (AL (l+1))) zO)))) λac Z=>?_));have D:=(Le.p (AI (m+2)) (AL (l+1))).R U;refine yD (A:=[]) I (uB sizeOf45 pH D Z) λaa J=>(AN ?_);refine xW (qV (t:=2) qZ Ar I J) ?_;intro ab C H;refine yI (λE S=>zS I C E S) ?_;exact(Rp.Is.le H (Le.p (AI (3*m+10)) (Le.refl _)))
end
end Go.Proofs.YtlpflnindligbaaGreat
namespace Bk
open Go Go.RowKit
variable {P:D}{n:Nat}{w0:AP}{h0 h:A4}{Q:BH->Av->AP->Prop}{e:List (Nat×A2)}{α:Type}
variable {A B:List AG}{E:Nat}{v:A2}{cs:List A2}{ρ:Rp α}{xl:List α}
theorem St.seen{w:AP}(r:RL ρ h cs xl)(S:St w0 h0 (A++.gs E ρ.n v (A1 xl) cs::B) h w):(AS ρ).Is (BE w) v xl:=by
 obtain⟨h',C,hi,D⟩:=S.freezex r;exact hi.mono D.sub
theorem kc{ops:Array AY}{rest:List AY}{o:AY}{d f:Nat}{xs:List Ag}{ts:Array Ab}{vs:List A2}{R:A4->A2->Prop}(r:RL ρ h cs xl)(hop:o.op=.call {callee:=.value (.func f),args:=Am xs,argTypes:=ts})
    (hg:o.guard=none)(hd:o.dst=some d)(hn:Nat.ble (d+1) n=true)(hcall:∀args w,(callFunc f args).run P w=.ok (.enter f args) w)(hvs:pP e xs vs)
    (hc:∀w,MLe h (BE w)->(AS ρ).Is (BE w) v xl->Calls P f vs.toArray w (Bh w (BE w) R))(k:∀u g,R g u->GL P n w0 h0 ops Q rest ((d,u)::e) (A++.gs E ρ.n v (A1 xl) cs::B) h):
    GL P n w0 h0 ops Q (o::rest) e (A++.gs E ρ.n v (A1 xl) cs::B) h:=Ue hop hg hd hn hcall hvs (λw S=>hc w S.sub (S.seen r)) λu ⟨g,hr⟩=>k u g hr
end Bk
namespace Go.Proofs.YtlpflnindligbaaGreat
open Bk Go Tryz
attribute [local irreducible] GL GC GQ W OpV
section
variable{w0:AP}{h0:A4}(hs:MLe h0 (BE w0))
include hs
theorem Rw{m n:Nat}{vs:A2}{s:Pq}(rs:(Aj m n).Is h0 vs s)(H0:m<=100000)(H1:n<=100000):
 Ae 55 #[vs] w0 h0 (λh r=>(Aj (12*m+50) (m+n+20)).Is h r (kM s)):=by
 refine BI 25 vs func55 hs ?_;refine A5 ?_;refine nB rs λb1 be ar=>(nA (ρ:=(Aj 1 1)) (X:=(zT,(0:Rat))) uV (zW (yN (zR dC)) (zR dC)) λb2 bd ac=>(AF ?_));refine lX (xB qZ pH ar) λv6 r6=>(cL (AU I) call111 (λw hs=>Vc hs r6 O O) λv7 h1 bt r7=>(nA (ρ:=(Aj 1 1)) (X:=(zT,(0:Rat))) uV (zW (yN (zR dC)) (zR dC)) λb3 bu aq=>?_));have aj:=(Le.p (AI (4*m+10)) (AL (m+n+10))).R aq;refine zP (A:=[]) (uB sizeOf45 pH aj r7) λao C=>(Ak ?_);refine An (ι:=Nat×A4) (λ(i,ma)=>(MLe h1 ma/\(i<=3/\∀u,u<i->yK ((Bc s).1.at u)=0),[(2,vP b2 0),(3,vP b3 0),(4,vI ↑i)],[.var b3 45 ao,.var b2 45 bd,.var b1 45 be],ma,3-i)) (0,h1) ?_ ?_
 · exact⟨AM,A3,λu h=>by omega⟩
 rintro⟨i,ma⟩ ⟨bh,bq,BA⟩
 refine yO ?_;refine DV (λba=>?_) λba=>?_
 ·
  refine AX ?_;refine gv ((zM (sz:=3) i underlying43 sizeOf41 I I I O).cv (show _=vP b3 ((i*3+0)) from AJ (vP b3) O)) I (lX (xB zU (AT (Pc.ta pH i O)) C) λbo ay=>(cL (AU I) call74 (λw hs=>qA hs ay O) λap h2 bs ax=>?_));obtain rfl:ap=vI (yK (((Bc s).1).at i)):=ax;have az:=yZ (((Bc s).1).at i);refine Bj (λJ=>?_) λJ=>?_
  ·
   have bp:=yZ ((Bc s).1.at i);refine DV (λan=>?_) λan=>?_
   ·
    refine A5 ?_;refine lX (xB qZ pH C) λbn aw=>(cL (AU I) call48 (λw hs=>eW hs aw O O) λbm h3 br ad=>?_);replace ad:=Rp.Is.le ad (Le.p (AI (12*m+40)) (AL (m+n+11)));have ai:=(Le.p (AI (12*m+40)) (AL (m+n+11))).R ac;refine zP (A:=[_]) (uB sizeOf45 pH ai ad) λbi am=>(Ak ?_);refine xW (qV (t:=2) qZ Ax I am) ?_;intro bj ae ak;refine yI (λE S=>zS I ae E S) ?_;exact(Rp.Is.cast (Rp.Is.le ak (Le.p (AI (12*m+50)) (AL (m+n+20)))) (by exact W2 O BA O))
   refine AF ?_;refine lX (xB qZ pH C) λbl av=>?_;have ah:=(Le.p (AI (4*m+10)) (AL (m+n+10))).R ac;refine zP (A:=[_]) (uB sizeOf45 pH ah av) λbc ab=>(AX ?_);refine xW (qV (t:=2) qZ Ax I ab) ?_;intro bg H Z;refine yI (λE S=>zS I H E S) ?_;exact(Rp.Is.cast (Rp.Is.le Z (Le.p (AI (12*m+50)) (AL (m+n+20)))) (by exact X0 O BA O))
  refine AX ?_;refine Ad ((i+1),h2) ?_ ?_
  · exact⟨AM,A3,wZ (Q:=λu=>yK ((Bc s).1.at u)=0) BA (Br J)⟩
  omega
 have ei:i=3:=by omega
 refine Af ?_;refine lX (xB qZ pH C) λbk au=>?_;have M:=(Le.p (AI (4*m+10)) (AL (m+n+10))).R ac;refine zP (A:=[_]) (uB sizeOf45 pH M au) λbb aa=>(AN ?_);refine xW (qV (t:=2) qZ Ax I aa) ?_;intro bf D U;refine yI (λE S=>zS I D E S) ?_;exact(Rp.Is.cast (Rp.Is.le U (Le.p (AI (12*m+50)) (AL (m+n+20)))) (by exact Xu λu hu=>BA u O))
theorem fq{a b m n:Nat}{vl:A2}{l:(List Pq)}(rl:(AS (Aj a b)).Is h0 vl l){vs:A2}{s:Pq}(rs:(Aj m n).Is h0 vs s)(H0:m<=1000)(H1:n<=1000)(H2:a<=1000)(H3:b<=1000):
 Ae 54 #[vl,vs] w0 h0 (λ_ r=>r=vB (R4 l s)):=by
 have bg:=G6 rl;refine B0 33 vl vs func54 hs ?_;refine A5 ?_;refine nB rs λb3 ad ak=>(AR ?_);refine lX (xB qZ pH ak) λv8 r8=>(cL (AU I) call55 (λw hs=>Rw hs r8 O O) λv9 h1 bk r9=>(nA (ρ:=(Aj 1 1)) (X:=(zT,(0:Rat))) uV (zW (yN (zR dC)) (zR dC)) λb5 bm aj=>?_));have U:=(Le.p (AI (12*m+50)) (AL (m+n+20))).R aj;refine zP (A:=[]) (uB sizeOf45 pH U r9) λJ D=>(Ak ?_);refine An (ι:=Nat×A4) (λ(i,ma)=>(MLe h1 ma/\(i<=A1 l/\∀u,u<i->¬kM s=kM (A0 l u (zT,(0:Rat)))),[(0,vl),(5,vP b5 0),(6,vI ↑i)],[.var b5 45 J,.var b3 45 ad],ma,A1 l-i)) (0,h1) ?_ ?_
 · exact⟨AM,A3,λu h=>by omega⟩
 rintro⟨i,ma⟩ ⟨ay,bh,BA⟩
 refine yO ?_;refine Bj (λac=>?_) λac=>?_
 ·
  refine AX ?_;refine lX (xI (zT,(0:Rat)) i underlying36 qZ rl) λbf aw=>(lX (xA qZ aw) λbe av=>(cL (AU I) call55 (λw hs=>Rw hs av O O) λbd h2 bj au=>(nA (ρ:=(Aj 1 1)) (X:=(zT,(0:Rat))) uV (zW (yN (zR dC)) (zR dC)) λb7 bl ai=>?_)));have M:=(Le.p (AI (12*a+50)) (AL (a+b+20))).R ai;refine zP (A:=[]) (uB sizeOf45 pH M au) λaa C=>(AR ?_);refine lX (xB zI (AT pH) D) λbc ar=>(A7 ?_);refine lX (xB zI (AT pH) C) λbb aq=>(cL (AK I I) call34 (λw hs=>j3 hs ar aq O) λah h3 bi ap=>?_)
  let eX0:=(((kM s).1)=((kM (A0 l i (zT,(0:Rat)))).1))
  obtain rfl:ah=vB eX0:=ap;refine uH (ι:=A4) 7 (λm_=>MLe h3 m_) (λ_=>[(32,vB (eX0/\(((kM s).2)=((kM (A0 l i (zT,(0:Rat)))).2)))),(0,vl),(5,vP b5 0),(6,vI ↑i)]) (λ_=>[.var b7 45 aa,.var b5 45 J,.var b3 45 ad]) (λm_=>m_) ?_ ?_
  ·
   refine zY eX0 (λhg=>?_) (λhg=>?_)
   ·
    refine gT hg I (AN ?_);refine lX (xB zU (AQ pH) D) λba ao=>(AN ?_);refine lX (xB zU (AQ pH) C) λaz an=>(A7 ?_);refine cL (AK I I) call56 (λw hs=>gZ hs ao an O) λae h4 ax am=>?_;obtain rfl:ae=vB (((kM s).2)=((kM (A0 l i (zT,(0:Rat)))).2)):=am;refine A5 ?_;refine zV h4 ax ⟨?_,I,I,I,AW⟩ I I;exact AV (xE hg)
   refine gF hg I (Af ?_);refine zV h3 (MLe.refl _) ⟨?_,I,I,I,AW⟩ I I;exact AV (xG hg)
  intro Z ab;refine fM ?_;refine BB (λH=>?_) λH=>?_
  ·
   refine uG ?_;refine zC I I ?_;exact(yU ⟨i,A3,Prod.ext_iff.2 H⟩).symm
  refine AX ?_;refine yE (A:=[]) ?_;refine Ad ((i+1),Z) ?_ ?_
  · exact⟨AM,A3,wZ (Q:=λu=>¬kM s=kM (A0 l u (zT,(0:Rat)))) BA (λe=>H (Prod.ext_iff.1 e))⟩
  omega
 have ei:i=A1 l:=by omega
 refine uG ?_;refine zC I I ?_;exact(yH (λ⟨u,h1,h2⟩=>BA u O h2)).symm
theorem ic{k m n j:Nat}{vl:A2}{l:(List Sq)}(rl:(AS (BT k m n j)).Is h0 vl l)(H0:Es l)(H1:m<=4)(H2:n<=4):
 Calls prog 16 #[vl] w0 (gV w0 h0 (λh r L_=>∃vF cs,Az.Is h r vF/\L_=[.gs 45 12 vF (A1 (qE l (A1 l))) cs]/\vF.oneCell'=true/\RL (Aj (12*m+62) (m+n+30)) h cs (qE l (A1 l)))):=by
 have bq:=H0.1;refine BI 42 vl func16 hs ?_;refine nH ?_;refine yX 45 12 ?_;have ak:=RL.nil (ρ:=A6 (AD (12*m+62)) (AE (m+n+30))) (h:=h0);refine An (ι:=Nat×List Pq×A2×List A2×A4) (λ(i,OU,D,M,ma)=>(MLe h0 ma/\(RL (Aj (12*m+62) (m+n+30)) ma M OU/\D.oneCell'=true/\i<=A1 l/\OU=qE l i),[(0,vl),(3,D),(4,vI ↑i)],[.gs 45 12 D (A1 OU) M],ma,A1 l-i)) (0,[],(.slice none 0 0),[],h0) ?_ ?_
 · exact⟨AM,ak,I,A3,I⟩
 rintro⟨i,OU,D,M,ma⟩ ⟨bp,Z,U,ck,hO⟩
 refine yO ?_;refine Bj (λav=>?_) λav=>?_
 ·
  have cn:A1 (A0 l i ([],([],[]))).2.1<=1000:=(H0.2 _ (bW O)).2;refine vV ?_;refine An (ι:=Nat×List Pq×A2×List A2×A4) (λ(j,OV,C,H,mb)=>(MLe ma mb/\(RL (Aj (12*m+62) (m+n+30)) mb H OV/\C.oneCell'=true/\j<=A1 (A0 l i ([],([],[]))).2.1/\OV=J5 (A0 l i ([],([],[]))) (qE l i) j),[(0,vl),(3,C),(4,vI ↑i),(5,vI ↑j)],[.gs 45 12 C (A1 OV) H],mb,A1 (A0 l i ([],([],[]))).2.1-j)) (0,OU,D,M,ma) ?_ ?_
  · exact⟨AM,Z,U,A3,hO⟩
  rintro⟨j,OV,C,H,mb⟩ ⟨bo,J,ab,bl,ae⟩
  refine yO ?_;refine AZ ?_;refine lX (xI ([],([],[])) i underlying27 jG rl) λcf bk=>(lX (xF underlying32 sizeOf29 (AQ (AT pH)) bk) λce bj=>(lX (xA kO bj) λcd cg=>(Ca (λau=>?_) λau=>?_)))
  ·
   have an:=H0.at (i:=i) (j:=j) O bl;rw[<-ae] at an;have ar:=o7 an (A0 (A0 l i ([],([],[]))).2.1 j zA).1;have cj:=an.2;refine AX ?_;refine lX (xI ([],([],[])) i underlying27 jG rl) λcc bi=>(lX (xF underlying32 sizeOf29 (AQ (AT pH)) bi) λcb bh=>(lX (xA kO bh) λca bg=>(A7 ?_)));refine lX (xI zA j underlying29 tT bg) λbz bf=>(lX (xF underlying53 sizeOf45 (AT pH) bf) λbx be=>(lX (xA qZ be) λbw bd=>(nA (ρ:=(Aj 1 1)) (X:=(zT,(0:Rat))) uV (zW (yN (zR dC)) (zR dC)) λb6 cp az=>?_)));have ah:=(Le.p (AI (m+1)) (AL (n+1))).R az;refine zP (A:=[]) (uB sizeOf45 pH ah (bd.le (Le.p (AI (m+1)) (AL (n+1))))) λbn aa=>(AR ?_);refine lX (xB qZ pH aa) λbv bc=>?_;refine kc (A:=[_]) (vs:=[_,_]) (ρ:=(Aj (12*m+62) (m+n+30))) J I I I I call54 Al (λw hs aj=>fq (MLe.refl _) aj bc.up O O O O) ?_;intro ay co bb;obtain rfl:ay=vB (R4 OV ((A0 (((A0 l i ([],([],[]))).2).1) j zA).1)):=bb;refine B4 (λad=>?_) λad=>?_
   ·
    have ac:=λe=>ad (ar.2 e);refine A5 ?_;refine lX (xB qZ pH aa) λbu ba=>(cL (AU I) call55 (λw hs=>Rw hs ba O O) λbt h2 cm am=>?_);replace am:=Rp.Is.le am (Le.p (AI (12*m+62)) (AL (m+n+22)));refine zE (zL (ρ:=(Aj (12*m+62) (m+n+22))) (m:=1) (xs:=[kM ((A0 (((A0 l i ([],([],[]))).2).1) j zA).1)]) (ps':=[(0,_)]) underlying36 uV I I I (zW (yN (zR O)) (zR O)) Al (zD I (AO (AA _) (zT,(0:Rat)) 0 dC) am zO) SS nP) I I I ?_
    rintro bs ci ⟨br,rfl,ap⟩
    refine zQ (A:=[]) (ρ:=(Aj (12*m+62) (m+n+22))) ap ?_;intro h3 cl ai;refine yY (A:=[_]) (uD (zN (ρ:=(Aj (12*m+62) (m+n+30))) (bytes:=224) underlying36 uV I I I I nP I I J.up (ai.le (Le.s (Le.p (Le.refl _) (AL (m+n+30))))) bO bO)) I I I ?_
    rintro ax ch ⟨aq,aw,rfl,ao⟩
    refine Ak ?_;refine yE (A:=[]) ?_;refine Ad ((j+1),(OV++[kM ((A0 (((A0 l i ([],([],[]))).2).1) j zA).1)]),ax,aw,h3) ?_ ?_
    · exact⟨AM,ao,aq,A3,by rw[ae] at ac ⊢;exact Yn ac⟩
    omega
   have ac:=ar.1 (Br ad);refine AX ?_;refine yE (A:=[]) ?_;refine Ad ((j+1),OV,C,H,mb) ?_ ?_
   · exact⟨AM,J.up,ab,A3,by rw[ae] at ac ⊢;exact Tn ac⟩
   omega
  have ej:j=A1 (A0 l i ([],([],[]))).2.1:=by omega
  refine uG ?_;refine Ad ((i+1),OV,C,H,mb) ?_ ?_
  · exact⟨AM,J.up,ab,A3,by rw[ae,ej];rfl⟩
  omega
 have ei:i=A1 l:=by omega
 refine uF ?_;have bm:OU=qE l (A1 l):=by rw[hO,ei]
 rw[<-bm];refine kE (.cons_cons _ (E3 _)) (λE S=>zS I (gA I) E S) ?_;exact⟨_,_,oH U,I,U,Z⟩
theorem pu{m l n:Nat}{va:A2}{a:Pq}(ra:(Aj m l).Is h0 va a){vb:A2}{b:Pq}(rb:(Aj n m).Is h0 vb b)(H0:l<=100000000)(H1:m<=100000000)(H2:n<=100000000):
 Ae 17 #[va,vb] w0 h0 (λ_ r=>r=vB (a=b)):=by
 refine B0 17 va vb func17 hs ?_;refine A5 ?_;refine nB ra λb2 ae D=>(nB rb λb3 ad C=>(AZ ?_));refine lX (xB zI (AT pH) D) λv6 r6=>(A7 ?_);refine lX (xB zI (AT pH) C) λv8 r8=>(cL (AK I I) call34 (λw hs=>j3 hs r6 r8 O) λv9 h1 aj r9=>?_);obtain rfl:v9=vB (a.1=b.1):=r9;refine uH (ι:=A4) 7 (λm_=>MLe h1 m_) (λ_=>[(16,vB ((a.1=b.1)/\(a.2=b.2)))]) (λ_=>[.var b3 45 ad,.var b2 45 ae]) (λm_=>m_) ?_ ?_
 ·
  refine zY (a.1=b.1) (λJ=>?_) (λJ=>?_)
  ·
   refine gT J I (AN ?_);refine lX (xB zU (AQ pH) D) λai aa=>(AN ?_);refine lX (xB zU (AQ pH) C) λah Z=>(A7 ?_);refine cL (AK I I) call56 (λw hs=>gZ hs aa Z O) λM h2 ac U=>?_;obtain rfl:M=vB (a.2=b.2):=U;refine A5 ?_;refine zV h2 ac ⟨?_,AW⟩ I I;exact AV (xE J)
  refine gF J I (Af ?_);refine zV h1 (MLe.refl _) ⟨?_,AW⟩ I I;exact AV (xG J)
 intro ab H;refine fM ?_;refine AF ?_;refine zC I I ?_;exact qQ Prod.ext_iff.symm
end
end Go.Proofs.YtlpflnindligbaaGreat
namespace Bk
open Go Go.RowKit
section
variable {P:D}{n:Nat}{w0:AP}{h0:A4}{e:List (Nat×A2)}{A B R:List AG}{q:AG}{h:A4}{Q:BH->Av->AP->Prop}
theorem lB:(A++q::(B++R)).Perm (A++(B++(R++[q]))):=by
 refine List.Perm.append_left A ?_;rw[<-Ck];exact(List.perm_append_singleton q (B++R)).symm
theorem pf{ops:Array AY}{l:List AY}(k:GL P n w0 h0 ops Q l e (A++(B++(R++[q]))) h):GL P n w0 h0 ops Q l e (A++q::(B++R)) h:=λa w E S=>k a w E (S.perm lB)
theorem la{x:BH}(k:GQ n w0 h0 Q x e (q::(A++B)) h):GQ n w0 h0 Q x e (A++q::B) h:=λa w E S=>k a w E (S.perm J2)
theorem vk:((A++R)++B).Perm (A++(B++R)):=by
 rw[Ck];exact List.Perm.append_left A List.perm_append_comm
theorem sn{ops:Array AY}{l:List AY}(k:GL P n w0 h0 ops Q l e (A++(B++R)) h):GL P n w0 h0 ops Q l e ((A++R)++B) h:=λa w E S=>k a w E (S.perm vk)
end
section
variable {α:Type}{ρ:Rp α}{E:Nat}{h h':A4}
def mT(E:Nat)(ρ:Rp α)(h:A4):List A2->List (List α)->List AG->Prop
  |[],_,R=>R=[]
  |v::vs,x::xs,R=>∃cs R',R=.gs E ρ.n v (A1 x) cs::R'/\v.oneCell'=true/\RL ρ h cs x/\mT E ρ h vs xs R'
  |_::_,[],_=>False
theorem mT.mono(hh:MLe h h'):∀{vs:List A2} {xs:List (List α)} {R:List AG},mT E ρ h vs xs R->mT E ρ h' vs xs R
  |[],_,_,r=>r
  |_::_,_::_,_,⟨cs,R',e,o,r,s⟩=>⟨cs,R',e,o,r.mono hh,s.mono hh⟩
  |_::_,[],_,r=>r.elim
theorem mT.snoc:∀{vs:List A2} {xs:List (List α)} {R:List AG} {v:A2} {x:List α} {cs:List A2},mT E ρ h vs xs R->vs.length=A1 xs->v.oneCell'=true->RL ρ h cs x->mT E ρ h (vs++[v]) (xs++[x]) (R++[.gs E ρ.n v (A1 x) cs])
  |[],[],R,v,x,cs,r,_,o,rl=>by
   have:R=[]:=r;subst this;exact⟨cs,[],rfl,o,rl,rfl⟩
  |[],_::_,_,_,_,_,_,hl,_,_=>absurd hl B9
  |_::_,[],_,_,_,_,r,_,_,_=>r.elim
  |_::vs,_::xs,R,v,x,cs,⟨c1,R',e,o1,r1,s⟩,hl,o,rl=>by
   subst e;exact⟨c1,_,rfl,o1,r1,s.snoc (by simpa using hl) o rl⟩
theorem mT.head{vs:List A2}{xs:List (List α)}{R:List AG}{i:Nat}(r:mT E ρ h (vs.drop i) (xs.drop i) R)(hi:i<vs.length)(hx:i<A1 xs):∃cs R',R=.gs E ρ.n (vs.getD i (.slice none 0 0)) (A1 (A0 xs i [])) cs::R'/\(vs.getD i (.slice none 0 0)).oneCell'=true/\RL ρ h cs (A0 xs i [])/\mT E ρ h (vs.drop (i+1)) (xs.drop (i+1)) R':=by
 rw[JB hi,JB hx] at r;have D:vs.getD i (.slice none 0 0)=vs[i]:=by rw[Au,BV hi];rfl
 have C:A0 xs i []=xs[i]:=by rw[Au,BV hx];rfl
 rw[D,C];exact r
end
abbrev OF:=Pl×A2×List Nat
abbrev Cc:OF:=((T3.mk (0:Rat) 0 0,(0:Rat)),((A2.slice none 0 0),([]:List Nat)))
abbrev nV:A2:=.slice none 0 0
def Ex(F:List Fc)(vs:List A2):Nat->List OF:=qB λu=>((A0 F u zA).1,(vs.getD u nV,(A0 F u zA).2.2))
def EE(F:List Fc):List (List (List Int)):=F.map λf=>f.2.1
section
variable {k l:Nat}{h:A4}
theorem my{π:Rp Pl}{cs:List A2}{a:Pl}{v:A2}{X:List (List Int)}{m:List Nat}(r:(A6 π (A6 Az wQ)).R h cs (a,(v,m)))(s:(AS (AS A9)).Is h v X):(A6 π (A6 (AS (AS A9)) wQ)).R h cs (a,(X,m)):=by
 obtain⟨p,q,e,J,C,M,U,H,D⟩:=r;exact⟨p,q,e,J,C,M,U,by rw[show C=[v] from H.1];exact MJ s,D⟩
theorem ZZ{π:Rp Pl}:∀{xs:List OF} {ys:List Fc} {cs:List A2},RL (A6 π (A6 Az wQ)) h cs xs->A1 xs=A1 ys->(∀u,u<A1 xs->(A0 xs u Cc).1=(A0 ys u zA).1/\(A0 xs u Cc).2.2=(A0 ys u zA).2.2/\(AS (AS A9)).Is h (A0 xs u Cc).2.1 (A0 ys u zA).2.1)->RL (A6 π (A6 (AS (AS A9)) wQ)) h cs ys
  |[],[],_,r,_,_=>r
  |[],_::_,_,_,hl,_=>absurd hl B9
  |_::_,[],_,_,hl,_=>absurd hl B9
  |x::xs,y::ys,_,⟨a,b,e,r,s⟩,hl,hg=>by
   obtain⟨g1,g2,g3⟩:=hg 0 (OY _);refine⟨a,b,e,?_,ZZ s (by simpa using hl) λu hu=>hg (u+1) (Nat.succ_lt_succ hu)⟩;obtain⟨x1,x2,x3⟩:=x;obtain⟨y1,y2,y3⟩:=y;have g1':x1=y1:=g1;have g2':x3=y3:=g2;subst g1' g2';exact my r g3
end
theorem Vv(F:List Fc){i:Nat}(hi:i<A1 F):A0 (EE F) i []=(A0 F i zA).2.1:=by
 unfold EE;rw[Au,Au,FA,BV hi];rfl
theorem b4{F:List Fc}{i:Nat}(hi:i<A1 F):(EE F).take (i+1)=(EE F).take i++[(A0 F i zA).2.1]:=by
 have C:i<A1 (EE F):=by unfold EE;rw[Bu];exact hi
 rw[HE C,<-Vv F hi,Au,BV C];rfl
theorem Qh(F:List Fc):A1 (EE F)=A1 F:=Bu _
theorem dx(F:List Fc):(EE F).take (A1 F)=EE F:=by rw[<-Qh,ER]
theorem m1{π:Rp Pl}{ρ:Rp (List Int)}{h:A4}{v:A2}{f:Fc}(r:(A6 π (A6 (AS ρ) wQ)).Is h v f):∃u,(A6 π (A6 Az wQ)).Is h v (f.1,(u,f.2.2))/\(AS ρ).Is h u f.2.1:=by
 obtain⟨cs,r,e⟩:=r;obtain⟨p,q,e1,J,p2,M,Z,C,H⟩:=r;have U:=(AS ρ).one C;obtain⟨u,ds,rfl,s,D⟩:=C;exact⟨u,⟨cs,⟨p,q,e1,J,[u],M,Z,⟨I,by simpa using U⟩,H⟩,e⟩,[u],⟨u,ds,I,s,D⟩,I⟩
theorem Sz(q:Rat):lq (((-1:Int):Rat)*q)=lq q:=by
 rw[show(((-1:Int):Rat)*q)= -q by rw[show(((-1:Int):Rat))= -(1:Rat) from I];grind];exact z5 q
theorem d7{K L m n:Nat}{h h':A4}{v v':A2}{pl:Pl}(r:(A6 (Bd (AE K)) (AE L)).Is h v (CZ pl))(s:(A6 (Bd (AE m)) (AE n)).Is h' v' pl):(A6 (Bd (AE m)) (AE n)).Is h v (CZ pl):=by
 obtain⟨cs,⟨a1,Z,U,r1,r2⟩,e⟩:=r;obtain⟨ds,⟨b1,b2,e3,D,C⟩,_⟩:=s;obtain⟨x,_,rfl,⟨_,M⟩,y,z,rfl,⟨_,J⟩,⟨_,H⟩⟩:=D;refine⟨cs,⟨a1,Z,U,PM r1 I ⟨?_,?_,?_⟩,Sb r2 I ?_⟩,e⟩
 · exact(Sz _).symm▸M
 · exact(Sz _).symm▸J
 · exact(Sz _).symm▸H
 · show lq (-pl.2)<=n
   rw[z5];exact C.2
theorem r9{F:List Fc}{vs:List A2}{f:Nat}(v:A2)(h:vs.length=f):Ex F vs f++[((A0 F f zA).1,(v,(A0 F f zA).2.2))]=Ex F (vs++[v]) (f+1):=by
 subst h
 show _=Ex F (vs++[v]) vs.length++[((A0 F vs.length zA).1,(A0 (vs++[v]) vs.length nV,(A0 F vs.length zA).2.2))]
 have D:A0 (vs++[v]) vs.length nV=v:=by simp
 rw[D]
 congr 1
 refine aG _ λu C=>?_;have:A0 (vs++[v]) u nV=vs.getD u nV:=by
  rw[Au,Au,P5 C]
 rw[this]
def Cf(F:List Fc)(vs:List A2)(i:Nat):List OF:=qB (λu=>(if u<i then CZ (A0 F u zA).1 else(A0 F u zA).1,(vs.getD u nV,(A0 F u zA).2.2))) (A1 F)
theorem mk{F:List Fc}{vs:List A2}(h:vs.length=A1 F):Ex F vs vs.length=Cf F vs 0:=by
 unfold Ex Cf;rw[h];exact aG _ λu _=>by rw[A8 (IZ u)]
theorem iI(F:List Fc)(vs:List A2)(i:Nat):A1 (Cf F vs i)=A1 F:=xN _ _
theorem It{F:List Fc}{vs:List A2}{i u:Nat}(hu:u<A1 F):A0 (Cf F vs i) u Cc=(if u<i then CZ (A0 F u zA).1 else(A0 F u zA).1,(vs.getD u nV,(A0 F u zA).2.2)):=jB _ Cc hu
theorem ul{F:List Fc}{vs:List A2}{i:Nat}(hi:i<A1 F):(Cf F vs i).set i (CZ (A0 (Cf F vs i) i Cc).1,(A0 (Cf F vs i) i Cc).2)=Cf F vs (i+1):=by
 rw[It hi,A8 (KD i)];refine oN Cc (by rw[lS,iI,iI]) λu C=>?_;rw[lS,iI] at C;rw[It C]
 by_cases e:u=i
 · subst e
   rw[AC (Nat.lt_succ_self u),Au,ND (by rw[iI];exact C)];rfl
 · rw[Au,Lk (λh=>e h.symm),<-Au,It C]
   by_cases c:u<i
   · rw[AC c,AC A3]
   · rw[A8 c,A8 A3]
def D1(L:List (List Int))(k:Nat):List (List Int):=qB (λq=>if q<k then Ev (A0 L q []) (A1 (A0 L q [])) else A0 L q []) (A1 L)
theorem IK(L:List (List Int))(k:Nat):A1 (D1 L k)=A1 L:=xN _ _
theorem LX{L:List (List Int)}{k q:Nat}(hq:q<A1 L):A0 (D1 L k) q []=if q<k then Ev (A0 L q []) (A1 (A0 L q [])) else A0 L q []:=jB _ [] hq
theorem ky(L:List (List Int)):D1 L 0=L:=by
 refine oN [] (IK L 0) λq C=>?_;rw[IK] at C;rw[LX C,A8 (IZ q)]
theorem jq{L:List (List Int)}{k:Nat}(hk:k<A1 L):(D1 L k).set k (Ev (A0 (D1 L k) k []) (A1 (A0 (D1 L k) k [])))=D1 L (k+1):=by
 rw[LX hk,A8 (KD k)];refine oN [] (by rw[lS,IK,IK]) λu C=>?_;rw[lS,IK] at C;rw[LX C]
 by_cases e:u=k
 · subst e
   rw[AC (Nat.lt_succ_self u),Au,ND (by rw[IK];exact C)];rfl
 · rw[Au,Lk (λh=>e h.symm),<-Au,LX C]
   by_cases c:u<k
   · rw[AC c,AC A3]
   · rw[A8 c,A8 A3]
theorem mT.flip{E:Nat}{h:A4}{vs:List A2}{F:List Fc}{R:List AG}{i:Nat}(r:mT E (AS A9) h (vs.drop i) ((EE F).drop i) R)(hi:i<vs.length)(hx:i<A1 F):∃cs R',R=.gs E 1 (vs.getD i nV) (A1 (D1 (A0 F i zA).2.1 0)) cs::R'/\(vs.getD i nV).oneCell'=true/\RL (AS A9) h cs (D1 (A0 F i zA).2.1 0)/\mT E (AS A9) h (vs.drop (i+1)) ((EE F).drop (i+1)) R':=by
 rw[ky,<-Vv F hx];exact r.head hi (by rw[Qh];exact hx)
def FD(h:A4)(vs:List A2)(G:Nat->List (List Int))(i:Nat):Prop:=∀u,u<i->(AS (AS A9)).Is h (vs.getD u nV) (G u)
theorem FD.mono{h h':A4}(hh:MLe h h'){vs:List A2}{G:Nat->List (List Int)}{i:Nat}(r:FD h vs G i):FD h' vs G i:=λu hu=>(r u hu).mono hh
theorem FD.next{h h':A4}(hh:MLe h h'){vs:List A2}{G:Nat->List (List Int)}{i:Nat}(r:FD h vs G i)(s:(AS (AS A9)).Is h' (vs.getD i nV) (G i)):FD h' vs G (i+1):=λu hu=>by
 rcases Dp.1 hu with h1|rfl
 · exact(r u h1).mono hh
 · exact s
theorem mT.up{α:Type}{ρ:Rp α}{E:Nat}{h h':A4}{vs:List A2}{xs:List (List α)}{R:List AG}(r:mT E ρ h vs xs R)(hm:MLe h h':=by exact AM):mT E ρ h' vs xs R:=r.mono hm
theorem FD.up{h h':A4}{vs:List A2}{G:Nat->List (List Int)}{i:Nat}(r:FD h vs G i)(hm:MLe h h':=by exact AM):FD h' vs G i:=r.mono hm
def HR(f:Fc):Fc:=(CZ f.1,(D1 f.2.1 (A1 f.2.1),f.2.2))
def DA(s:Sd):Sd:=(s.1,(s.2.1.map HR,s.2.2))
theorem rc{h:A4}{π:Rp Pl}{F:List Fc}{vs:List A2}{cs:List A2}(r:RL (A6 π (A6 Az wQ)) h cs (Cf F vs (A1 F)))(s:FD h vs (λu=>D1 (A0 F u zA).2.1 (A1 (A0 F u zA).2.1)) (A1 F)):RL (A6 π (A6 (AS (AS A9)) wQ)) h cs (F.map HR):=by
 refine ZZ r (by rw[iI,Bu]) λu C=>?_;rw[iI] at C;have e:A0 (F.map HR) u zA=HR (A0 F u zA):=by
  rw[Au,Au,FA,BV C];rfl
 rw[It C,e,AC C];exact⟨I,I,s u C⟩
end Bk
namespace Go.Proofs.YtlpflnindligbaaGreat
open Bk Go Tryz
attribute [local irreducible] GL GC GQ W OpV
theorem vi{w0:AP}{h0:A4}(hs:MLe h0 (BE w0)){vL:A2}{L:(List (List Int))}(rL:Cv.Is h0 vL L)(H0:A1 L<=100000)(H1:∀x,x∈L->A1 x<=100000):
 Calls prog 68 #[vL] w0 (gV w0 h0 (λh r L_=>∃vF cs,Az.Is h r vF/\L_=[.gs 22 1 vF (A1 (L)) cs]/\vF.oneCell'=true/\RL (AS A9) h cs (L))):=by
 refine BI 20 vL func68 hs ?_;refine nH ?_;refine yX 22 1 ?_;have ab:=RL.nil (ρ:=AS A9) (h:=h0);refine An (ι:=Nat×List (List Int)×A2×List A2×A4) (λ(i,D,C,H,mi)=>(MLe h0 mi/\(RL (AS A9) mi H D/\C.oneCell'=true/\i<=A1 L/\D=L.take i),[(0,vL),(3,C),(4,vI ↑i)],[.gs 22 1 C (A1 D) H],mi,A1 L-i)) (0,[],(.slice none 0 0),[],h0) ?_ ?_
 · exact⟨AM,ab,I,A3,I⟩
 rintro⟨i,D,C,H,mi⟩ ⟨aq,J,M,bd,hD⟩
 refine yO ?_;have bg:=Yc H1 i;have bc:A1 D<=i:=by rw[hD,By];omega
 refine Bj (λan=>?_) λan=>?_
 ·
  refine AX ?_;refine lX (xI [] i underlying51 fH rL) λay am=>(lX (xA fH am) λax ak=>(So 3 1 ?_));have aa:=RL.nil (ρ:=A9) (h:=mi);refine yY (A:=[]) (uD (zN (ρ:=A9) (bytes:=8) underlying22 kT I I I I nP I I aa ak bO bO)) I I I ?_
  rintro aw bb ⟨ap,au,rfl,ae⟩
  refine zQ (A:=[]) (ρ:=A9) ae ?_;intro h1 bf Z;refine zE (zL (ρ:=(AS A9)) (m:=1) (xs:=[(([]:List Int)++(A0 L i []))]) (ps':=[(0,_)]) underlying51 sL I I I wC Al (zD I (AO (AA _) [] 0 dC) Z zO) CO nP) I I I ?_
  rintro av ba ⟨ar,rfl,ad⟩
  refine zQ (A:=[]) (ρ:=(AS A9)) ad ?_;intro h2 be U;refine yY (A:=[]) (uD (zN (ρ:=(AS A9)) (bytes:=24) underlying51 sL I I I I nP I I J.up U bO bO)) I I I ?_
  rintro aj az ⟨ah,ai,rfl,ac⟩
  refine Ak ?_;refine Ad ((i+1),(D++[(([]:List Int)++(A0 L i []))]),aj,ai,h2) ?_ ?_
  · exact⟨AM,ac,ah,A3,by rw[hD,Fg];exact(XR [] O).symm⟩
  omega
 have ei:i=A1 L:=by omega
 have ao:D=L:=by rw[hD,ei,ER]
 refine uF ?_;rw[<-ao];refine kE (.cons_cons _ (E3 _)) (λE S=>zS I (gA I) E S) ?_;exact⟨_,_,oH M,I,M,J.up⟩
set_option maxHeartbeats 1000000 in
theorem n2{w0:AP}{h0:A4}(hs:MLe h0 (BE w0)){k m n j:Nat}{vs:A2}{s:Sq}(rs:(BT k m n j).Is h0 vs s)(H0:CF s)(H1:1<=m)(H2:1<=n):
 Calls prog 24 #[vs] w0 (gV w0 h0 (λh r L_=>∃vP csP vF csF vs R,(A6 Az (A6 Az (AS (A6 A9 (A6 A9 (AE j)))))).Is h r (vP,(vF,s.2.2))/\L_=.gs 43 9 vP (A1 s.1) csP::.gs 53 14 vF (A1 (Ex s.2.1 vs vs.length)) csF::R/\(vP.oneCell'=true/\vF.oneCell'=true/\vs.length=A1 s.2.1)/\RL (AD k) h csP s.1/\RL (A6 (Aj m n) (A6 Az wQ)) h csF (Ex s.2.1 vs vs.length)/\mT 22 (AS A9) h vs (EE s.2.1) R)):=by
 have dq:=H0.1.1.1;have dp:=H0.1.1.2;have dn:=H0.1.2;refine BI 36 vs func24 hs ?_;refine A5 ?_;refine nB rs λb1 cm aj=>(nA (ρ:=(A6 Az (A6 Az (AS (A6 A9 (A6 A9 (AE j))))))) (X:=((A2.slice none 0 0),((A2.slice none 0 0),[]))) qS (zW fG (zW fG wC)) λb2 cl bt=>(AN ?_));refine zG 8 _ [(7,(3,32,[.slice none 0 0,.slice none 0 0,.slice none 0 0]))] [(0,.q),(1,.q),(3,.q),(4,.q),(2,.c),(5,.c),(6,.c),(7,.a),(8,.t)] zX (uY.cons I I (vG qS I I) uY.nil) Ac (vH I I qT) (λr hr=>hr) (A7 ?_);refine wX I (xB uN (AT pH) aj) λv7 r7=>(A7 ?_);refine wX I (xB SV (AQ (AQ pH)) aj) λdi cd=>?_;refine AB I (dM 43 9 ?_);have be:=RL.nil (ρ:=Bd (AE k)) (h:=h0);refine kP (A:=[]) (λX=>uD (zN (ρ:=(AD k)) (bytes:=168) underlying28 yA I I I I nP I I be r7 bO bO)) I (yP BU) ?_
 rintro v8 q8 ⟨bi,ck,rfl,bq⟩
 refine AB I (dM 271 5 ?_);have bd:=RL.nil (ρ:=A6 A9 (A6 A9 (AE j))) (h:=h0);refine kP (A:=[]) (λX=>uD (zN (ρ:=(A6 A9 (A6 A9 (AE j)))) (bytes:=72) underlying30 XU I I I I nP I I bd cd bO bO)) I (yP BU) ?_
 rintro dh dm ⟨co,ct,rfl,bg⟩
 refine AB I (vX (A:=[]) (ρ:=(A6 A9 (A6 A9 (AE j)))) bg dK ?_);intro h1 dr ba;refine sX (xV (ρ:=(A6 Az (A6 Az (AS (A6 A9 (A6 A9 (AE j))))))) (xL (ps':=[(0,_),(2,_)]) underlying32 qS I I (pJ underlying32) BR I (zW fG (zW fG wC)) (zD I (AT (AA _)) (oH bi) (zD I (AQ (AQ (AA _))) ba zO)))) λdf cc=>?_;refine CA I I (λb3=>?_);have bs:(A6 Az (A6 Az (AS (A6 A9 (A6 A9 (AE j)))))).R h1 [.slice none 0 0,.slice none 0 0,.slice none 0 0] ((A2.slice none 0 0),((A2.slice none 0 0),[])):=(zW fG (zW fG wC));refine yD (A:=[]) I (uB sizeOf32 pH bs cc) λbm bh=>(Ak ?_);refine yX 53 14 ?_;have bc:=RL.nil (ρ:=A6 (Aj m n) (A6 Az wQ)) (h:=h1);refine An (ι:=Nat×List A2×List AG×List A2×A2×List A2×A2×List A2×A4) (λ(f,us,R,ah,H,D,U,M,ma)=>(MLe h1 ma/\((A6 Az (A6 Az (AS (A6 A9 (A6 A9 (AE j)))))).R ma ah (H,(U,s.2.2))/\RL (AD k) ma D s.1/\H.oneCell'=true/\RL (A6 (Aj m n) (A6 Az wQ)) ma M (Ex s.2.1 us f)/\U.oneCell'=true/\f<=A1 s.2.1/\A1 us=f/\mT 22 (AS A9) ma us ((EE s.2.1).take f) R),[(1,vP b1 0),(2,vP b2 0),(3,vP b3 0),(4,vI ↑f)],(.gs 53 14 U (A1 (Ex s.2.1 us f)) M::.var b3 32 ah::.gs 43 9 H (A1 s.1) D::.var b2 32 cl::.var b1 32 cm::R),ma,A1 s.2.1-f)) (0,[],([]:List AG),bm,v8,ck,(.slice none 0 0),[],h1) ?_ ?_
 · exact⟨AM,bh,bq.up,bi,bc,I,A3,I,I⟩
 rintro⟨f,us,R,ah,H,D,U,M,ma⟩ ⟨cp,J,ab,ae,aa,ax,du,am,bl⟩
 refine yO ?_;have dt:A1 (Ex s.2.1 us f)=f:=xN _ _;refine AR ?_;refine lX (xB kO (AQ (AT pH)) aj) λde dj=>(Ca (λbj=>?_) λbj=>?_)
 ·
  refine Af ?_;refine lX (xB kO (AQ (AT pH)) aj) λdd cb=>(A7 ?_);refine lX (xI zA f underlying29 tT cb) λdc ca=>(lX (xA tT ca) λdb bz=>?_);obtain⟨bp,az,bb⟩:=m1 bz;refine nA (ρ:=(A6 (Aj m n) (A6 Az wQ))) (X:=((zT,(0:Rat)),((A2.slice none 0 0),([]:List Nat)))) jR (zW (zW (yN (zR O)) (zR O)) (zW fG jQ)) λb5 dv br=>(zP (A:=[]) (uB sizeOf53 pH br az) λcj ac=>(AR ?_));refine lX (sR (xB cM (AQ (AT pH)) ac)) λda bx=>?_;subst bx;refine uS (vs:=[_]) I I I I call68 ⟨I,AW⟩ (λw hs=>vi hs bb (by first|omega|exact Ao (H0.2.1 f O).1 dC|(intro x hx;obtain⟨q,hq,rfl⟩:=Jj [] hx;exact Ao ((H0.2.1 f O).2 q hq) dC)) (by first|omega|exact Ao (H0.2.1 f O).1 dC|(intro x hx;obtain⟨q,hq,rfl⟩:=Jj [] hx;exact Ao ((H0.2.1 f O).2 q hq) dC))) ?_;intro cz h2 dw cg aw;obtain⟨C,ai,aw,rfl,ad,Z⟩:=aw;obtain rfl:=PV aw
  change RL (AS A9) h2 ai ((A0 s.2.1 f zA).2.1) at Z
  refine A7 ?_;refine zP (A:=[_]) (uB sizeOf51 (AQ (AT pH)) ac (oH ad)) λci av=>(AF ?_);refine lX (sR (xB kO (AQ (AT pH)) J)) λcy bw=>?_;subst bw
  let eX0:=((A0 s.2.1 f zA).1,(bp,(A0 s.2.1 f zA).2.2))
  refine lX (xB tT pH av) λcw bv=>(zE (zL (ρ:=(A6 (Aj m n) (A6 Az wQ))) (m:=1) (xs:=[(eX0.1,(C,(eX0.2).2))]) (ps':=[(0,_)]) underlying29 jR I I I (zW (zW (yN (zR O)) (zR O)) (zW fG jQ)) Al (zD I (AO (AA _) Cc 0 dC) bv zO) IY nP) I I I ?_)
  rintro cv dl ⟨cq,rfl,bf⟩
  refine zQ (A:=[]) (ρ:=(A6 (Aj m n) (A6 Az wQ))) bf ?_;intro h3 cf ap;refine yY (A:=[_,_]) (uD (zN (ρ:=(A6 (Aj m n) (A6 Az wQ))) (bytes:=264) underlying29 jR I I I I nP I I aa.up ap bO bO)) I I I ?_
  rintro bo dk ⟨ao,bn,rfl,an⟩
  rw[show((Ex s.2.1 us f)++[(eX0.1,(C,(eX0.2).2))])=(Ex s.2.1 (us++[C]) (f+1)) by exact r9 C am] at an ⊢;refine A7 ?_;refine zP (A:=[_,_,_]) (uB sizeOf29 (AQ (AT pH)) J (oH ao)) λay au=>(AF ?_);refine pf (A:=[]) (B:=[_,_,_,_,_,_]) (R:=R) (AF ?_);refine yE (A:=[]) ?_;refine Ad ((f+1),(us++[C]),(R++[.gs 22 1 C (A1 ((A0 s.2.1 f zA).2.1)) ai]),ay,H,D,bo,bn,h3) ?_ ?_
  · exact⟨AM,au,ab.up,ae,an,ao,A3,by rw[BJ,am];rfl,by rw[b4 O];exact(bl.mono (cg.trans cf)).snoc (by rw[am,By,Qh];omega) ad Z.up⟩
  omega
 have ef:f=A1 s.2.1:=by omega
 have ce:A1 us=A1 s.2.1:=by omega
 have bk:mT 22 (AS A9) ma us (EE s.2.1) R:=by rw[<-dx s.2.1,<-ef];exact bl
 refine Af ?_;refine lX (xB jG pH J) λcu bu=>(zP (A:=[_,_,_]) (uB sizeOf32 pH bt bu) λch ar=>(AN ?_));subst am;refine la (A:=[_,_]) (xW (qV (t:=2) jG DT I ar) ?_);intro cn ak aq;refine kE (.cons_cons _ (.cons_cons _ (.cons _ (.cons _ (.cons _ (EU _)))))) (λE S=>zS I ak E S) ?_;exact⟨_,_,_,_,us,_,aq,I,⟨ae,ax,ce⟩,ab.up,aa.up,bk⟩
set_option maxHeartbeats 1000000 in
theorem ik{w0:AP}{h0:A4}(hs:MLe h0 (BE w0)){k m n j:Nat}{vs:A2}{s:Sq}(rs:(BT k m n j).Is h0 vs s)(H0:CF s)(H1:1<=m)(H2:1<=n)(H3:m<=1000000)(H4:n<=1000000):
 Ae 13 #[vs] w0 h0 (λh r=>(BT k m n j).Is h r (DA s)):=by
 have df:=H0.1.1.1;have de:=H0.1.1.2;have dd:=H0.1.2;refine BI 57 vs func13 hs ?_;refine A5 ?_;refine nB rs λb1 bd bn=>(nA (ρ:=(BT k m n j)) (X:=([],([],[]))) qS (zW wC (zW wC wC)) λb2 bc bm=>(AF ?_));refine lX (xB jG pH bn) λv6 r6=>?_;refine uS (vs:=[_]) I I I I call24 ⟨I,AW⟩ (λw hs=>n2 hs r6 H0 H1 H2) ?_;intro v7 h1 L7 di r7;obtain⟨wP,dk,J,cg,us,R0,r7,rfl,⟨cy,da,cb⟩,bi,av,ap⟩:=r7;refine sn (A:=[_,_]) (R:=R0) (B:=[_,_]) (nA (ρ:=(A6 Az (A6 Az (AS (A6 A9 (A6 A9 (AE j))))))) (X:=((A2.slice none 0 0),((A2.slice none 0 0),[]))) qS (zW fG (zW fG wC)) λb3 dl bl=>(zP (A:=[]) (uB sizeOf32 pH bl r7) λZ ab=>(AR ?_)));rw[show(Ex s.2.1 us (A1 us))=(Cf s.2.1 us 0) by exact mk cb] at av ⊢;refine zQ (A:=[_]) (ρ:=(AD k)) bi ?_;intro h2 cd au;replace ab:=ab.mono cd;have C:(A6 (Aq k) (A6 Az (AS (A6 A9 (A6 A9 (AE j)))))).R h2 Z (s.1,(J,s.2.2)):=Me ab au;refine AF ?_;refine An (ι:=Nat×List AG×List A2×A4) (λ(i,R1,ac,ma)=>(MLe h2 ma/\(RL (A6 (Aj m n) (A6 Az wQ)) ma ac (Cf s.2.1 us i)/\i<=A1 s.2.1/\mT 22 (AS A9) ma (us.drop i) ((EE s.2.1).drop i) R1/\FD ma us (λu=>D1 (A0 s.2.1 u zA).2.1 (A1 (A0 s.2.1 u zA).2.1)) i),[(2,vP b2 0),(3,vP b3 0),(4,vI ↑i)],(.var b3 32 Z::.gs 53 14 J (A1 (Cf s.2.1 us i)) ac::.var b2 32 bc::.var b1 32 bd::R1),ma,A1 s.2.1-i)) (0,R0,cg,h2) ?_ ?_
 · exact⟨AM,av.up,A3,ap.up,λu hu=>absurd hu (IZ u)⟩
 rintro⟨i,R1,ac,ma⟩ ⟨ay,H,dh,ap,aq⟩
 refine yO ?_;have dj:A1 (Cf s.2.1 us i)=A1 s.2.1:=iI _ _ _;have ci:A1 (Cf s.2.1 us (i+1))=A1 s.2.1:=iI _ _ _;refine AR ?_;replace C:=C.mono ay;refine lX (sR (xB kO (AQ (AT pH)) C)) λcu ca=>?_;subst ca;refine gv (qR Ax underlying29 I) I (B4 (λba=>?_) λba=>?_)
 ·
  obtain⟨cf,R2,rfl,cz,bj,bb⟩:=mT.flip ap O O;refine AR ?_;refine zG 12 _ [] (Ah 0 9 [(9,.c),(10,.q),(11,.q),(12,.t)]) zX nX (xU Ac) nX (λr hr=>hr) (A7 ?_);refine wX I (sR (xB kO (AQ (AT pH)) C)) λct bz=>?_;subst bz;refine A5 ?_;refine wX I (sR (xB kO (AQ (AT pH)) C)) λcq bx=>?_;subst bx;refine A7 ?_;refine B3 I (λh' L' hh hR=>(yG i (hR _ Ax) underlying29 sizeOf53 I I I bO nP).cv (show _=zH 1 J ((i*14+0)) from AJ (zH 1 J) B5)) I (B3 I (λh' L' hh hR=>(jE (AO (AA _) Cc i bO) I nP (H.mono hh) (hR _ Ax) underlying53 I sizeOf45 I).cv (show _=zH 1 J ((i*14+0)) from AJ (zH 1 J) (by show(i*14+0)+0=(i*14+0);omega))) I (fL (F:=λv_=>(Aj m n).Is ma v_ ((A0 (Cf s.2.1 us i) i Cc).1)) I (xO qZ (AO (AT (AA _)) Cc i bO) I nP I H I) (gH Ax) I ?_));intro cp aw;refine AB I (sC (AU I) call48 (λw hs=>eW hs aw O O) λbh h3 ae ao=>?_);replace ao:(Aj m n).Is h3 bh (CZ ((A0 (Cf s.2.1 us i) i Cc).1)):=d7 ao aw;refine B3 I (λh' L' hh hR=>(yG i (hR _ Ax) underlying29 sizeOf53 I I I bO nP).cv (show _=zH 1 J ((i*14+0)) from AJ (zH 1 J) B5)) I ?_;replace H:=H.mono ae;refine B3 I (λh' L' hh hR=>(jE (AO (AA _) Cc i bO) I nP (H.mono hh) (hR _ Ax) underlying53 I sizeOf45 I).cv (show _=zH 1 J ((i*14+0)) from AJ (zH 1 J) (by show(i*14+0)+0=(i*14+0);omega))) I (TX (A:=[_]) (F:=λc_=>RL (A6 (Aj m n) (A6 Az wQ)) h3 c_ ((Cf s.2.1 us i).set i (CZ ((A0 (Cf s.2.1 us i) i Cc).1),(A0 (Cf s.2.1 us i) i Cc).2))) I (tD sizeOf45 (AO (AT (AA _)) Cc i bO) I nP I I H ao I) ?_);intro ah D;rw[show((Cf s.2.1 us i).set i (CZ ((A0 (Cf s.2.1 us i) i Cc).1),(A0 (Cf s.2.1 us i) i Cc).2))=(Cf s.2.1 us (i+1)) by exact ul O] at D ⊢;refine AX ?_;refine An (ι:=Nat×List A2×A4) (λ(k,U,mb)=>(MLe h3 mb/\(RL (AS A9) mb U (D1 (A0 s.2.1 i zA).2.1 k)/\k<=A1 (A0 s.2.1 i zA).2.1),[(2,vP b2 0),(3,vP b3 0),(4,vI ↑i),(5,vI ↑k)],(.var b3 32 Z::.gs 53 14 J (A1 (Cf s.2.1 us (i+1))) ah::.var b2 32 bc::.var b1 32 bd::.gs 22 1 (A0 us i nV) (A1 (D1 (A0 s.2.1 i zA).2.1 k)) U::R2),mb,A1 (A0 s.2.1 i zA).2.1-k)) (0,cf,h3) ?_ ?_
  · exact⟨AM,bj.up,O⟩
  rintro⟨k,U,mb⟩ ⟨ax,M,dc⟩
  refine yO ?_;have db:=(H0.2.1 i O).1;have cw:A1 (D1 (A0 s.2.1 i zA).2.1 k)=A1 (A0 s.2.1 i zA).2.1:=IK _ _;refine AR ?_;replace C:=C.mono (ae.trans ax);refine lX (sR (xB kO (AQ (AT pH)) C)) λco bw=>?_;subst bw;refine A7 ?_;refine gv ((yG i Ax underlying29 sizeOf53 I I I bO nP).cv (show _=zH 1 J ((i*14+0)) from AJ (zH 1 J) B5)) I (gv ((jE (AO (AA _) Cc i bO) I nP D.up Ax underlying53 I sizeOf51 I).cv (show _=zH 1 J ((i*14+12)) from AJ (zH 1 J) (by show(i*14+0)+12=(i*14+12);omega))) I (nT (F:=λv_=>(((A0 (Cf s.2.1 us (i+1)) i Cc).2).1)=v_) (sR (xO cM (AO (AQ (AT (AA _))) Cc i bO) I nP I D.up I)) (gH Ax) I ?_));intro bg bv;obtain rfl:bg=(A0 us i nV):=bv.symm.trans (by rw[It O]);refine gv (qR Eg underlying51 I) I (B4 (λaz=>?_) λaz=>?_)
  ·
   refine AF ?_;refine zG 18 _ [] (Ah 0 16 [(16,.c),(17,.q),(18,.t)]) zX nX (xU Ac) nX (λr hr=>hr) (A7 ?_);refine wX I (sR (xB kO (AQ (AT pH)) C)) λcn bu=>?_;subst bu;refine A7 ?_;refine B3 I (λh' L' hh hR=>(yG i (hR _ Ax) underlying29 sizeOf53 I I I bO nP).cv (show _=zH 1 J ((i*14+0)) from AJ (zH 1 J) B5)) I (B3 I (λh' L' hh hR=>(jE (AO (AA _) Cc i bO) I nP (D.up.mono hh) (hR _ Ax) underlying53 I sizeOf51 I).cv (show _=zH 1 J ((i*14+12)) from AJ (zH 1 J) (by show(i*14+0)+12=(i*14+12);omega))) I (fL (F:=λv_=>(((A0 (Cf s.2.1 us (i+1)) i Cc).2).1)=v_) I (sR (xO cM (AO (AQ (AT (AA _))) Cc i bO) I nP I D.up I)) (gH Ax) I ?_));intro bf bt;obtain rfl:bf=(A0 us i nV):=bt.symm.trans (by rw[It O]);refine A5 ?_;refine wX I (sR (xB kO (AQ (AT pH)) C)) λcm bs=>?_;subst bs;refine A7 ?_;refine B3 I (λh' L' hh hR=>(yG i (hR _ Ax) underlying29 sizeOf53 I I I bO nP).cv (show _=zH 1 J ((i*14+0)) from AJ (zH 1 J) B5)) I (B3 I (λh' L' hh hR=>(jE (AO (AA _) Cc i bO) I nP (D.up.mono hh) (hR _ Ax) underlying53 I sizeOf51 I).cv (show _=zH 1 J ((i*14+12)) from AJ (zH 1 J) (by show(i*14+0)+12=(i*14+12);omega))) I (fL (F:=λv_=>(((A0 (Cf s.2.1 us (i+1)) i Cc).2).1)=v_) I (sR (xO cM (AO (AQ (AT (AA _))) Cc i bO) I nP I D.up I)) (gH Ax) I ?_));intro be br;obtain rfl:be=(A0 us i nV):=br.symm.trans (by rw[It O]);refine A7 ?_;refine B3 I (λh' L' hh hR=>(yG k (hR _ Eg) underlying51 sizeOf22 I I I bO nP).cv (show _=zH 1 (A0 us i nV) ((k*1+0)) from AJ (zH 1 (A0 us i nV)) B5)) I (fL (F:=λv_=>(AS A9).Is mb v_ (A0 (D1 (A0 s.2.1 i zA).2.1 k) k [])) I (xO fH (AO (AA _) [] k bO) I nP I M I) (gH Eg) I ?_);intro cl bq;refine AB I (sC (AU I) call49 (λw hs=>Vl hs bq (by rw[LX O,A8 (KD _)];exact Ao ((H0.2.1 i O).2 k O) dC)) λck h4 cc bp=>(B3 I (λh' L' hh hR=>(yG k (hR _ Eg) underlying51 sizeOf22 I I I bO nP).cv (show _=zH 1 (A0 us i nV) ((k*1+0)) from AJ (zH 1 (A0 us i nV)) B5)) I (TX (A:=[_,_,_,_]) (F:=λc_=>RL (AS A9) h4 c_ ((D1 (A0 s.2.1 i zA).2.1 k).set k (Ev (A0 (D1 (A0 s.2.1 i zA).2.1 k) k []) (A1 (A0 (D1 (A0 s.2.1 i zA).2.1 k) k []))))) I (tD sizeOf22 (AO (AA _) [] k bO) I nP I I M.up bp I) ?_)));intro ar aa;rw[show((D1 (A0 s.2.1 i zA).2.1 k).set k (Ev (A0 (D1 (A0 s.2.1 i zA).2.1 k) k []) (A1 (A0 (D1 (A0 s.2.1 i zA).2.1 k) k []))))=(D1 (A0 s.2.1 i zA).2.1 (k+1)) by exact jq O] at aa ⊢;refine AX ?_;refine Ad ((k+1),ar,h4) ?_ ?_
   · exact⟨AM,aa,O⟩
   omega
  have ek:k=A1 (A0 s.2.1 i zA).2.1:=by omega
  refine Af ?_;refine zQ (A:=[_,_,_,_]) (ρ:=(AS A9)) M.up ?_;intro h4 cc aj;refine AF ?_;refine Ad ((i+1),R2,ah,h4) ?_ ?_
  · exact⟨AM,D.up,A3,bb.up,FD.next (MLe.refl _) aq.up (by have h:=aj;rw[ek] at h;exact h)⟩
  omega
 have ei:i=A1 s.2.1:=by omega
 refine Af ?_;rw[ei] at aq;rw[ei] at H;have bk:=rc H aq;rw[show(A1 (Cf s.2.1 us i))=A1 (s.2.1.map HR) by rw[iI,Bu]];refine zQ (A:=[_]) (ρ:=(BP m n)) bk ?_;intro h3 ae ai;replace C:=C.mono ae;have an:(BT k m n j).R h3 Z (s.1,((s.2.1.map HR),s.2.2)):=Fr C ai;refine lX (xB jG pH an) λcj bo=>(zP (A:=[_]) (uB sizeOf32 pH bm bo) λce am=>(AN ?_));refine xW (qV (t:=2) jG Ax I am) ?_;intro ch ad ak;refine yI (λE S=>zS I ad E S) ?_;exact ak
end Go.Proofs.YtlpflnindligbaaGreat
namespace Bk
open Classical
def JK(B:List PI)(p:PI):Nat->Int
  |0=>-1
  |j+1=>if A0 B j (0,0)=p then(j:Int) else JK B p j
def Pw(B:List PI)(p:PI):List PI:=if JK B p (A1 B)<0 then B++[p] else B
def PR(B:List PI)(p:PI):Int:=if JK B p (A1 B)<0 then(A1 B:Int) else JK B p (A1 B)
def Kx(B x:List PI):Nat->List PI
  |0=>B
  |k+1=>Pw (Kx B x k) (A0 x k (0,0))
def ak(B x:List PI):Nat->List Int:=qB λk=>PR (Kx B x k) (A0 x k (0,0))
def LK(T:List (List PI)):Nat->List PI
  |0=>[]
  |i+1=>Kx (LK T i) (A0 T i []) (A1 (A0 T i []))
def Dl(T:List (List PI)):List PI:=LK T (A1 T)
def Dd(T:List (List PI)):List (List Int):=qB (λi=>ak (LK T i) (A0 T i []) (A1 (A0 T i []))) (A1 T)
def EZ(T:List (List PI))(h:Int):List I3:=qB (λi=>((A0 (Dl T) (i%A1 (Dl T)) (0,0)).1,(A0 (Dl T) (i%A1 (Dl T)) (0,0)).2,if(A1 (Dl T):Int)<=(i:Int) then h else 0)) (2*A1 (Dl T))
def FU(T:List (List PI))(i k:Nat):Int:=A0 (A0 (Dd T) i []) k 0
def Hh(T:List (List PI))(i k:Nat):Int:=A0 (A0 (Dd T) i []) ((k+1)%A1 (A0 (Dd T) i [])) 0
def I2(T:List (List PI))(h:Int)(i k:Nat):I3:=((g3 (EZ T h) (Hh T i k).toNat).2.1-(g3 (EZ T h) (FU T i k).toNat).2.1,-((g3 (EZ T h) (Hh T i k).toNat).1-(g3 (EZ T h) (FU T i k).toNat).1),0)
def VX(T:List (List PI))(h:Int)(i k:Nat):J:=(I2 T h i k,Cl (I2 T h i k) (g3 (EZ T h) (FU T i k).toNat),[[FU T i k,Hh T i k,Hh T i k+(A1 (Dl T):Int),FU T i k+(A1 (Dl T):Int)]],[115,48+i,46,48+k])
def FS(T:List (List PI))(h:Int):SI:=(EZ T h,rY (λi=>qB (λk=>VX T h i k) (A1 (A0 (Dd T) i []))) (A1 (Dd T))++
 [((0,0,-1),0,qB (λi=>Ev (A0 (Dd T) i []) (A1 (A0 (Dd T) i []))) (A1 (Dd T)),[98,111,116,116,111,109]),
  ((0,0,1),h,qB (λi=>qB (λk=>A0 (A0 (Dd T) i []) k 0+(A1 (Dl T):Int)) (A1 (A0 (Dd T) i []))) (A1 (Dd T)),[116,111,112])])
def TG(u w:I3):I3:=(u.1-w.1,u.2.1-w.2.1,u.2.2-w.2.2)
def Xb(a b:I3):I3:=(a.2.1*b.2.2-a.2.2*b.2.1,a.2.2*b.1-a.1*b.2.2,a.1*b.2.1-a.2.1*b.1)
def DF(a b c:I3):I3:=Xb (TG b a) (TG c a)
def La(n:I3):I3:=(-n.1,-n.2.1,-n.2.2)
def Ra(a b c:I3)(i k:Int)(nm:List Nat):J:=(DF a b c,Cl (DF a b c) a,[[i,k,3]],nm)
def Vq(A B C T:I3):SI:=([A,B,C,T],[Ra A B T 0 1 [115,48],Ra B C T 1 2 [115,49],Ra C A T 2 0 [115,50],(La (DF A B C),-Cl (DF A B C) A,[[2,1,0]],[98,97,115,101])])
def Gj(p c q e f g:Nat):SI:=Vq (0,0,0) (1+p,0,0) (c,1+q,0) (e,f,1+g)
def KH(p q r:Int):SI:=([(0,0,0),(0,0,r),(0,q,0),(0,q,r),(p,0,0),(p,0,r),(p,q,0),(p,q,r)],[((-1,0,0),0,[[0,1,3,2]],[120,48]),((1,0,0),p,[[4,6,7,5]],[120,49]),((0,-1,0),0,[[0,4,5,1]],[121,48]),((0,1,0),q,[[2,3,7,6]],[121,49]),((0,0,-1),0,[[0,2,6,4]],[122,48]),((0,0,1),r,[[1,5,7,3]],[122,49])])
def MW:List (List (List PI)):=[[[(0,0),(2,0),(2,1),(1,1),(1,2),(0,2)]],[[(0,0),(3,0),(3,3),(0,3)],[(1,1),(1,2),(2,2),(2,1)]],[[(0,0),(3,0),(3,3),(0,3)],[(1,1),(0,0),(1,2)]],[[(0,0),(1,0),(2,0),(2,2),(0,1)]]]
def Lu(a b c:Nat):List (List PI):=[[(0,0),((1+a:Nat),0),((b:Nat),(1+c:Nat))]]
def Er(I:SI):Bool:=CS I&&NK I&&CS (G7 I)
def Db(p c q:Nat):Bool:=(List.range 3).all λe=>(List.range 3).all λf=>(List.range 3).all λg=>Er (Gj p c q e f g)
def FC(v:I3):Prop:=(-1000<=v.1/\v.1<=1000)/\(-1000<=v.2.1/\v.2.1<=1000)/\(-1000<=v.2.2/\v.2.2<=1000)
theorem Y3{u:I3}:Jo u=true↔FC u:=by unfold Jo FC;rw[CE]
theorem Nr{a n:Int}(ha:0<a/\a<=1000)(hn:-9223372036854775808<=n)(hn':n<9223372036854775808):lq (1/(a:Rat)*(n:Rat))<=2:=by
 have h:=MF hn hn' (d:=a) A3 A3;have e:sQ n a=1/(a:Rat)*(n:Rat):=by
  unfold sQ;rw[Rat.div_def,Rat.div_def,Ia,Rat.mul_comm]
 rw[<-e];exact h
theorem S3{a b:Int}(ha:-1000<=a/\a<=1000)(hb:-1000<=b/\b<=1000):-1000000<=a*b/\a*b<=1000000:=by
 have h1:=Iw (show 0<=1000-a by omega) (show 0<=1000-b by omega);have h2:=Iw (show 0<=1000+a by omega) (show 0<=1000+b by omega);have h3:=Iw (show 0<=1000-a by omega) (show 0<=1000+b by omega);have C:=Iw (show 0<=1000+a by omega) (show 0<=1000-b by omega);have M:(1000-a)*(1000-b)=1000000-1000*a-1000*b+a*b:=by grind
 have J:(1000+a)*(1000+b)=1000000+1000*a+1000*b+a*b:=by grind
 have H:(1000-a)*(1000+b)=1000000-1000*a+1000*b-a*b:=by grind
 have D:(1000+a)*(1000-b)=1000000+1000*a-1000*b-a*b:=by grind
 omega
theorem fr{n u:I3}(hn:FC n)(hu:FC u):-3000000<=Cl n u/\Cl n u<=3000000:=by
 have h1:=S3 hn.1 hu.1;have h2:=S3 hn.2.1 hu.2.1;have h3:=S3 hn.2.2 hu.2.2;unfold Cl;omega
theorem o4{v:I3}{I:SI}{s:Sd}(h:mO v I s)(hb:CS I=true)(hv:FC v):K4 2 2 2 1 s:=by
 refine⟨λp J=>?_,λf Z=>?_,λe M=>?_⟩
 · rw[h.1] at J
   obtain⟨u,U,rfl⟩:=Cp.1 J;have h1:FC u:=Y3.1 (Bb.1 (by unfold CS at hb;exact(Ap _ _▸hb).1) u U);unfold FC at h1 hv;exact⟨mP _ A3 A3,mP _ A3 A3,mP _ A3 A3⟩
 · obtain⟨i,hi,rfl⟩:=Jj zA Z
   have C:i<A1 I.2:=by rw[<-h.2.2.1];exact hi
   obtain⟨a,H,e⟩:=(h.2.2.2 i C).1;have D:=Wv h hb C;unfold FL at D;have h1:=(Ap _ _▸(Ap _ _▸D).1);have h2:FC (A0 I.2 i BN).1:=Y3.1 h1.1;have h3:-1000<=(A0 I.2 i BN).2.1/\(A0 I.2 i BN).2.1<=1000:=JY h1.2;have h4:=fr h2 hv;rw[e];unfold FC at h2;exact⟨⟨Nr H A3 A3,Nr H A3 A3,Nr H A3 A3⟩,Nr H A3 A3⟩
 · rw[h.2.1] at M;cases M
theorem kj(pl:Pl):C8 (1/((1:Int):Rat)) pl=pl:=by
 have e:1/((1:Int):Rat)=1:=by decide +kernel
 rw[e];unfold C8;simp only[Ia]
theorem mE{v:I3}{f:J}{x:Fc}(h1:x.1=EV v f)(h2:x.2=f.2.2):HJ v f x:=⟨⟨1,Aa,by rw[kj];exact h1⟩,h2⟩
theorem eo{x y z p q r:Int}(hp:0<p)(hq:0<q)(hr:0<r):mO (x,y,z) (KH p q r) (Cw (pI x y z) (pI (x+p) (y+q) (z+r))):=by
 have g:∀a b:Int,0<b->(a:Rat)<((a+b:Int):Rat):=λa b h=>L4.2 A3;have C:dD (pI x y z) (pI (x+p) (y+q) (z+r)):=by
  intro u D;rw[RH];refine Rat.not_le.2 ?_
  rcases Ox D with rfl|rfl|rfl
  · exact g x p hp
  · exact g y q hq
  · exact g z r hr
 rw[YX C];refine⟨?_,I,I,λf J=>?_⟩
 · show CR.map (cU _ _)=_
   simp[CR,cU,cB,pI,cP,KH]
 · have H:f<6:=J
   have e0:((0:Int):Rat)=0:=I;have M:((1:Int):Rat)=1:=I;have:f=0\/f=1\/f=2\/f=3\/f=4\/f=5:=by omega
   rcases this with rfl|rfl|rfl|rfl|rfl|rfl<;>
    (refine mE (Prod.ext ?_ ?_) I<;>simp[CJ,D4,Ch,dN,KH,EV,CV,Cl,pI,T3.set,T3.at,e0,M,Dn,Gv]<;>grind)
theorem UZ{α:Type}(d:α)(l k:List α)(i:Nat):A0 (l++k) i d=if i<A1 l then A0 l i d else A0 k (i-A1 l) d:=by
 rw[Au,List.getElem?_append]
 split<;>rw[Au]
def G8(v:I3)(B:List J)(A:List Fc):Prop:=A1 A=A1 B/\∀f,f<A1 B->HJ v (A0 B f BN) (A0 A f zA)
section
variable {v:I3}
theorem N0{B B':List J}{A A':List Fc}(h:G8 v B A)(h':G8 v B' A'):G8 v (B++B') (A++A'):=by
 refine⟨by rw[BJ,BJ,h.1,h'.1],λf C=>?_⟩;rw[BJ] at C;rw[UZ,UZ,h.1]
 by_cases e:f<A1 B
 · rw[AC e,AC e];exact h.2 f e
 · rw[A8 e,A8 e];exact h'.2 _ A3
theorem YL:G8 v [] []:=⟨rfl,λf hf=>absurd hf (IZ _)⟩
theorem QD{b:J}{a:Fc}(h:HJ v b a):G8 v [b] [a]:=⟨rfl,λf hf=>by
 have:f=0:=by have:f<1:=hf;omega
 subst this;exact h⟩
theorem Ws{g:Nat->J}{f:Nat->Fc}:∀n,(∀i,i<n->HJ v (g i) (f i))->G8 v (qB g n) (qB f n)
  |0,_=>YL
  |n+1,h=>N0 (Ws n λi hi=>h i A3) (QD (h n A3))
theorem ZR{g:Nat->List J}{f:Nat->List Fc}:∀n,(∀i,i<n->G8 v (g i) (f i))->G8 v (rY g n) (rY f n)
  |0,_=>YL
  |n+1,h=>N0 (ZR n λi hi=>h i A3) (h n A3)
end
def c2(x y:Int)(u:PI):Pt:=T3.mk ((x+u.1:Int):Rat) ((y+u.2:Int):Rat) (0:Rat)
def C5(x y:Int)(T:List (List PI)):List (List Pt):=T.map λs=>s.map (c2 x y)
section
variable {x y:Int}
theorem Vh(u w:PI):Gi (c2 x y u) (c2 x y w)↔u=w:=by
 unfold Gi c2;rw[EF,EF];constructor
 · rintro⟨h1,h2⟩;exact Prod.ext A3 A3
 · rintro rfl;exact⟨I,I⟩
theorem Kt(B:List PI){j:Nat}(h:j<A1 B):A0 (B.map (c2 x y)) j zT=c2 x y (A0 B j (0,0)):=sG _ _ _ h
theorem ao(B:List PI)(p:PI):∀j,j<=A1 B->s9 (B.map (c2 x y)) (c2 x y p) j=JK B p j
  |0,_=>rfl
  |j+1,h=>by
   unfold s9 JK;rw[ao B p j A3,Kt B A3]
   by_cases e:A0 B j (0,0)=p
   · rw[AC e,AC ((Vh _ _).2 e)]
   · rw[A8 e,A8 λe'=>e ((Vh _ _).1 e')]
theorem Vf(B:List PI)(p:PI):F1 (B.map (c2 x y)) (c2 x y p)=(Pw B p).map (c2 x y)/\Ge (B.map (c2 x y)) (c2 x y p)=PR B p:=by
 unfold F1 Ge Pw PR Fi;rw[Bu,ao B p _ (B1 _)];constructor
 · split
   · rw[FK];rfl
   · rfl
 · rfl
theorem Ri(B s:List PI):∀k,k<=A1 s->DM (B.map (c2 x y)) (s.map (c2 x y)) k=(Kx B s k).map (c2 x y)
  |0,_=>rfl
  |k+1,h=>by
   unfold DM Kx;rw[Ri B s k A3,Kt s A3,(Vf _ _).1]
theorem kd(B s:List PI):IW (B.map (c2 x y)) (s.map (c2 x y)) (A1 s)=ak B s (A1 s):=aG _ λk hk=>by
 rw[Ri B s k A3,Kt s hk,(Vf _ _).2]
theorem KS(T:List (List PI)){i:Nat}(h:i<A1 T):A0 (C5 x y T) i []=(A0 T i []).map (c2 x y):=sG _ _ _ h
theorem QW(T:List (List PI)):∀i,i<=A1 T->Cj (C5 x y T) i=(LK T i).map (c2 x y)
  |0,_=>rfl
  |i+1,h=>by
   unfold Cj LK;rw[QW T i A3,KS T A3,Bu];exact Ri _ _ _ (B1 _)
theorem K7(T:List (List PI)):A1 (C5 x y T)=A1 T:=Bu _
theorem XC(T:List (List PI)):D5 (C5 x y T)=(Dl T).map (c2 x y):=by
 unfold D5 Dl;rw[K7];exact QW T _ (B1 _)
theorem iN(T:List (List PI)):Cd (C5 x y T)=Dd T:=by
 unfold Cd Dd;rw[K7];exact aG _ λi hi=>by rw[QW T i A3,KS T hi,Bu];exact kd _ _
theorem s4(T:List (List PI)):A1 (D5 (C5 x y T))=A1 (Dl T):=by rw[XC,Bu]
section
variable {z h:Int}{T:List (List PI)}
theorem ZI:F2 (C5 x y T) (z:Rat) ((z+h:Int):Rat)=(EZ T h).map (cP (x,y,z)):=by
 have C:A1 (EZ T h)=2*A1 (Dl T):=xN _ _;refine oN zT (by rw[QC,s4,Bu,C]) λi hi=>?_;rw[QC,s4] at hi;rw[sG (cP (x,y,z)) z3 zT A3];unfold F2 JR EZ;rw[s4,jB _ _ hi,jB _ _ hi,XC,Kt _ (BQ _ A3)];unfold c2 cP;refine AJ _ ?_
 by_cases e:(A1 (Dl T):Int)<=(i:Int)
 · rw[AC e,AC e]
 · rw[A8 e,A8 e]
   show(z:Rat)=((z+0:Int):Rat)
   rw[Int.add_zero]
theorem Sk{k:Int}(h0:0<=k)(h1:k<2*(A1 (Dl T):Int)):A0 (F2 (C5 x y T) (z:Rat) ((z+h:Int):Rat)) k.toNat zT=cP (x,y,z) (g3 (EZ T h) k.toNat):=by
 rw[ZI];have C:A1 (EZ T h)=2*A1 (Dl T):=xN _ _;exact sG _ _ _ A3
theorem XO{i k:Nat}(hi:i<A1 T)(hk:k<A1 (A0 (Dd T) i [])):0<=FU T i k/\FU T i k<A1 (Dl T):=by
 have:=Xx (L:=C5 0 0 T) (i:=i) (k:=k) (by rw[K7];exact hi) (by rw[iN];exact hk);rw[iN,s4] at this;exact this
theorem hg{i k:Nat}(hi:i<A1 T)(hk:k<A1 (A0 (Dd T) i []))(h10:i<10/\k<10):HJ (x,y,z) (VX T h i k) (Gs (C5 x y T) (z:Rat) ((z+h:Int):Rat) i k):=by
 have C:Fp (C5 x y T) i k=FU T i k:=by unfold Fp FU;rw[iN]
 have H:GM (C5 x y T) i k=Hh T i k:=by unfold GM Hh;rw[iN]
 have D:=XO hi hk;have M:0<=Hh T i k/\Hh T i k<A1 (Dl T):=XO hi (BQ _ A3);have U:EN i k=[115,48+i,46,48+k]:=by
  unfold EN;rw[oY h10.1,oY h10.2];rfl
 have J:If (C5 x y T) (z:Rat) ((z+h:Int):Rat) i k=CV (I2 T h i k):=by
  unfold If;rw[C,H,Sk D.1 A3,Sk M.1 A3];unfold CV I2 cP;simp only[Et,Dn,Gv];have e0:((0:Int):Rat)=0:=I;rw[e0]
  congr 1<;>grind
 refine mE ?_ ?_
 · unfold Gs EV
   refine Prod.ext J ?_
   show wL (If _ _ _ i k) _=_
   rw[J,C,Sk D.1 A3]
   show wL (CV (I2 T h i k)) (cP (x,y,z) (g3 (EZ T h) (FU T i k).toNat))=((Cl (I2 T h i k) (g3 (EZ T h) (FU T i k).toNat)+Cl (I2 T h i k) (x,y,z):Int):Rat)
   generalize I2 T h i k=n;generalize g3 (EZ T h) (FU T i k).toNat=u;unfold wL CV cP Cl;simp only[Dn,Dq];grind
 · show([[Fp _ i k,GM _ i k,GM _ i k+_,Fp _ i k+_]],EN i k)=_
   rw[C,H,U,s4];rfl
theorem Yt(h10:A1 T<=10/\∀i,i<A1 T->A1 (A0 T i [])<=10):mO (x,y,z) (FS T h) (Dt (C5 x y T) (z:Rat) ((z+h:Int):Rat)):=by
 have C:A1 (Dd T)=A1 T:=xN _ _;have D:∀i,i<A1 T->A1 (A0 (Dd T) i [])=A1 (A0 T i []):=λi hi=>by
  unfold Dd;rw[jB _ _ hi];exact xN _ _
 have H:G8 (x,y,z) (FS T h).2 (Dt (C5 x y T) (z:Rat) ((z+h:Int):Rat)).2.1:=by
  show G8 _ (rY _ _++[_,_]) (Ho _ _ _ _++[_,_])
  refine N0 ?_ (N0 (B:=[_]) (A:=[_]) (QD ?_) (QD ?_))
  · unfold Ho KE
    rw[iN];refine ZR _ λi hi=>Ws _ λk J=>?_;rw[C] at hi;have:=D i hi;have:=h10.2 i hi;exact hg hi J ⟨A3,A3⟩
  · refine mE ?_ ?_
    · unfold NB EV CV Cl
      refine Prod.ext ?_ ?_
      · show T3.mk (0:Rat) (0:Rat) (-((1:Int):Rat))=T3.mk ((0:Int):Rat) ((0:Int):Rat) ((-1:Int):Rat)
        rw[Gv];rfl
      · show -(z:Rat)=((0+(0*x+0*y+-1*z):Int):Rat)
        rw[show 0+(0*x+0*y+-1*z)= -z by omega,Gv]
    · show(LD (C5 x y T) (A1 (Cd (C5 x y T))),_)=_
      unfold LD;rw[iN]
  · refine mE ?_ ?_
    · unfold Mk EV CV Cl
      refine Prod.ext ?_ ?_
      · show T3.mk (0:Rat) (0:Rat) ((1:Int):Rat)=T3.mk ((0:Int):Rat) ((0:Int):Rat) ((1:Int):Rat)
        rfl
      · show((z+h:Int):Rat)=((h+(0*x+0*y+1*z):Int):Rat)
        rw[show h+(0*x+0*y+1*z)=z+h by omega]
    · show(LO (C5 x y T) (A1 (Cd (C5 x y T))),_)=_
      unfold LO Nl;rw[iN,s4]
 exact⟨ZI,I,H.1,H.2⟩
theorem lh(h10:(1<=A1 T/\A1 T<=10)/\∀i,i<A1 T->A1 (A0 T i [])<=10)(hn:GZ T=true)(hh:0<h)(hc:CS (FS T h)=true):(∀s,s∈C5 x y T->bG s)/\Ct (C5 x y T) (z:Rat) ((z+h:Int):Rat)=0/\CF (Dt (C5 x y T) (z:Rat) ((z+h:Int):Rat)):=by
 have hly:No (x:Rat) 1 (y:Rat) 1 T (C5 x y T):=by
  refine⟨K7 T,λm hm=>?_⟩;rw[show gl (C5 x y T) m=(A0 T m []).map (c2 x y) from KS T hm];refine⟨Bu _,λk hk=>?_⟩;rw[show gp ((A0 T m []).map (c2 x y)) k=c2 x y (A0 (A0 T m []) k (0,0)) from Kt _ hk];unfold pr ag gI c2;rw[Ia,Ia,<-Dn,<-Dn];rfl
 obtain⟨n1,n2,n3⟩:=Z8 Aa Aa hly hn;have hm:=Yt (x:=x) (y:=y) (z:=z) (h:=h) ⟨h10.1.2,h10.2⟩;refine⟨n3,(Zb n1 n2 ?_ ?_).1,(MH hm hc).2⟩
 · rw[RH]
   exact Rat.not_le.2 (L4.2 A3)
 · have e1:iZ (C5 x y T) (A1 (C5 x y T))<=64*A1 (C5 x y T):=Q0 (λm hm=>by
    rw[K7] at hm;rw[KS T hm,Bu];have:=h10.2 m hm;omega) _ (B1 _)
   have e2:=PL (C5 x y T) (A1 (C5 x y T));have e3:A1 (D5 (C5 x y T))=A1 (Cj (C5 x y T) (A1 (C5 x y T))):=I;have e4:iZ (C5 x y T) (A1 (C5 x y T))<=100:=by
    have g:∀i,i<=A1 T->iZ (C5 x y T) i<=10*i:=λi=>by
     induction i with
     |zero=>exactλ_=>B1 _
     |succ i ih=>
      intro hi;have:=ih A3;have h2:=h10.2 i A3
      show iZ (C5 x y T) i+A1 (A0 (C5 x y T) i [])<=_
      rw[KS T A3,Bu];omega
    have:=g _ (B1 _);rw[K7];omega
   unfold Gw;omega
end
end
theorem ts:(MW.all λT=>GZ T&&Er (FS T 1)&&Er (FS T 2))=true:=by decide +kernel
theorem ei:((List.range 3).all λa=>(List.range 2).all λb=>(List.range 2).all λc=>GZ (Lu a b c)&&Er (FS (Lu a b c) 1)&&Er (FS (Lu a b c) 2))=true:=by decide +kernel
theorem bw:((List.range 2).all λp=>(List.range 2).all λq=>(List.range 2).all λr=>CS (KH (1+p:Nat) (1+q:Nat) (1+r:Nat)))=true:=by decide +kernel
theorem dj:Db 0 0 0=true:=by decide +kernel
theorem pq:Db 0 0 1=true:=by decide +kernel
theorem qp:Db 0 0 2=true:=by decide +kernel
theorem lu:Db 0 1 0=true:=by decide +kernel
theorem hM:Db 0 1 1=true:=by decide +kernel
theorem gz:Db 0 1 2=true:=by decide +kernel
theorem m7:Db 1 0 0=true:=by decide +kernel
theorem nt:Db 1 0 1=true:=by decide +kernel
theorem i6:Db 1 0 2=true:=by decide +kernel
theorem ja:Db 1 1 0=true:=by decide +kernel
theorem qx:Db 1 1 1=true:=by decide +kernel
theorem jr:Db 1 1 2=true:=by decide +kernel
theorem na:Db 2 0 0=true:=by decide +kernel
theorem lm:Db 2 0 1=true:=by decide +kernel
theorem qk:Db 2 0 2=true:=by decide +kernel
theorem ga:Db 2 1 0=true:=by decide +kernel
theorem ls:Db 2 1 1=true:=by decide +kernel
theorem tw:Db 2 1 2=true:=by decide +kernel
theorem cu{p c q e f g:Nat}(hp:p<3)(hc:c<2)(hq:q<3)(he:e<3)(hf:f<3)(hg:g<3):Er (Gj p c q e f g)=true:=by
 have h:Db p c q=true:=by
  have H:p=0\/p=1\/p=2:=by omega
  have D:c=0\/c=1:=by omega
  have C:q=0\/q=1\/q=2:=by omega
  rcases H with rfl|rfl|rfl<;>rcases D with rfl|rfl<;>rcases C with rfl|rfl|rfl
  · exact dj
  · exact pq
  · exact qp
  · exact lu
  · exact hM
  · exact gz
  · exact m7
  · exact nt
  · exact i6
  · exact ja
  · exact qx
  · exact jr
  · exact na
  · exact lm
  · exact qk
  · exact ga
  · exact ls
  · exact tw
 exact Bb.1 (Bb.1 (Bb.1 h e (C3.2 he)) f (C3.2 hf)) g (C3.2 hg)
theorem cd{p q r:Nat}(hp:p<2)(hq:q<2)(hr:r<2):CS (KH (1+p:Nat) (1+q:Nat) (1+r:Nat))=true:=
 Bb.1 (Bb.1 (Bb.1 bw p (C3.2 hp)) q (C3.2 hq)) r (C3.2 hr)
section
variable {v:I3}
theorem Ya(a b c:I3):EO (cP v a) (cP v b) (cP v c)=CV (DF a b c):=by
 unfold EO xS qX CV DF Xb TG cP;simp only[Et,Dn,Dq]
 congr 1<;>grind
theorem oo{n:I3}:CV n=zT↔n=z3:=by
 constructor
 · intro e
   have H:=EF.1 (show(n.1:Rat)=((0:Int):Rat) from AJ T3.x e);have D:=EF.1 (show(n.2.1:Rat)=((0:Int):Rat) from AJ T3.y e);have C:=EF.1 (show(n.2.2:Rat)=((0:Int):Rat) from AJ T3.z e);exact Prod.ext H (Prod.ext D C)
 · rintro rfl;rfl
theorem l6(n u:I3):wL (CV n) (cP v u)=((Cl n u+Cl n v:Int):Rat):=by
 unfold wL CV cP Cl;simp only[Dn,Dq];grind
theorem NH{a b c:I3}(h:¬DF a b c=z3):CU (cP v a) (cP v b) (cP v c)=(CV (DF a b c),((Cl (DF a b c) a+Cl (DF a b c) v:Int):Rat)):=by
 rw[(Kw (λe=>h (oo.1 (by rw[<-Ya (v:=v)];exact e)))).1,Ya,l6]
theorem kk{A B C T:I3}(h0:¬DF A B C=z3)(h1:¬DF A B T=z3)(h2:¬DF B C T=z3)(h3:¬DF C A T=z3):mO v (Vq A B C T) (DY [cP v A,cP v B,cP v C] (cP v T)):=by
 have J:qF (((0:Nat):Int):Rat)=[48]:=oY (n:=0) Aa;have H:qF (((1:Nat):Int):Rat)=[49]:=oY (n:=1) Aa;have D:qF (((2:Nat):Int):Rat)=[50]:=oY (n:=2) Aa;refine⟨I,I,I,λf U=>?_⟩;have M:f<4:=U;have:f=0\/f=1\/f=2\/f=3:=by omega
 rcases this with rfl|rfl|rfl|rfl
 · refine mE ?_ ?_
   · show CU (cP v A) (cP v B) (cP v T)=_
     rw[NH h1];rfl
   · show([[((0:Nat):Int),((1%3:Nat):Int),((3:Nat):Int)]],[115]++qF (((0:Nat):Int):Rat))=_
     rw[J];rfl
 · refine mE ?_ ?_
   · show CU (cP v B) (cP v C) (cP v T)=_
     rw[NH h2];rfl
   · show([[((1:Nat):Int),((2%3:Nat):Int),((3:Nat):Int)]],[115]++qF (((1:Nat):Int):Rat))=_
     rw[H];rfl
 · refine mE ?_ ?_
   · show CU (cP v C) ([cP v A,cP v B,cP v C].getD ((2+1)%3) zT) (cP v T)=_
     rw[show A0 [cP v A,cP v B,cP v C] ((2+1)%3) zT=cP v A from I,NH h3];rfl
   · show([[((2:Nat):Int),(((2+1)%3:Nat):Int),((3:Nat):Int)]],[115]++qF (((2:Nat):Int):Rat))=_
     rw[D];rfl
 · refine mE ?_ ?_
   · show CZ (CU (cP v A) (cP v B) (cP v C))=(CV (La (DF A B C)),((-Cl (DF A B C) A+Cl (La (DF A B C)) v:Int):Rat))
     rw[NH h0];generalize DF A B C=n;unfold CZ CV La Cl;have Z:((-1:Int):Rat)= -1:=I;refine Prod.ext ?_ ?_
     · simp only[Gv,Z]
       congr 1<;>grind
     · simp only[Gv,Dn,Dq]
       grind
   · rfl
end
theorem NQ{p c q e f g:Nat}(hp:p<3)(hc:c<2)(hq:q<3)(he:e<3)(hf:f<3)(hg:g<3):(CS (Gj p c q e f g)=true/\NK (Gj p c q e f g)=true)/\CS (G7 (Gj p c q e f g))=true:=by
 have h:=cu hp hc hq he hf hg;unfold Er at h;rw[Ap,Ap] at h;exact h
theorem Og{P:List I3}{F:List J}(h:CS (P,F)=true){f:Nat}(hf:f<A1 F):¬(A0 F f BN).1=z3:=by
 unfold CS at h;replace h:=(Ap _ _▸h).2;rw[Ap,Ap,Ap] at h;have C:=Bb.1 h.1.1.2 _ (kX (d:=BN) hf);unfold FL at C;replace C:=(Ap _ _▸C).2;rw[Ap,Ap,D6,DH] at C;exact C.1.2
def DZ(x y z:Int)(p c q:Nat):List Pt:=[pI x y z,pI (x+(1+p)) y z,pI (x+c) (y+(1+q)) z]
def KF(x y z:Int)(e f g:Nat):Pt:=pI (x+e) (y+f) (z+(1+g))
theorem Tm{x y z:Int}{p c q e f g:Nat}(hp:p<3)(hc:c<2)(hq:q<3)(he:e<3)(hf:f<3)(hg:g<3):mO (x,y,z) (Gj p c q e f g) (DY (DZ x y z p c q) (KF x y z e f g)):=by
 have h:=(NQ hp hc hq he hf hg).1.1;have J:=Og h (f:=0) (show 0<4 by decide);have H:=Og h (f:=1) (show 1<4 by decide);have D:=Og h (f:=2) (show 2<4 by decide);have M:=Og h (f:=3) (show 3<4 by decide);have h0:¬DF (0,0,0) (1+(p:Int),0,0) ((c:Int),1+(q:Int),0)=z3:=λe'=>M (by
  show La (DF _ _ _)=z3
  rw[show DF _ _ _=z3 from e'];rfl)
 have C:=kk (v:=(x,y,z)) h0 J H D;have Z:[cP (x,y,z) (0,0,0),cP (x,y,z) (1+(p:Int),0,0),cP (x,y,z) ((c:Int),1+(q:Int),0)]=DZ x y z p c q:=by
  unfold DZ cP pI;simp
 have U:cP (x,y,z) ((e:Int),(f:Int),1+(g:Int))=KF x y z e f g:=by
  unfold KF cP pI;simp
 rw[Z,U] at C;exact C
theorem fh{x y z:Int}{p c q e f g:Nat}:(¬EO (A0 (DZ x y z p c q) 0 zT) (A0 (DZ x y z p c q) 1 zT) (A0 (DZ x y z p c q) 2 zT)=zT)/\IV (CU (A0 (DZ x y z p c q) 0 zT) (A0 (DZ x y z p c q) 1 zT) (A0 (DZ x y z p c q) 2 zT)) (DZ x y z p c q)/\0<B7 (CU (A0 (DZ x y z p c q) 0 zT) (A0 (DZ x y z p c q) 1 zT) (A0 (DZ x y z p c q) 2 zT)) (KF x y z e f g):=by
 have J:0<(1+(p:Int))*(1+(q:Int)):=Int.mul_pos A3 A3;have hG:0<(1+(p:Int))*(1+(q:Int))*(1+(g:Int)):=Int.mul_pos J A3;have hN:EO (pI x y z) (pI (x+(1+p)) y z) (pI (x+c) (y+(1+q)) z)=T3.mk (0:Rat) (0:Rat) (((1+(p:Int))*(1+(q:Int)):Int):Rat):=by
  unfold EO xS qX pI;simp only[Dn,Dq]
  congr 1<;>grind
 have hz:¬EO (pI x y z) (pI (x+(1+p)) y z) (pI (x+c) (y+(1+q)) z)=zT:=λe=>by
  rw[hN] at e;have:=EF.1 (show _=((0:Int):Rat) from AJ T3.z e);omega
 have hZ:CU (pI x y z) (pI (x+(1+p)) y z) (pI (x+c) (y+(1+q)) z)=(T3.mk (0:Rat) (0:Rat) (((1+(p:Int))*(1+(q:Int)):Int):Rat),(((1+(p:Int))*(1+(q:Int))*z:Int):Rat)):=by
  rw[(Kw hz).1,hN];unfold wL pI;simp only[Dq,Nn,Rat.zero_add]
 generalize hm:(1+(p:Int))*(1+(q:Int))=m at J hG hN hZ;have M:∀X Y Z:Int,B7 (T3.mk (0:Rat) (0:Rat) ((m:Int):Rat),((m*z:Int):Rat)) (pI X Y Z)=HW (m*(Z-z)):=λX Y Z=>by
  have:Cr (T3.mk (0:Rat) (0:Rat) ((m:Int):Rat),((m*z:Int):Rat)) (pI X Y Z)=((m*(Z-z):Int):Rat):=by
   unfold Cr wL pI;simp only[Dq,Et];grind
  unfold B7;rw[this,mV];rfl
 have aa:∀X Y:Int,B7 (T3.mk (0:Rat) (0:Rat) ((m:Int):Rat),((m*z:Int):Rat)) (pI X Y z)=0:=λX Y=>by
  rw[M,LZ,Int.mul_zero];rfl
 have U:As (T3.mk (0:Rat) (0:Rat) ((m:Int):Rat))=0/\At (T3.mk (0:Rat) (0:Rat) ((m:Int):Rat))=1:=⟨AC (ON.2 J),AC (ON.2 J)⟩;have D:∀X Y Z:Int,CL (T3.mk (0:Rat) (0:Rat) ((m:Int):Rat),((m*z:Int):Rat)) (pI X Y Z)=ag (x:Rat) 1 (y:Rat) 1 (X-x,Y-y):=λX Y Z=>by
  unfold CL ag;rw[U.1,U.2];unfold pr pI;simp only[T3.at,Et];refine Prod.ext ?_ ?_<;>grind
 refine⟨hz,?_,?_⟩
 · show IV (CU (pI x y z) (pI (x+(1+p)) y z) (pI (x+c) (y+(1+q)) z)) _
   rw[hZ];refine⟨⟨show 3<=3 from B1 3,λe=>?_⟩,λi hi=>?_,λi k hi h2 hk=>?_⟩
   · have:=EF.1 (show _=((0:Int):Rat) from AJ T3.z e)
     omega
   · have H:i<3:=hi
     rcases Ox H with rfl|rfl|rfl<;>exact aa _ _
   · have H:i<3:=hi
     have ab:k<3:=hk;have:k=2:=by omega
     subst this;have C:∀u w t:PI,0<EY u w t->0<Ai (ag (x:Rat) 1 (y:Rat) 1 u) (ag (x:Rat) 1 (y:Rat) 1 w) (ag (x:Rat) 1 (y:Rat) 1 t):=λu w t h=>by
      rw[Sj Aa Aa];exact u5.2 h
     have pA:CL (T3.mk (0:Rat) (0:Rat) ((m:Int):Rat),((m*z:Int):Rat)) (pI x y z)=ag (x:Rat) 1 (y:Rat) 1 (0,0):=by rw[D,LZ,LZ]
     have pB:CL (T3.mk (0:Rat) (0:Rat) ((m:Int):Rat),((m*z:Int):Rat)) (pI (x+(1+p)) y z)=ag (x:Rat) 1 (y:Rat) 1 (1+(p:Int),0):=by rw[D,LZ,show x+(1+(p:Int))-x=1+(p:Int) by omega]
     have pC:CL (T3.mk (0:Rat) (0:Rat) ((m:Int):Rat),((m*z:Int):Rat)) (pI (x+c) (y+(1+q)) z)=ag (x:Rat) 1 (y:Rat) 1 ((c:Int),1+(q:Int)):=by rw[D,show x+(c:Int)-x=(c:Int) by omega,show y+(1+(q:Int))-y=1+(q:Int) by omega]
     have c1:EY (0,0) (1+(p:Int),0) ((c:Int),1+(q:Int))=m:=by rw[<-hm];simp[EY]
     have c2:EY (1+(p:Int),0) ((c:Int),1+(q:Int)) (0,0)=m:=by rw[<-hm];simp[EY];grind
     have c3:EY ((c:Int),1+(q:Int)) (0,0) (1+(p:Int),0)=m:=by rw[<-hm];simp[EY];grind
     have hL:A1 (DZ x y z p c q)=3:=I;have g0:gp (DZ x y z p c q) 0=pI x y z:=I;have g1:gp (DZ x y z p c q) 1=pI (x+(1+p)) y z:=I;have g2:gp (DZ x y z p c q) 2=pI (x+c) (y+(1+q)) z:=I;unfold nx;rw[hL]
     rcases Ox H with rfl|rfl|rfl
     · rw[show(0+1)%3=1 from I,show(0+2)%3=2 from I,g0,g1,g2,pA,pB,pC]
       exact C _ _ _ (by rw[c1];exact J)
     · rw[show(1+1)%3=2 from I,show(1+2)%3=0 from I,g0,g1,g2,pA,pB,pC]
       exact C _ _ _ (by rw[c2];exact J)
     · rw[show(2+1)%3=0 from I,show(2+2)%3=1 from I,g0,g1,g2,pA,pB,pC]
       exact C _ _ _ (by rw[c3];exact J)
 · show 0<B7 (CU (pI x y z) (pI (x+(1+p)) y z) (pI (x+c) (y+(1+q)) z)) (pI (x+e) (y+f) (z+(1+g)))
   rw[hZ,M];refine u5.2 ?_;rw[show z+(1+(g:Int))-z=1+(g:Int) by omega];exact hG
theorem q2{x y z:Int}{p c q e f g:Nat}(hp:p<3)(hc:c<2)(hq:q<3)(he:e<3)(hf:f<3)(hg:g<3):PA (DZ x y z p c q) (KF x y z e f g):=by
 obtain⟨h1,h2,h3⟩:=fh (x:=x) (y:=y) (z:=z) (p:=p) (c:=c) (q:=q) (e:=e) (f:=f) (g:=g);exact⟨⟨⟨by show 3<=3;decide,by show 3<=64;decide⟩,h1⟩,⟨h2,h3⟩,(MH (Tm hp hc hq he hf hg) (NQ hp hc hq he hf hg).1.1).2⟩
def M4(T:List (List PI)):Prop:=T∈MW\/∃a b c:Nat,(a<3/\b<2/\c<2)/\T=Lu a b c
def Xj(I:SI):Prop:=(∃p q r:Nat,(p<2/\q<2/\r<2)/\I=KH (1+p:Nat) (1+q:Nat) (1+r:Nat))\/(∃T h,M4 T/\(h=1\/h=2)/\I=G7 (FS T h))\/
 ∃p c q e f g:Nat,(p<3/\c<2/\q<3)/\(e<3/\f<3/\g<3)/\I=G7 (Gj p c q e f g)
def Fy(s:Sd):Prop:=∃v I,Xj I/\FC v/\mO v I s
theorem W3{T:List (List PI)}{h:Int}(hT:M4 T)(hh:h=1\/h=2):GZ T=true/\Er (FS T h)=true:=by
 have g:∀T,(GZ T&&Er (FS T 1)&&Er (FS T 2))=true->GZ T=true/\Er (FS T h)=true:=λT e=>by
  rw[Ap,Ap] at e
  rcases hh with rfl|rfl
  · exact⟨e.1.1,e.1.2⟩
  · exact⟨e.1.1,e.2⟩
 rcases hT with hT|⟨a,b,c,⟨ha,hb,hc⟩,rfl⟩
 · exact g T (Bb.1 ts T hT)
 · exact g _ (Bb.1 (Bb.1 (Bb.1 ei a (C3.2 ha)) b (C3.2 hb)) c (C3.2 hc))
theorem U9{I:SI}(h:Er I=true):(CS I=true/\NK I=true)/\CS (G7 I)=true:=by
 unfold Er at h;rw[Ap,Ap] at h;exact h
theorem Yw{I:SI}(h:Xj I):CS I=true:=by
 rcases h with⟨p,q,r,⟨hp,hq,hr⟩,rfl⟩|⟨T,h,hT,hh,rfl⟩|⟨p,c,q,e,f,g,⟨hp,hc,hq⟩,⟨he,hf,hg⟩,rfl⟩
 · exact cd hp hq hr
 · exact(U9 (W3 hT hh).2).2
 · exact(NQ hp hc hq he hf hg).2
theorem w7{s:Sd}(h:Fy s):(aP s/\CF s)/\K4 2 2 2 1 s:=by
 obtain⟨v,I,D,H,C⟩:=h;exact⟨MH C (Yw D),o4 C (Yw D) H⟩
theorem E9{z:Int}{n:Nat}(h:0<=z/\z<n):∃m:Nat,m<n/\z=m:=⟨z.toNat,A3,A3⟩
section
variable {x y z:Int}(hx:0<=x/\x<3)(hy:0<=y/\y<3)(hz:0<=z/\z<3)
include hx hy hz
theorem qs{p q r:Int}(hp:0<=p/\p<2)(hq:0<=q/\q<2)(hr:0<=r/\r<2):Fy (Cw (pI x y z) (pI (x+1+p) (y+1+q) (z+1+r))):=by
 obtain⟨p,H,rfl⟩:=E9 (n:=2) hp;obtain⟨q,D,rfl⟩:=E9 (n:=2) hq;obtain⟨r,C,rfl⟩:=E9 (n:=2) hr;refine⟨(x,y,z),_,.inl ⟨p,q,r,⟨H,D,C⟩,I⟩,⟨by show -1000<=x/\x<=1000;omega,by show -1000<=y/\y<=1000;omega,by show -1000<=z/\z<=1000;omega⟩,?_⟩;rw[show x+1+(p:Int)=x+((1+p:Nat):Int) by omega,show y+1+(q:Int)=y+((1+q:Nat):Int) by omega,show z+1+(r:Int)=z+((1+r:Nat):Int) by omega];exact eo A3 A3 A3
theorem fy{p c q e f g:Int}(hp:0<=p/\p<3)(hc:0<=c/\c<2)(hq:0<=q/\q<3)(he:0<=e/\e<3)(hf:0<=f/\f<3)(hg:0<=g/\g<3):PA [pI x y z,pI (x+1+p) y z,pI (x+c) (y+1+q) z] (pI (x+e) (y+f) (z+1+g))/\
 ∃v I,(∃p c q e f g:Nat,(p<3/\c<2/\q<3)/\(e<3/\f<3/\g<3)/\I=G7 (Gj p c q e f g))/\FC v/\mO v I (Di (DY [pI x y z,pI (x+1+p) y z,pI (x+c) (y+1+q) z] (pI (x+e) (y+f) (z+1+g))),Cb (DY [pI x y z,pI (x+1+p) y z,pI (x+c) (y+1+q) z] (pI (x+e) (y+f) (z+1+g))),[]):=by
 obtain⟨p,D,rfl⟩:=E9 (n:=3) hp;obtain⟨c,U,rfl⟩:=E9 (n:=2) hc;obtain⟨q,C,rfl⟩:=E9 (n:=3) hq;obtain⟨e,M,rfl⟩:=E9 (n:=3) he;obtain⟨f,J,rfl⟩:=E9 (n:=3) hf;obtain⟨g,H,rfl⟩:=E9 (n:=3) hg;have hm:=Tm (x:=x) (y:=y) (z:=z) D U C M J H;have h0:=NQ D U C M J H;have Z:=TY hm h0.1.1 h0.1.2;have hH:=q2 (x:=x) (y:=y) (z:=z) D U C M J H;unfold DZ KF at Z hH;rw[show x+1+(p:Int)=x+(1+p) by omega,show y+1+(q:Int)=y+(1+q) by omega,show z+1+(g:Int)=z+(1+g) by omega];refine⟨hH,(x,y,z),_,⟨p,c,q,e,f,g,⟨D,U,C⟩,⟨M,J,H⟩,rfl⟩,⟨by show -1000<=x/\x<=1000;omega,by show -1000<=y/\y<=1000;omega,by show -1000<=z/\z<=1000;omega⟩,?_⟩;have e0:E7 (DY [pI x y z,pI (x+(1+↑p)) y z,pI (x+↑c) (y+(1+↑q)) z] (pI (x+↑e) (y+↑f) (z+(1+↑g))))=[]:=by unfold E7;split<;>rfl
 rw[e0] at Z;exact Z
end
def YZ(s:Sd):Prop:=∃v I,(∃p c q e f g:Nat,(p<3/\c<2/\q<3)/\(e<3/\f<3/\g<3)/\I=G7 (Gj p c q e f g))/\FC v/\mO v I s
theorem Ma{s:Sd}(h:YZ s):Fy s:=by
 obtain⟨v,I,C,h⟩:=h;exact⟨v,I,.inr (.inr C),h⟩
def J1(L:List (List Pt)):Prop:=∃x y T,(0<=x/\x<2)/\(0<=y/\y<2)/\M4 T/\L=C5 x y T
theorem r7{T:List (List PI)}(h:M4 T):(1<=A1 T/\A1 T<=10)/\∀i,i<A1 T->A1 (A0 T i [])<=10:=by
 have g:∀T,T∈MW->(decide (1<=A1 T/\A1 T<=10)&&T.all λs=>decide (A1 s<=10))=true:=λT C=>Bb.1 (show(MW.all λT=>decide (1<=A1 T/\A1 T<=10)&&T.all λs=>decide (A1 s<=10))=true by decide) T C
 rcases h with h|⟨a,b,c,_,rfl⟩
 · have:=g T h
   rw[Ap,CE] at this;exact⟨this.1,λi hi=>JY (Bb.1 this.2 _ (kX hi))⟩
 · refine⟨⟨show 1<=1 by decide,show 1<=10 by decide⟩,λi hi=>?_⟩
   have:i=0:=by have:i<1:=hi;omega
   subst this
   show 3<=10;decide
theorem ku{L:List (List Pt)}(h:J1 L){z a:Int}(hz:0<=z/\z<2)(ha:0<=a/\a<2):((∀s,s∈L->bG s)/\Ct L (z:Rat) ((z+1+a:Int):Rat)=0/\CF (Dt L (z:Rat) ((z+1+a:Int):Rat)))/\Fy (Df L (z:Rat) ((z+1+a:Int):Rat),Cg L (z:Rat) ((z+1+a:Int):Rat),[]):=by
 obtain⟨x,y,T,hx,hy,H,rfl⟩:=h;have hh:1+a=1\/1+a=2:=by omega
 obtain⟨h1,h2⟩:=W3 H hh;obtain⟨⟨h3,M⟩,U⟩:=U9 h2;have C:=r7 H;have D:=lh (x:=x) (y:=y) (z:=z) C h1 A3 h3;rw[show z+1+a=z+(1+a) by omega];refine⟨D,(x,y,z),_,.inr (.inl ⟨T,_,H,hh,I⟩),⟨by show -1000<=x/\x<=1000;omega,by show -1000<=y/\y<=1000;omega,by show -1000<=z/\z<=1000;omega⟩,?_⟩;have J:=TY (Yt (x:=x) (y:=y) (z:=z) (h:=1+a) ⟨C.1.2,C.2⟩) h3 M;have e0:E7 (Dt (C5 x y T) (z:Rat) ((z+(1+a):Int):Rat))=[]:=by unfold E7;split<;>rfl
 unfold Df Cg;rw[AC D.2.1,AC D.2.1];rw[e0] at J;exact J
def aO(x y:Int):List Int->List Pt
  |a::b::l=>T3.mk ((x+a:Int):Rat) ((y+b:Int):Rat) (0:Rat)::aO x y l
  |_=>[]
theorem jv{x y:Int}{l:List Int}{u:Nat}{D:List Pt}(hD:D++aO x y (l.drop (2*u))=aO x y l)(h:2*u+1<A1 l):(D++[T3.mk ((x+A0 l (2*u) 0:Int):Rat) ((y+A0 l (2*u+1) 0:Int):Rat) (0:Rat)])++aO x y (l.drop (2*(u+1)))=aO x y l:=by
 rw[<-hD,Ck]
 congr 1
 rw[show l.drop (2*u)=A0 l (2*u) 0::A0 l (2*u+1) 0::l.drop (2*(u+1)) by
  rw[JB A3,JB A3,Au,Au,BV A3,BV A3]
  rfl]
 rfl
theorem dr{x y:Int}{l:List Int}{u:Nat}{D:List Pt}(hD:D++aO x y (l.drop (2*u))=aO x y l)(h:¬2*u+1<A1 l):D=aO x y l:=by
 have e:aO x y (l.drop (2*u))=[]:=by
  have C:A1 (l.drop (2*u))<=1:=by rw[Cn];omega
  match l.drop (2*u),C with
  |[],_=>rfl
  |[_],_=>rfl
 rw[<-hD,e,Ce]
section
variable {x y:Int}(hx:0<=x/\x<2)(hy:0<=y/\y<2)
include hx hy
theorem Kv:J1 [aO x y [0,0,2,0,2,1,1,1,1,2,0,2]]:=⟨x,y,_,hx,hy,.inl (.head _),rfl⟩
theorem LR:J1 [aO x y [0,0,3,0,3,3,0,3],aO x y [1,1,1,2,2,2,2,1]]:=⟨x,y,_,hx,hy,.inl (.tail _ (.head _)),rfl⟩
theorem Lg:J1 [aO x y [0,0,3,0,3,3,0,3],aO x y [1,1,0,0,1,2]]:=⟨x,y,_,hx,hy,.inl (.tail _ (.tail _ (.head _))),rfl⟩
theorem Kr:J1 [aO x y [0,0,1,0,2,0,2,2,0,1]]:=⟨x,y,_,hx,hy,.inl (.tail _ (.tail _ (.tail _ (.head _)))),rfl⟩
theorem L3{a b c:Int}(ha:0<=a/\a<3)(hb:0<=b/\b<2)(hc:0<=c/\c<2):J1 [aO x y [0,0,1+a,0,b,1+c]]:=by
 obtain⟨a,H,rfl⟩:=E9 (n:=3) ha;obtain⟨b,D,rfl⟩:=E9 (n:=2) hb;obtain⟨c,C,rfl⟩:=E9 (n:=2) hc;exact⟨x,y,_,hx,hy,.inr ⟨a,b,c,⟨H,D,C⟩,I⟩,by
  unfold Lu;rw[show((1+a:Nat):Int)=1+(a:Int) by omega,show((1+c:Nat):Int)=1+(c:Int) by omega]
  rfl⟩
end
end Bk
namespace Go.Proofs.YtlpflnindligbaaGreat
open Bk Go Tryz
attribute [local irreducible] GL GC GQ W OpV
set_option maxHeartbeats 1000000 in
theorem km{w0 w:AP}{h0 h:A4}{b k:Nat}{vl:A2}{xs:List Int}(hl:Is h vl xs)(hk:k<=A1 xs){L:List AG}(hs:St w0 h0 (.var b 80 [vl,vI ↑k]::L) h w):
 Calls prog 46 #[vP b 0] w (Im w0 h0 h L (λg r q'=>∃k':Nat,∃m:Sq,q'=.var b 80 [vl,vI ↑k']/\k'<=A1 xs/\Fy m/\(BT 2 2 2 1).Is g r m)):=by
 have ce:=hl.lt63;refine jZ (n:=39) (e:=[(0,vP b 0)]) (vs:=[vP b 0]) func46 rfl rfl (bL rfl) hs ⟨rfl,AW⟩ (A5 ?_);refine nA (ρ:=(BT 1 1 1 1)) (X:=([],([],[]))) qS (zW wC (zW wC wC)) λb2 dq bq=>(AR ?_);refine xJ (A:=[_]) (vs:=[_,vI (3)]) call14 Al (λX w hs=>uC hl CK O O hs) I ?_;intro v9 g9 q9 bz bu;obtain⟨k9,Z,rfl,di,rfl,bs,bt⟩:=bu;refine A7 ?_;refine xJ (A:=[_]) (vs:=[_,vI (3)]) call14 Al (λX w hs=>uC hl.up CK O O hs) I ?_;intro cu dn db bn bh;obtain⟨dh,D,rfl,cj,rfl,ax,bc⟩:=bh;refine A7 ?_;refine xJ (A:=[_]) (vs:=[_,vI (3)]) call14 Al (λX w hs=>uC hl.up CK O O hs) I ?_;intro ct dm da bm bg;obtain⟨df,C,rfl,ci,rfl,aw,bb⟩:=bg;refine vV ?_;refine cL (BM I I I) call45 (λw hs=>rB hs O O O O O O) λcq h1 bx am=>?_;replace am:=Rp.Is.cast (y:=(pI Z D C)) am B5;refine AN ?_;refine xJ (A:=[_]) (vs:=[_,vI (2)]) call14 Al (λX w hs=>uC hl.up CK O O hs) I ?_;intro cp dl cz bl bf;obtain⟨de,U,rfl,ch,rfl,av,ba⟩:=bf;refine AF ?_;refine xJ (A:=[_]) (vs:=[_,vI (2)]) call14 Al (λX w hs=>uC hl.up CK O O hs) I ?_;intro co dk cy bk be;obtain⟨dd,M,rfl,cg,rfl,au,az⟩:=be;refine AF ?_;refine xJ (A:=[_]) (vs:=[_,vI (2)]) call14 Al (λX w hs=>uC hl.up CK O O hs) I ?_;intro cn dj cw bj bd;obtain⟨dc,J,rfl,cf,rfl,ar,ay⟩:=bd;refine A7 ?_;refine cL (BM I I I) call45 (λw hs=>rB hs O O O O O O) λcm h2 bw ak=>?_;replace ak:=Rp.Is.cast (y:=(pI (Z+1+U) (D+1+M) (C+1+J))) ak B5;refine uS (vs:=[_,_]) I I I I call44 Al (λw hs=>Uz hs am.up ak dC dC (by first|omega|exactλe=>Tz e)) ?_;intro cl h3 dr bv ab;obtain⟨cv,cc,bo,rfl,ab,rfl,cd,H⟩:=ab
 change RL (BP (10000*2+10000*2+20000) (10000*2+10000*2+20000)) h3 bo (G5 (pI Z D C) (pI (Z+1+U) (D+1+M) (C+1+J))) at H
 replace ab:=Rp.Is.le ab (Le.p (Le.s (AI 48)) (Le.refl _));replace H:=(Le.p (Le.p (AI 60000) (AL 60000)) (Le.refl _)).rl H;refine AN ?_;refine nA (ρ:=(A6 (Aq 1) (A6 Az (AS (A6 A9 (A6 A9 (AE 1))))))) (X:=([],((A2.slice none 0 0),[]))) qS (zW wC (zW fG wC)) λb6 dp bp=>?_;have an:=(Le.p (Le.s (AI 48)) (Le.p (Le.refl _) (Le.s (Le.p (Le.refl _) (Le.p (Le.refl _) (AL 6)))))).R bp;refine zP (A:=[]) (uB sizeOf32 pH an ab) λac aa=>(AR ?_);refine zQ (A:=[_]) (ρ:=(BP 60000 60000)) H ?_;intro h4 bi ao;replace aa:=aa.mono bi;have aq:(BT 48 60000 60000 6).R h4 ac (IC (pI Z D C) (pI (Z+1+U) (D+1+M) (C+1+J)),(G5 (pI Z D C) (pI (Z+1+U) (D+1+M) (C+1+J)),[])):=Fr aa ao;have ap:(BT 48 60000 60000 6).R h4 ac (Cw (pI Z D C) (pI (Z+1+U) (D+1+M) (C+1+J))):=Rp.castR aq B5
 let eX0:=(qs ⟨bs,bt⟩ ⟨ax,bc⟩ ⟨aw,bb⟩ ⟨av,ba⟩ ⟨au,az⟩ ⟨ar,ay⟩)
 have aj:(BT 2 2 2 1).R h4 ac (Cw (pI Z D C) (pI (Z+1+U) (D+1+M) (C+1+J))):=OX ap (w7 eX0).2;refine lX (xB jG pH aj) λck br=>?_;have ae:=(Le.p (Le.s (AI 2)) (Le.p (Le.s (Le.p (Le.p (AI 2) (AL 2)) (Le.refl _))) (Le.refl _))).R bq;refine zP (A:=[_]) (uB sizeOf32 pH ae br) λca ai=>(AN ?_);refine xW (qV (t:=2) jG Ax I ai) ?_;intro cb ad ah;refine bP (λE S=>zS I ad E S) ?_;exact⟨_,(.cons _ (.cons _ (EU _))),(((((((((bz.trans bn).trans bm).trans bx).trans bl).trans bk).trans bj).trans bw).trans bv).trans bi),_,_,I,A3,eX0,ah⟩
theorem hw{w0:AP}{h0:A4}(hs:MLe h0 (BE w0)){k l m:Nat}{va:A2}{a:Tq}(ra:(AD k).Is h0 va a){vb:A2}{b:Tq}(rb:(AD l).Is h0 vb b){vc:A2}{c:Tq}(rc:(AD m).Is h0 vc c)(H0:k<=100000000)(H1:l<=100000000)(H2:m<=100000000):
 Ae 75 #[va,vb,vc] w0 h0 (λh r=>(AE (3*k+6*l+6*m+18)).Is h r (FF a b c)):=by
 refine Cs 12 va vb vc func75 hs ?_;refine A5 ?_;refine nB ra λb3 ap ab=>(nB rb λb4 ao aa=>(nB rc λb5 an Z=>(nA (ρ:=(AE 1)) (X:=(0:Rat)) yQ (zR dC) λb6 am U=>(AN ?_))));refine zG 5 _ [] [(0,.q),(1,.q),(2,.q),(3,.c),(4,.c),(5,.t)] zX nX Ac nX (λr hr=>hr) (wX I (xB zI pH ab) λv7 r7=>(wX I (xB zI pH aa) λv8 r8=>(wX I (xB zI pH Z) λv9 r9=>?_)));refine AB I (sC (AK I I) call78 (λw hs=>Y9 hs r8 r9 O) λai h1 ak ac=>?_);refine AB I (sC (AK I I) call93 (λw hs=>dY hs r7.up ac O) λah h2 aj C=>?_);replace C:=Rp.Is.le C (AL (3*k+6*l+6*m+18));have H:=(AL (3*k+6*l+6*m+18)).R U;refine yD (A:=[]) I (uB sizeOf41 pH H C) λad M=>(AN ?_);refine xW (qV (t:=6) zU Ar I M) ?_;intro ae D J;refine yI (λE S=>zS I D E S) ?_;exact J
theorem oc{w0:AP}{h0:A4}(hs:MLe h0 (BE w0)){k n m:Nat}{vl:A2}{l:(List Tq)}(rl:(Aq k).Is h0 vl l){vs:A2}{s:Pq}(rs:(Aj n m).Is h0 vs s)(H0:k<=10000000)(H1:m<=10000000)(H2:n<=1000000)(H3:A1 l<=100000):
 Ae 28 #[vl,vs] w0 h0 (λ_ r=>r=vB (IV s l)):=by
 have df:=x7 s.1;refine B0 73 vl vs func28 hs ?_;refine A5 ?_;refine nB rs λb3 aa ad=>(rX ?_)
 let eX3:=(↑(A1 (l)):Int)
 refine uH (ι:=A4) 5 (λm_=>MLe h0 m_) (λ_=>[(20,vB ((eX3<(3:Int))\/(s.1=zT))),(0,vl),(3,vP b3 0),(5,vI eX3)]) (λ_=>[.var b3 45 aa]) (λm_=>m_) ?_ ?_
 ·
  refine zY (eX3<(3:Int)) (λhg=>?_) (λhg=>?_)
  ·
   refine gT hg I (AR ?_);refine zV h0 (MLe.refl _) ⟨?_,I,I,I,AW⟩ I I;exact AV (vN hg)
  refine gF hg I (AN ?_);refine lX (xB zI (AT pH) ad) λcw bu=>(A7 ?_);refine cL (AU I) call72 (λw hs=>Q3 hs bu O) λba h1 aj bt=>?_;obtain rfl:ba=vB (s.1=zT):=bt;refine A5 ?_;refine zV h1 aj ⟨?_,I,I,I,AW⟩ I I;exact AV (vO hg)
 intro J ao;refine fM ?_;refine BB (λD=>?_) λD=>?_
 ·
  refine Af ?_;refine zC I I ?_;exact(yH (λe=>D.elim (λh=>by have:=e.1.1;omega) (λh=>e.1.2 h))).symm
 have hN:¬s.1=zT:=λe=>D (.inr e);have h3:3<=A1 l:=by have h:=D;omega
 refine Ak ?_;refine An (ι:=Nat×A4) (λ(i,ma)=>(MLe J ma/\(i<=A1 l/\∀u,u<i->B7 s (gp l u)=0),[(0,vl),(3,vP b3 0),(5,vI eX3),(6,vI ↑i)],[.var b3 45 aa],ma,A1 l-i)) (0,J) ?_ ?_
 · exact⟨AM,A3,λu h=>by omega⟩
 rintro⟨i,ma⟩ ⟨cb,db,BA⟩
 refine yO ?_;refine DU (λav=>?_) λav=>?_
 ·
  refine AR ?_;refine zG 7 _ [] (Ah 0 5 [(5,.c),(6,.q)]) zX nX Ac nX (λr hr=>hr) (wX I (xB qZ pH ad) λcv bs=>(A5 ?_));refine wX I (xI zT i underlying28 zI rl) λcu br=>(wX I (xA zI br) λct bq=>?_);refine AB I (sC (AK I I) call73 (λw hs=>YV hs bs bq O O O) λaz h1 aj bp=>?_);obtain rfl:az=vI (B7 s (A0 l i zT)):=bp;have bw:=sV s (A0 l i zT);refine B4 (λU=>?_) λU=>?_
  ·
   refine uG ?_;refine zC I I ?_;exact(yH (λe=>U (e.2.1 i O))).symm
  refine AX ?_;refine Ad ((i+1),h1) ?_ ?_
  · exact⟨AM,A3,wZ (Q:=λu=>B7 s (gp l u)=0) BA (Br U)⟩
  omega
 have hS:∀u,u<A1 l->B7 s (gp l u)=0:=λu hu=>BA u O;refine uF ?_;refine An (ι:=Nat×A4) (λ(i,mb)=>(MLe ma mb/\(i<=A1 l/\∀u,u<i->∀C,2<=C->C<A1 l->0<Ai (CL s (gp l u)) (CL s (nx l u)) (CL s (gp l ((u+C)%A1 l)))),[(0,vl),(3,vP b3 0),(5,vI eX3),(7,vI ↑i)],[.var b3 45 aa],mb,A1 l-i)) (0,ma) ?_ ?_
 · exact⟨AM,A3,λu h=>by omega⟩
 rintro⟨i,mb⟩ ⟨ca,da,aq⟩
 refine yO ?_;refine DU (λau=>?_) λau=>?_
 ·
  refine AR ?_
  let eX0:List A2:=Em
  refine zG 15 _ [(11,(8,43,eX0)),(12,(9,43,eX0))] (Ah 0 11 [(11,.a),(12,.a),(13,.c),(14,.c)]) zX (uY.cons I I (vG yA I I) (uY.cons I I (vG yA I I) uY.nil)) (xU Ac) (vH I I (vH I I qT)) (λr hr=>hr) (A5 ?_);refine wX I (xI zT i underlying28 zI rl) λcq bo=>(wX I (xA zI bo) λcp bn=>(AF ?_))
  let eX4:=((i+1)%A1 l)
  refine wK I (λ_ _=>wI I I O O) I (wX I (xI zT eX4 underlying28 zI rl (hi:=by exact BQ _ O)) λco bm=>(wX I (xA zI bm) λcn bl=>?_));refine CA I I (λb8=>?_);have bc:(AD (k+1)).R mb eX0 zT:=(yN (zR O));refine CA I I (λb9=>?_);have bb:(AD (k+1)).R mb eX0 zT:=(yN (zR O));refine AB I (kB (A:=[_]) (uB sizeOf43 pH bc (bn.le (AI (k+1)))) (yP BU) λax ab=>?_);refine AB I (kB (A:=[]) (uB sizeOf43 pH bb (bl.le (AI (k+1)))) (yP BU) λaw am=>(AX ?_));refine An (ι:=Nat×A4) (λ(q,mq)=>(MLe mb mq/\((2<=q/\q<=A1 l)/\∀C,2<=C->C<q->0<Ai (CL s (gp l i)) (CL s (nx l i)) (CL s (gp l ((i+C)%A1 l)))),[(0,vl),(3,vP b3 0),(5,vI eX3),(7,vI ↑i),(8,vP b8 0),(9,vP b9 0),(10,vI ↑q)],[.var b9 43 aw,.var b8 43 ax,.var b3 45 aa],mq,A1 l-q)) (2,mb) ?_ ?_
  · exact⟨AM,⟨A3,A3⟩,λC H Z=>by omega⟩
  rintro⟨q,mq⟩ ⟨bz,⟨cz,cy⟩,ap⟩
  refine yO ?_;refine DU (λar=>?_) λar=>?_
  ·
   refine uG ?_
   let eX2:=((i+q)%A1 l)
   refine gv (wI I I O O) I (lX (xI zT eX2 underlying28 zI rl (hi:=by exact BQ _ O)) λcm bk=>(lX (xA zI bk) λcl bj=>(nA (ρ:=(AD (k+1))) (X:=zT) yA (yN (zR O)) λdh cc an=>(zP (A:=[]) (uB sizeOf43 pH an (bj.le (AI (k+1)))) λbx ac=>(AN ?_)))));refine zG 11 _ [] [(0,.q),(1,.q),(3,.q),(4,.q),(6,.q),(7,.q),(2,.c),(5,.c),(8,.c),(9,.c),(10,.q)] zX nX Ac nX (λr hr=>hr) (wX I (xB zI pH am) λck bi=>(wX I (xB zI pH ab) λcj bh=>(wX I (xB zI pH ac) λch bg=>(wX I (xB zI pH ab) λcg bf=>(A7 ?_)))));refine wX I (xB zI (AT pH) ad) λce be=>?_;refine AB I (sC (AK I I) call76 (λw hs=>MK hs bi bh O) λci h1 aj ai=>?_);replace ai:=Rp.Is.le ai (AI (2*k+3));refine AB I (sC (AK I I) call76 (λw hs=>MK hs bg.up bf.up O) λcf h2 de ah=>?_);replace ah:=Rp.Is.le ah (AI (2*k+3));refine AB I (sC (BM I I I) call75 (λw hs=>hw hs ai.up ah be.up O O O) λcd h3 dd ae=>?_);replace ae:=Rp.Is.le ae (AL (18*k+6*n+45));refine AB I (sC (AU I) call74 (λw hs=>qA hs ae O) λay h4 dc bd=>?_)
   let eX1:=(FF (T3.mk ((A0 l eX4 zT).x-(A0 l i zT).x) ((A0 l eX4 zT).y-(A0 l i zT).y) ((A0 l eX4 zT).z-(A0 l i zT).z)) (T3.mk ((A0 l eX2 zT).x-(A0 l i zT).x) ((A0 l eX2 zT).y-(A0 l i zT).y) ((A0 l eX2 zT).z-(A0 l i zT).z)) s.1)
   obtain rfl:ay=vI (yK eX1):=bd;have bv:=yZ eX1;refine B4 (λM=>?_) λM=>?_
   ·
    have ak:¬0<Ai (CL s (gp l i)) (CL s (nx l i)) (CL s (gp l eX2)):=(Ur hN (hS i O) (hS eX4 (BQ _ O)) (hS eX2 (BQ _ O))).1 M;refine rX ?_;refine zC I I ?_;exact(yH (λe=>ak (e.2.2 i q O O O))).symm
   have ak:0<Ai (CL s (gp l i)) (CL s (nx l i)) (CL s (gp l eX2)):=Br (λe=>M ((Ur hN (hS i O) (hS eX4 (BQ _ O)) (hS eX2 (BQ _ O))).2 e));refine AX ?_;refine yE (A:=[]) ?_;refine Ad ((q+1),h4) ?_ ?_
   · exact⟨AM,⟨A3,A3⟩,λC H Z=>by rcases Dp.1 Z with e|e;exact ap C H e;subst e;exact ak⟩
   omega
  refine uG ?_;refine yE (A:=[]) (yE (A:=[]) ?_);refine Ad ((i+1),mq) ?_ ?_
  · exact⟨AM,A3,wZ (Q:=λu=>∀C,2<=C->C<A1 l->0<Ai (CL s (gp l u)) (CL s (nx l u)) (CL s (gp l ((u+C)%A1 l)))) aq (λC H Z=>ap C H O)⟩
  omega
 have hE:∀u C,u<A1 l->2<=C->C<A1 l->0<Ai (CL s (gp l u)) (CL s (nx l u)) (CL s (gp l ((u+C)%A1 l))):=λu C hu H Z=>aq u O C H Z;refine uG ?_;refine zC I I ?_;exact(yU ⟨⟨h3,hN⟩,hS,hE⟩).symm
set_option maxHeartbeats 1000000 in
theorem jj{w0:AP}{h0:A4}(hs:MLe h0 (BE w0)){k:Nat}{vl:A2}{l:(List Tq)}(rl:(Aq k).Is h0 vl l){vt:A2}{t:Tq}(rt:(AD k).Is h0 vt t)(H0:k<=10)(H1:PA l t):
 Calls prog 57 #[vl,vt] w0 (gV w0 h0 (λh r L_=>∃u0 vF cs,r=.tuple #[u0,vI 0]/\(A6 (Aq (k+2)) (A6 Az (AS (A6 A9 (A6 A9 (AE 6)))))).Is h u0 (Di (DY l t),(vF,[]))/\L_=[.gs 53 14 vF (A1 (Cb (DY l t))) cs]/\vF.oneCell'=true/\RL (BP (1000*k+5000) (1000*k+5000)) h cs (Cb (DY l t)))):=by
 have iy:=H1.1.1;obtain⟨jf,gi⟩:=Kw H1.1.2;refine B0 113 vl vt func57 hs ?_;refine A5 ?_;refine nB rt λb3 dh cw=>(nA (ρ:=(A6 (Aq 1) (A6 Az (AS (A6 A9 (A6 A9 (AE 1))))))) (X:=([],((A2.slice none 0 0),[]))) qS (zW wC (zW fG wC)) λb4 df fb=>(nH ?_));refine Bq (λbl=>?_) λbl=>?_
 · exact absurd bl O
 refine Bj (λbk=>?_) λbk=>?_
 · exact absurd bk O
 refine AN ?_;refine zG 16 _ [(13,(7,45,[.bool false,.slice none 0 0,.slice none 0 0,.bool false,.slice none 0 0,.slice none 0 0,.bool false,.slice none 0 0,.slice none 0 0,.bool false,.slice none 0 0,.slice none 0 0]))] (Ah 0 9 [(9,.c),(10,.q),(11,.q),(12,.q),(13,.a),(14,.c),(15,.q)]) zX (uY.cons I I (vG uV I I) uY.nil) (xU Ac) (vH I I qT) (λr hr=>hr) (A7 ?_);refine fL (F:=λv_=>C4 (AD k) h0 v_ (A0 l 0 zT)) I (kW (q:=0) zT 0 underlying28 zI I I rl I O nP) rW I ?_;intro im ga;refine wX I (xA zI ga) λil fz=>(A7 ?_);refine fL (F:=λv_=>C4 (AD k) h0 v_ (A0 l 1 zT)) I (kW (q:=1) zT 1 underlying28 zI I I rl I O nP) rW I ?_;intro ik fy;refine wX I (xA zI fy) λij fx=>(A7 ?_);refine fL (F:=λv_=>C4 (AD k) h0 v_ (A0 l 2 zT)) I (kW (q:=2) zT 2 underlying28 zI I I rl I O nP) rW I ?_;intro ii fw;refine wX I (xA zI fw) λih fv=>?_;refine AB I (sC (BM I I I) call113 (λw hs=>UI hs fz fx fv O) λig h1 jc fu=>?_);obtain⟨bp,rfl,az⟩:=fu
 change (Aj (50*k+200) (200*k+900)).Is h1 bp (CU (A0 l 0 zT) (A0 l 1 zT) (A0 l 2 zT)) at az
 refine AN ?_;refine CA I I (λb7=>?_);have ez:(Aj 1 1).R h1 [.bool false,.slice none 0 0,.slice none 0 0,.bool false,.slice none 0 0,.slice none 0 0,.bool false,.slice none 0 0,.slice none 0 0,.bool false,.slice none 0 0,.slice none 0 0] (zT,(0:Rat)):=(zW (yN (zR dC)) (zR dC));refine AB I ?_;have dj:=(Le.p (AI (50*k+200)) (AL (200*k+900))).R ez;refine kB (A:=[]) (uB sizeOf45 pH dj az) (yP BU) λbb ax=>(Af ?_);refine gv (OpV.fa (by rw[gi];exactλe=>e I) (dS (q:=0) I I)) I (AF ?_);refine lX (xB qZ pH ax) λie ft=>(A7 ?_);refine cL (AK I I) call28 (λw hs=>oc hs rl.up ft O O O (by first|omega|exact H1.2.1.1)) λey h2 jb fs=>?_;obtain rfl:ey=vB (IV (CU (A0 l 0 zT) (A0 l 1 zT) (A0 l 2 zT)) l):=fs;refine AN ?_;refine uH (ι:=A4) 6 (λm_=>MLe h2 m_) (λ_=>[(49,vB ((¬(IV (CU (A0 l 0 zT) (A0 l 1 zT) (A0 l 2 zT)) l))\/((B7 (CU (A0 l 0 zT) (A0 l 1 zT) (A0 l 2 zT)) t)<=(0:Int)))),(0,vl),(3,vP b3 0),(4,vP b4 0),(6,vI (↑(A1 (l)):Int)),(7,vP b7 0)]) (λ_=>[.var b7 45 bb,.var b4 32 df,.var b3 43 dh]) (λm_=>m_) ?_ ?_
 ·
  refine zY (¬(IV (CU (A0 l 0 zT) (A0 l 1 zT) (A0 l 2 zT)) l)) (λhg=>?_) (λhg=>?_)
  ·
   refine gT hg I (AZ ?_);refine zV h2 (MLe.refl _) ⟨?_,I,I,I,I,I,AW⟩ I I;exact AV (vN hg)
  refine gF hg I (A7 ?_);refine lX (xB qZ pH ax) λid fr=>(A7 ?_);refine lX (xB zI pH cw) λic fq=>(A7 ?_);refine cL (AK I I) call73 (λw hs=>YV hs fr fq O O O) λew h3 ac fp=>?_;obtain rfl:ew=vI (B7 (CU (A0 l 0 zT) (A0 l 1 zT) (A0 l 2 zT)) t):=fp;have gf:=sV (CU (A0 l 0 zT) (A0 l 1 zT) (A0 l 2 zT)) t;refine AF ?_;refine zV h3 ac ⟨?_,I,I,I,I,I,AW⟩ I I;exact AV (vO hg)
 intro ah ed;refine fM ?_;refine BB (λbj=>?_) λbj=>?_
 ·
  rcases bj with e|e
  exact absurd H1.2.1.1 e;have:=H1.2.1.2;omega
 refine A5 ?_;refine jD (ι:=Nat×List A2×A4) (λ(D,M,mc)=>MLe ah mc/\((A6 (Aq (k+1)) (A6 Az (AS (A6 A9 (A6 A9 (AE 1)))))).R mc M ((l++[t]),((A2.slice none 0 0),([]:List En)))/\True)) (λ(D,M,mc)=>[(0,vl),(3,vP b3 0),(4,vP b4 0),(6,vI (↑(A1 (l)):Int)),(7,vP b7 0),(9,vP D 0)]) (λ(D,M,mc)=>[.var D 32 M,.var b7 45 bb,.var b4 32 df,.var b3 43 dh]) (λ(D,M,mc)=>mc) ?_ ?_
 ·
  refine zG 7 _ [(6,(9,32,[.slice none 0 0,.slice none 0 0,.slice none 0 0]))] [(0,.q),(2,.q),(1,.b 3),(4,.c),(5,.c),(6,.a),(7,.t)] zX (uY.cons I I (vG qS I I) uY.nil) Ac (vH I I qT) (λr hr=>hr) (A7 ?_);refine wX I (xB zI pH cw) λib du=>?_;refine u7 I I ?_ ?_
  ·
   refine dM 43 9 ?_;have dl:=RL.nil (ρ:=Bd (AE k)) (h:=ah);refine kP (A:=[]) (λX=>uD (zN (ρ:=(AD k)) (bytes:=168) underlying28 yA I I I I nP I I dl rl.up bO bO)) I (yP BU) ?_
   rintro ev ge ⟨ec,en,rfl,H⟩
   refine tV (λX=>zL (ρ:=(AD (k+1))) (m:=1) (xs:=[t]) (ps':=[(0,_)]) underlying28 yA I I I (yN (zR O)) Al (zD I (AO (AA _) zT 0 dC) (du.le (AI (k+1))) zO) Dm nP) I ?_;intro eu gc ea;obtain⟨em,rfl,aw⟩:=ea;refine AB I (vX (A:=[]) (ρ:=(AD (k+1))) aw dK ?_);intro h3 ac dk;replace H:=H.mono ac;have di:=(AI (k+1)).rl H;refine kP (A:=[]) (λX=>uD (zN (ρ:=(AD (k+1))) (bytes:=168) underlying28 yA I I I I nP I I di dk bO bO)) I (yP BU) ?_
   rintro es gb ⟨eb,el,rfl,av⟩
   refine AB I (vX (A:=[]) (ρ:=(AD (k+1))) av dK ?_);intro h4 aj cf;refine sX (xV (ρ:=(A6 (Aq (k+1)) (A6 Az (AS (A6 A9 (A6 A9 (AE 1))))))) (xL (ps':=[(0,_)]) underlying32 qS I I (pJ underlying32) Al I (zW wC (zW fG wC)) (zD I (AT (AA _)) cf zO))) λer cy=>?_;refine CA I I (λb9=>?_);have cv:(A6 (Aq 1) (A6 Az (AS (A6 A9 (A6 A9 (AE 1)))))).R h4 [.slice none 0 0,.slice none 0 0,.slice none 0 0] ([],((A2.slice none 0 0),[])):=(zW wC (zW fG wC));have bu:=(Le.p (Le.s (AI (k+1))) (Le.refl _)).R cv;refine yD (A:=[]) I (uB sizeOf32 pH bu cy) λde cu=>(A7 ?_);refine zV (b9,de,h4) ?_ e6 I I;refine⟨(ac.trans aj),?_⟩;refine⟨cu,?_⟩
   trivial
  refine tV (λX=>zL (ρ:=(AD (k+1))) (m:=1) (xs:=[t]) (ps':=[(0,_)]) underlying28 yA I I I (yN (zR O)) Al (zD I (AO (AA _) zT 0 dC) (du.le (AI (k+1))) zO) Dm nP) I ?_
  rintro eu gc ⟨em,rfl,aw⟩
  refine dM 43 9 ?_;have cj:=RL.nil (ρ:=Bd (AE k)) (h:=ah);refine kP (A:=[]) (λX=>uD (zN (ρ:=(AD k)) (bytes:=168) underlying28 yA I I I I nP I I cj rl.up bO bO)) I (yP BU) ?_
  rintro ev ge ⟨ec,en,rfl,H⟩
  refine AB I (vX (A:=[_]) (ρ:=(AD (k+1))) aw dK ?_);intro h3 ac ce;replace H:=H.mono ac;have bt:=(AI (k+1)).rl H;refine kP (A:=[]) (λX=>uD (zN (ρ:=(AD (k+1))) (bytes:=168) underlying28 yA I I I I nP I I bt ce bO bO)) I (yP BU) ?_
  rintro es gb ⟨eb,el,rfl,av⟩
  refine AB I (vX (A:=[]) (ρ:=(AD (k+1))) av dK ?_);intro h4 aj cd;refine sX (xV (ρ:=(A6 (Aq (k+1)) (A6 Az (AS (A6 A9 (A6 A9 (AE 1))))))) (xL (ps':=[(0,_)]) underlying32 qS I I (pJ underlying32) Al I (zW wC (zW fG wC)) (zD I (AT (AA _)) cd zO))) λer cy=>?_;refine CA I I (λb9=>?_);have cv:(A6 (Aq 1) (A6 Az (AS (A6 A9 (A6 A9 (AE 1)))))).R h4 [.slice none 0 0,.slice none 0 0,.slice none 0 0] ([],((A2.slice none 0 0),[])):=(zW wC (zW fG wC));have bs:=(Le.p (Le.s (AI (k+1))) (Le.refl _)).R cv;refine yD (A:=[]) I (uB sizeOf32 pH bs cy) λdd ct=>(A7 ?_);refine zV (b9,dd,h4) ?_ e6 I I;refine⟨(ac.trans aj),?_⟩;refine⟨ct,?_⟩
  trivial
 rintro⟨D,M,mc⟩ ⟨hd,bi⟩
 refine yO ?_;obtain⟨dr,bi⟩:=bi;refine uF ?_;refine yX 3 1 ?_;have ci:=RL.nil (ρ:=A9) (h:=mc);refine yX 53 14 ?_;have ch:=RL.nil (ρ:=A6 (Aj (150*k+700) (200*k+901)) (A6 Cv wQ)) (h:=mc);refine An (ι:=Nat×List Int×List Fc×List A2×A2×List A2×A2×List A2×A4) (λ(i,LN,FF,an,U,am,C,ak,ma)=>(MLe mc ma/\((A6 (Aq (k+1)) (A6 Az (AS (A6 A9 (A6 A9 (AE 1)))))).R ma an ((l++[t]),(C,([]:List En)))/\RL A9 ma am LN/\RL (BP (150*k+700) (200*k+901)) ma ak FF/\C.oneCell'=true/\i<=A1 l/\LN=Z4 (A1 l) i/\FF=YJ l t i),[(0,vl),(3,vP b3 0),(4,vP b4 0),(6,vI (↑(A1 (l)):Int)),(7,vP b7 0),(9,vP D 0),(10,U),(11,vI ↑i)],[.gs 53 14 C (A1 FF) ak,.gs 3 1 U (A1 LN) am,.var D 32 an,.var b7 45 bb,.var b4 32 df,.var b3 43 dh],ma,A1 l-i)) (0,[],[],M,(.slice none 0 0),[],(.slice none 0 0),[],mc) ?_ ?_
 · exact⟨AM,dr,ci,ch,I,A3,I,I⟩
 rintro⟨i,LN,FF,an,U,am,C,ak,ma⟩ ⟨he,aa,au,ar,gg,iz,bf,bg⟩
 refine yO ?_;have jd:A1 LN=i:=by rw[bf];exact xN _ _
 have je:A1 FF=i:=by rw[bg];exact xN _ _
 refine DU (λef=>?_) λef=>?_
 ·
  have iv:=cR (((i:Int):Int):Rat);have iw:=mP (i:Int) O O;have ix:=Int.emod_nonneg ((↑i:Int)+1) (b:=(↑(A1 l):Int)) O;have hc:=Int.emod_lt_of_pos ((↑i:Int)+1) (b:=(↑(A1 l):Int)) O;refine uG ?_;refine zE (zL (ρ:=A9) (m:=1) (xs:=[(((↑(A1 (l)):Int)-(1:Int))-(↑i:Int))]) (ps':=[(0,_)]) underlying22 kT I I I wT Al (zD I (AO (AA _) (0:Int) 0 dC) (vC O O) zO) CO nP) I I I ?_
  rintro ia iu ⟨hj,rfl,dq⟩
  refine zQ (A:=[]) (ρ:=A9) dq ?_;intro h3 ac cc;refine yY (A:=[_]) (uD (zN (ρ:=A9) (bytes:=8) underlying22 kT I I I I nP I I au.up cc bO bO)) I I I ?_
  rintro eq ir ⟨hb,ek,rfl,dp⟩
  refine AX ?_;refine gv (wI I I O O) I (AF ?_);refine zG 16 _ [(13,(13,45,[.bool false,.slice none 0 0,.slice none 0 0,.bool false,.slice none 0 0,.slice none 0 0,.bool false,.slice none 0 0,.slice none 0 0,.bool false,.slice none 0 0,.slice none 0 0]))] (Ah 0 9 [(9,.c),(10,.q),(11,.q),(12,.q),(13,.a),(14,.c),(15,.q)]) zX (uY.cons I I (vG uV I I) uY.nil) (xU Ac) (vH I I qT) (λr hr=>hr) (A5 ?_);refine wX I (xI zT i underlying28 zI rl) λhw fo=>(wX I (xA zI fo) λhv fm=>(A5 ?_));refine wX I (xI zT ((i+1)%A1 l) underlying28 zI rl (hi:=by exact BQ _ O)) λhu fl=>(wX I (xA zI fl) λht fk=>(wX I (xB zI pH cw) λhq fj=>?_));refine AB I (sC (BM I I I) call113 (λw hs=>UI hs fm fk fj O) λhp h4 aj fi=>?_);obtain⟨bo,rfl,ay⟩:=fi
  change (Aj (50*k+200) (200*k+900)).Is h4 bo (CU (A0 l i zT) (A0 l ((i+1)%A1 l) zT) t) at ay
  refine AN ?_;refine CA I I (λjg=>?_);have dt:(Aj 1 1).R h4 [.bool false,.slice none 0 0,.slice none 0 0,.bool false,.slice none 0 0,.slice none 0 0,.bool false,.slice none 0 0,.slice none 0 0,.bool false,.slice none 0 0,.slice none 0 0] (zT,(0:Rat)):=(zW (yN (zR dC)) (zR dC));refine AB I ?_;have br:=(Le.p (AI (50*k+200)) (AL (200*k+900))).R dt;refine kB (A:=[]) (uB sizeOf45 pH br ay) (yP BU) λgk cq=>(AN ?_);refine qM (A:=[_]) 15 [] (Ah 0 6 [(8,.q),(0,.x [10] [6,7] [9,10]),(11,.c),(12,.c),(13,.c),(14,.q),(15,.t)]) zX nX Ac nX (A7 ?_);refine wX I (sR (xB kO (AQ (AT pH)) aa)) λho fh=>?_;subst fh;refine wX I (xB qZ pH cq) λhn fg=>(AF ?_);refine Pz [92,93] [95,96] (λp_ g_=>∃bd bc,p_=[(93,bc),(92,bd)]/\(AS A9).Is g_ bd [(↑i:Int),(((↑i:Int)+(1:Int))%(↑(A1 (l)):Int)),(↑(A1 (l)):Int)]/\Cv.Is g_ bc [[(↑i:Int),(((↑i:Int)+(1:Int))%(↑(A1 (l)):Int)),(↑(A1 (l)):Int)]]) (λp_ g_=>∃bn bm,p_=[(96,bm),(95,bn)]/\wQ.Is g_ bm (([115]:List Nat)++(qF (((↑i:Int):Int):Rat)))) Ac Ac I I ?_ ?_ ?_
  ·
   refine GD I I λh5 ai=>(Ka (λX=>zL (ρ:=A9) (m:=3) (xs:=[(↑i:Int),(((↑i:Int)+(1:Int))%(↑(A1 (l)):Int)),(↑(A1 (l)):Int)]) (ps':=[(0,_),(1,_),(2,_)]) underlying22 kT I I I wT e6 (zD I (AO (AA _) (0:Int) 0 dC) (vC O O) (zD I (AO (AA _) (0:Int) 1 dC) (vC O O) (zD I (AO (AA _) (0:Int) 2 dC) (vC O O) zO))) (show 3*1<=16777216 from by decide) nP) I ?_);intro bd h6 ab aq;refine⟨I,ab,_,_,I,I,?_⟩;refine GD I I λh7 ee=>(Ka (λX=>zL (ρ:=(AS A9)) (m:=1) (xs:=[[(↑i:Int),(((↑i:Int)+(1:Int))%(↑(A1 (l)):Int)),(↑(A1 (l)):Int)]]) (ps':=[(0,_)]) underlying51 sL I I I wC Al (zD I (AO (AA _) [] 0 dC) aq.up zO) CO nP) I ?_);intro bc h8 gh cb;refine⟨I,gh,_,_,I,I,?_⟩;intro h9 ja;exact⟨_,_,I,aq.up,cb.up⟩
  ·
   refine GD I I λh5 ai=>(sC (AU I) call114 (λw hs=>dZ hs O O) λbn h6 ab fe=>?_);obtain⟨rfl,eh⟩:=tJ fe;refine⟨I,ab,_,_,I,I,?_⟩;refine Ld I (MP I (λ_ _=>jL (pa:=([115]:List Nat)) (pb:=(qF (((↑i:Int):Int):Rat))) I I DS) I ?_);refine⟨_,_,I,I,?_⟩;intro h7 ee;exact⟨_,_,I,(fV ((show BK [115] by unfold BK;decide).app eh))⟩
  rintro _ _ h5 ai ⟨bd,bc,rfl,io,ff⟩ ⟨bn,bm,rfl,fd⟩
  obtain⟨rfl,eg⟩:=tJ fd;refine AB I (sX (xV (ρ:=(BP (50*k+200) (200*k+900))) (xL (ps':=[(0,_),(1,_),(2,_)]) underlying53 jR I I (aC underlying53) e6 I (zW (zW (yN (zR O)) (zR O)) (zW wC jQ)) (zD I (AT (AA _)) fg.up (zD I (AQ (AT (AA _))) ff (zD I (AQ (AQ (AA _))) (fV eg) zO))))) λhm fc=>?_);refine AB I (tV (λX=>zL (ρ:=(BP (50*k+200) (200*k+900))) (m:=1) (xs:=[(CU (A0 l i zT) (A0 l ((i+1)%A1 l) zT) t,([[(↑i:Int),(((↑i:Int)+(1:Int))%(↑(A1 (l)):Int)),(↑(A1 (l)):Int)]],(([115]:List Nat)++(qF (((↑i:Int):Int):Rat)))))]) (ps':=[(0,_)]) underlying29 jR I I I (zW (zW (yN (zR O)) (zR O)) (zW wC jQ)) Al (zD I (AO (AA _) zA 0 dC) fc zO) IY nP) I ?_)
  rintro hl iq ⟨hf,rfl,dn⟩
  refine AB I (vX (A:=[]) (ρ:=(BP (50*k+200) (200*k+900))) dn dK ?_);intro h6 ab ca;refine kP (A:=[_]) (λX=>uD (zN (ρ:=(BP (150*k+700) (200*k+901))) (bytes:=264) underlying29 jR I I I I nP I I ar.up (ca.le (Le.s (Le.p (Le.p (AI (150*k+700)) (AL (200*k+901))) (Le.refl _)))) bO bO)) I (yP BU) ?_
  rintro ep ip ⟨bh,ej,rfl,dm⟩
  refine A7 ?_;refine yD (A:=[_,_,_]) I (uB sizeOf29 (AQ (AT pH)) aa (oH bh)) λdc cp=>(AX ?_);refine yE (A:=[]) ?_;refine Ad ((i+1),(LN++[(((↑(A1 (l)):Int)-(1:Int))-(↑i:Int))]),(FF++[(CU (A0 l i zT) (A0 l ((i+1)%A1 l) zT) t,([[(↑i:Int),(((↑i:Int)+(1:Int))%(↑(A1 (l)):Int)),(↑(A1 (l)):Int)]],(([115]:List Nat)++(qF (((↑i:Int):Int):Rat)))))]),dc,eq,ek,ep,ej,h6) ?_ ?_
  · exact⟨AM,cp,dp.up,dm,bh,A3,by rw[bf];rfl,by rw[bg];rfl⟩
  omega
 have ei:i=A1 l:=by omega
 rw[ei] at bf bg;refine AZ ?_;refine UO (A:=[_]) (ρ:=A9) au.up ?_;intro h3 ac bz;refine qM (A:=[]) 10 [] [(0,.q),(1,.q),(2,.q),(4,.q),(0,.x [] [3] [5]),(6,.c),(7,.c),(8,.c),(9,.q),(10,.t)] zX nX Ac nX (A7 ?_);refine wX I (sR (xB kO (AQ (AT pH)) aa)) λgy dz=>?_;subst dz;refine wX I (xB qZ pH ax) λgx dy=>(A7 ?_);refine Pz [104] [106] (λp_ g_=>∃ap,p_=[(104,ap)]/\(Aj (150*k+610) (200*k+901)).Is g_ ap (CZ (CU (A0 l 0 zT) (A0 l 1 zT) (A0 l 2 zT)))) (λp_ g_=>∃ao,p_=[(106,ao)]/\Cv.Is g_ ao [LN]) Ac Ac I I ?_ ?_ ?_
 ·
  refine GD I I λh4 aj=>(sC (AU I) call48 (λw hs=>eW hs dy.up O O) λap h5 ai J=>?_);replace J:=Rp.Is.le J (Le.p (AI (150*k+610)) (AL (200*k+901)));refine⟨I,ai,_,_,I,I,?_⟩;intro h6 ab;replace J:=J.mono ab;exact⟨_,I,J⟩
 ·
  refine GD I I λh4 aj=>(Ka (λX=>zL (ρ:=(AS A9)) (m:=1) (xs:=[LN]) (ps':=[(0,_)]) underlying51 sL I I I wC Al (zD I (AO (AA _) [] 0 dC) bz.up zO) CO nP) I ?_);intro ao h5 ai bx;refine⟨I,ai,_,_,I,I,?_⟩;intro h6 ab;exact⟨_,I,bx.up⟩
 rintro _ _ h4 aj ⟨ap,rfl,J⟩ ⟨ao,rfl,dx⟩
 refine AB I (sX (xV (ρ:=(BP (150*k+610) (200*k+901))) (xL (ps':=[(0,_),(1,_),(2,_)]) underlying53 jR I I (aC underlying53) e6 I (zW (zW (yN (zR O)) (zR O)) (zW wC jQ)) (zD I (AT (AA _)) J (zD I (AQ (AT (AA _))) dx (zD I (AQ (AQ (AA _))) (fV (show BK [98,97,115,101] by unfold BK;decide)) zO))))) λgw dw=>?_);refine AB I (tV (λX=>zL (ρ:=(BP (150*k+610) (200*k+901))) (m:=1) (xs:=[(CZ (CU (A0 l 0 zT) (A0 l 1 zT) (A0 l 2 zT)),([LN],([98,97,115,101]:List Nat)))]) (ps':=[(0,_)]) underlying29 jR I I I (zW (zW (yN (zR O)) (zR O)) (zW wC jQ)) Al (zD I (AO (AA _) zA 0 dC) dw zO) IY nP) I ?_)
 rintro gu ha ⟨gn,rfl,cl⟩
 refine AB I (vX (A:=[]) (ρ:=(BP (150*k+610) (200*k+901))) cl dK ?_);intro h5 ai bw;refine kP (A:=[]) (λX=>uD (zN (ρ:=(BP (150*k+700) (200*k+901))) (bytes:=264) underlying29 jR I I I I nP I I ar.up (bw.le (Le.s (Le.p (Le.p (AI (150*k+700)) (Le.refl _)) (Le.refl _)))) bO bO)) I (yP BU) ?_
 rintro gt gz ⟨da,gm,rfl,ck⟩
 refine A7 ?_;refine yD (A:=[_]) I (uB sizeOf29 (AQ (AT pH)) aa (oH da)) λba ae=>(AF ?_);refine zQ (A:=[]) (ρ:=(BP (150*k+700) (200*k+901))) ck ?_;intro h6 ab bv;replace ae:=ae.mono ab;have co:(BT (k+1) (150*k+700) (200*k+901) 1).R h6 ba (((l++[t]),(C,([]:List En))).1,((FF++[(CZ (CU (A0 l 0 zT) (A0 l 1 zT) (A0 l 2 zT)),([LN],([98,97,115,101]:List Nat)))]),(((l++[t]),(C,([]:List En))).2).2)):=Fr ae bv;have cn:(BT (k+1) (150*k+700) (200*k+901) 1).R h6 ba (DY l t):=Rp.castR co (by rw[bg,bf];rfl);refine lX (xB jG pH cn) λgr dv=>?_;refine uS (vs:=[_]) I I I I call103 ⟨I,AW⟩ (λw hs=>Pk hs dv O O O (by first|omega|exact H1.2.2|exact H1.2.1.1)) ?_;intro gq h7 hk ee ad;obtain⟨eo,db,ad,rfl,cz,Z⟩:=ad
 change RL (BP (4*(150*k+700)+12) ((150*k+700)+(200*k+901)+12)) h7 db (Cb (DY l t)) at Z
 replace ad:=Rp.Is.le ad (Le.p (Le.s (AI (k+2))) (Le.p (Le.refl _) (Le.s (Le.p (Le.refl _) (Le.p (Le.refl _) (AL 2))))));replace Z:=(Le.p (Le.p (AI (600*k+2812)) (AL (350*k+1613))) (Le.refl _)).rl Z;have bq:=(Le.p (Le.s (AI (k+2))) (Le.p (Le.refl _) (Le.s (Le.p (Le.refl _) (Le.p (Le.refl _) (AL 2)))))).R fb;refine zP (A:=[_,_,_]) (uB sizeOf32 pH bq ad) λgj cm=>(AF ?_);refine xW (qV (t:=4) jG DT I cm) ?_;intro go be cg;refine kE (.cons_cons _ (E3 _)) (λE S=>qG I be (gA I) E S) ?_;exact⟨_,_,_,I,(Rp.Is.cast (Rp.Is.le cg (Le.p (Le.refl _) (Le.p (Le.refl _) (Le.s (Le.p (Le.refl _) (Le.p (Le.refl _) (AL 6))))))) (by rw[show E7 (DY l t)=[] from by unfold E7;split<;>rfl])),I,cz,((Le.p (Le.p (AI (1000*k+5000)) (AL (1000*k+5000))) (Le.refl _)).rl Z)⟩
set_option maxHeartbeats 1000000 in
theorem rx{w0 w:AP}{h0 h:A4}{b k:Nat}{vl:A2}{xs:List Int}(hl:Is h vl xs)(hk:k<=A1 xs){L:List AG}(hs:St w0 h0 (.var b 80 [vl,vI ↑k]::L) h w):
 Calls prog 18 #[vP b 0] w (Im w0 h0 h L (λg r q'=>∃k':Nat,∃m:Sq,q'=.var b 80 [vl,vI ↑k']/\k'<=A1 xs/\YZ m/\(BT 2 2 2 1).Is g r m)):=by
 have dd:=hl.lt63;refine jZ (n:=57) (e:=[(0,vP b 0)]) (vs:=[vP b 0]) func18 rfl rfl (bL rfl) hs ⟨rfl,AW⟩ (A5 ?_);refine nA (ρ:=(BT 1 1 1 1)) (X:=([],([],[]))) qS (zW wC (zW wC wC)) λb2 fj ck=>(AR ?_);refine xJ (A:=[_]) (vs:=[_,vI (3)]) call14 Al (λX w hs=>uC hl CK O O hs) I ?_;intro v9 g9 q9 cy co;obtain⟨k9,U,rfl,ez,rfl,cm,cn⟩:=co;refine A7 ?_;refine xJ (A:=[_]) (vs:=[_,vI (3)]) call14 Al (λX w hs=>uC hl.up CK O O hs) I ?_;intro ee fh eo ch bx;obtain⟨ey,D,rfl,dm,rfl,bh,bp⟩:=bx;refine A7 ?_;refine xJ (A:=[_]) (vs:=[_,vI (3)]) call14 Al (λX w hs=>uC hl.up CK O O hs) I ?_;intro ed fg en cg bw;obtain⟨ew,C,rfl,dl,rfl,bg,bo⟩:=bw;refine vV ?_;refine cL (BM I I I) call45 (λw hs=>rB hs O O O O O O) λec h1 cw ap=>?_;replace ap:=Rp.Is.cast (y:=(pI U D C)) ap B5;refine AN ?_;refine xJ (A:=[_]) (vs:=[_,vI (3)]) call14 Al (λX w hs=>uC hl.up CK O O hs) I ?_;intro eb ff em cf bv;obtain⟨ev,au,rfl,dk,rfl,bf,bn⟩:=bv;refine AN ?_;refine cL (BM I I I) call45 (λw hs=>rB hs O O O O O O) λea h2 cv ao=>?_;replace ao:=Rp.Is.cast (y:=(pI (U+1+au) D C)) ao B5;refine A5 ?_;refine xJ (A:=[_]) (vs:=[_,vI (2)]) call14 Al (λX w hs=>uC hl.up CK O O hs) I ?_;intro dz fe el ce bu;obtain⟨eu,ar,rfl,dj,rfl,be,bm⟩:=bu;refine AF ?_;refine xJ (A:=[_]) (vs:=[_,vI (3)]) call14 Al (λX w hs=>uC hl.up CK O O hs) I ?_;intro dy fd ek cd bt;obtain⟨es,aq,rfl,di,rfl,bd,bl⟩:=bt;refine A5 ?_;refine cL (BM I I I) call45 (λw hs=>rB hs O O O O O O) λdx h3 cu an=>?_;replace an:=Rp.Is.cast (y:=(pI (U+ar) (D+1+aq) C)) an B5
 let eX0:=[(pI U D C),(pI (U+1+au) D C),(pI (U+ar) (D+1+aq) C)]
 refine zE (zL (ρ:=(AD 2)) (m:=3) (xs:=eX0) (ps':=[(0,_),(1,_),(2,_)]) underlying28 yA I I I (yN (zR dC)) e6 (zD I (AO (AA _) zT 0 dC) ap.up (zD I (AO (AA _) zT 1 dC) ao.up (zD I (AO (AA _) zT 2 dC) an zO))) Zr nP) I I I ?_
 rintro dw ej ⟨dn,rfl,ay⟩
 refine A5 ?_;refine xJ (A:=[_,_]) (vs:=[_,vI (3)]) call14 Al (λX w hs=>uC hl.up CK O O hs) I ?_;intro dv fc ei cc bs;obtain⟨er,M,rfl,dh,rfl,bc,bk⟩:=bs;refine AN ?_;refine xJ (A:=[_,_]) (vs:=[_,vI (3)]) call14 Al (λX w hs=>uC hl.up CK O O hs) I ?_;intro du fb eh cb br;obtain⟨eq,J,rfl,df,rfl,bb,bj⟩:=br;refine AF ?_;refine xJ (A:=[_,_]) (vs:=[_,vI (3)]) call14 Al (λX w hs=>uC hl.up CK O O hs) I ?_;intro dt fa eg ca bq;obtain⟨ep,H,rfl,de,rfl,ba,bi⟩:=bq;refine A7 ?_;refine cL (BM I I I) call45 (λw hs=>rB hs O O O O O O) λdr h4 ct am=>?_;replace am:=Rp.Is.cast (y:=(pI (U+M) (D+J) (C+1+H))) am B5;refine zQ (A:=[]) (ρ:=(AD 2)) ay.up ?_;intro h5 cq ax
 let eX1:=(fy ⟨cm,cn⟩ ⟨bh,bp⟩ ⟨bg,bo⟩ ⟨bf,bn⟩ ⟨be,bm⟩ ⟨bd,bl⟩ ⟨bc,bk⟩ ⟨bb,bj⟩ ⟨ba,bi⟩)
 refine uS (vs:=[_,_]) I I I I call57 Al (λw hs=>jj hs ax am.up dC (by first|omega|exact eX1.1)) ?_;intro dq h6 fk cp ab;obtain⟨ef,db,ci,rfl,ab,rfl,dc,Z⟩:=ab
 change RL (BP (1000*2+5000) (1000*2+5000)) h6 ci (Cb (DY eX0 (pI (U+M) (D+J) (C+1+H)))) at Z
 replace ab:=Rp.Is.le ab (Le.p (Le.s (AI 4)) (Le.refl _));replace Z:=(Le.p (Le.p (AI 7000) (AL 7000)) (Le.refl _)).rl Z;refine AN ?_;refine nA (ρ:=(A6 (Aq 1) (A6 Az (AS (A6 A9 (A6 A9 (AE 1))))))) (X:=([],((A2.slice none 0 0),[]))) qS (zW wC (zW fG wC)) λb6 fi cj=>?_;have av:=(Le.p (Le.s (AI 4)) (Le.p (Le.refl _) (Le.s (Le.p (Le.refl _) (Le.p (Le.refl _) (AL 6)))))).R cj;refine zP (A:=[]) (uB sizeOf32 pH av ab) λac aa=>(AR ?_);refine zQ (A:=[_]) (ρ:=(BP 7000 7000)) Z ?_;intro h7 bz aw;replace aa:=aa.mono bz;have az:(BT 4 7000 7000 6).R h7 ac (Di (DY eX0 (pI (U+M) (D+J) (C+1+H))),(Cb (DY eX0 (pI (U+M) (D+J) (C+1+H))),[])):=Fr aa aw;have ak:(BT 4 7000 7000 6).R h7 ac (Di (DY eX0 (pI (U+M) (D+J) (C+1+H))),Cb (DY eX0 (pI (U+M) (D+J) (C+1+H))),([]:List En)):=Rp.castR az B5;have aj:(BT 2 2 2 1).R h7 ac (Di (DY eX0 (pI (U+M) (D+J) (C+1+H))),Cb (DY eX0 (pI (U+M) (D+J) (C+1+H))),([]:List En)):=OX ak (w7 (Ma eX1.2)).2;refine lX (xB jG pH aj) λdp cl=>?_;have ae:=(Le.p (Le.s (AI 2)) (Le.p (Le.s (Le.p (Le.p (AI 2) (AL 2)) (Le.refl _))) (Le.refl _))).R ck;refine zP (A:=[_]) (uB sizeOf32 pH ae cl) λcz ai=>(AN ?_);refine xW (qV (t:=2) jG Ax I ai) ?_;intro da ad ah;refine bP (λE S=>zS I ad E S) ?_;exact⟨_,(.cons _ (.cons _ (EU _))),(((((((((((((((cy.trans ch).trans cg).trans cw).trans cf).trans cv).trans ce).trans cd).trans cu).trans cc).trans cb).trans ca).trans ct).trans cq).trans cp).trans bz),_,_,I,A3,eX1.2,ah⟩
theorem gO{w0:AP}{h0:A4}(hs:MLe h0 (BE w0)){x:Int}(hx1:-9223372036854775808<=x)(hx2:x<9223372036854775808){y:Int}(hy1:-9223372036854775808<=y)(hy2:y<9223372036854775808){vl:A2}{l:(List Int)}(rl:(AS A9).Is h0 vl l)(H0:(-1000<=x/\x<=1000)/\-1000<=y/\y<=1000)(H1:∀q,q∈l-> -1000<=q/\q<=1000)(H2:A1 l<=1000):
 Ae 174 #[vI x,vI y,vl] w0 h0 (λh r=>(Aq 2).Is h r (aO x y l)):=by
 refine Cs 36 (vI x) (vI y) vl func174 hs ?_;refine nH ?_;refine yX 43 9 ?_;have Z:=RL.nil (ρ:=Bd (AE 2)) (h:=h0);refine An (ι:=Nat×List Tq×A2×List A2×A4) (λ(u,D,C,H,ma)=>(MLe h0 ma/\(RL (AD 2) ma H D/\(2*u<=A1 l+1/\A1 D=u)/\D++aO x y (l.drop (2*u))=aO x y l),[(0,vI x),(1,vI y),(2,vl),(7,C),(8,vI (2*↑u))],[.gs 43 9 C (A1 D) H],ma,A1 l+2-2*u)) (0,[],(.slice none 0 0),[],h0) ?_ ?_
 · exact⟨AM,Z,⟨A3,I⟩,I⟩
 rintro⟨u,D,C,H,ma⟩ ⟨av,J,⟨bj,aq⟩,hD⟩
 refine yO ?_;refine iY (λac=>?_) λac=>?_
 ·
  have bl:=H1 _ (kX (d:=0) (show 2*u<A1 l by omega));have bk:=H1 _ (kX (d:=0) (show 2*u+1<A1 l by omega));refine AF ?_;refine qM (A:=[]) 20 [] (Ah 0 7 (Ah 8 7 [(7,.c),(15,.c),(16,.c),(17,.c),(18,.c),(19,.q)])) zX nX (xU Ac) nX (AF ?_);refine wX I (xI (0:Int) (2*u) underlying22 B8 rl) λbg ao=>(wX I (xA B8 ao) λbf an=>?_);obtain⟨rfl,ax,au⟩:=jV an;refine AR ?_;refine wX I (xI (0:Int) (2*u+1) underlying22 B8 rl) λbd ak=>(wX I (xA B8 ak) λbc aj=>?_);obtain⟨rfl,aw,ar⟩:=jV aj;refine A7 ?_;refine AB I (sC (AU I) call41 (λw hs=>gN hs O O) λbe h1 ap am=>?_);refine AB I (sC (AU I) call41 (λw hs=>gN hs O O) λbb h2 bn ai=>?_);refine AB I (sX (xV (ρ:=(AD 2)) (xD (ps':=[(0,_),(1,_)]) underlying43 yA I I sizeOf41 BR I (yN (zR dC)) (zD I (BL (AA _)) am.up (zD I (BC (AA _)) ai zO)))) λba ah=>?_);refine AB I (tV (λX=>zL (ρ:=(AD 2)) (m:=1) (xs:=[(T3.mk (((x+(A0 l (2*u) (0:Int))):Int):Rat) (((y+(A0 l (2*u+1) (0:Int))):Int):Rat) (0:Rat))]) (ps':=[(0,_)]) underlying28 yA I I I (yN (zR dC)) Al (zD I (AO (AA _) zT 0 dC) ah zO) Dm nP) I ?_)
  rintro az bi ⟨ay,rfl,ab⟩
  refine AB I (vX (A:=[]) (ρ:=(AD 2)) ab dK ?_);intro h3 bm U;refine kP (A:=[]) (λX=>zN (ρ:=(AD 2)) (bytes:=168) underlying28 yA I I I I nP I I J.up U bO bO) I (yP BU) ?_
  rintro ae bh ⟨ad,rfl,aa⟩
  refine Ak ?_;refine Ad ((u+1),(D++[(T3.mk (((x+(A0 l (2*u) (0:Int))):Int):Rat) (((y+(A0 l (2*u+1) (0:Int))):Int):Rat) (0:Rat))]),ae,ad,h3) ?_ ?_ (he:=⟨I,I,I,I,AJ (λz=>some (vI z)) O,AW⟩)
  · exact⟨AM,aa,⟨A3,by rw[BJ,aq];rfl⟩,jv hD O⟩
  omega
 refine uF ?_;refine xR (A:=[]) (ρ:=(AD 2)) J.up ?_;intro h1 ap M;refine zC I I ?_;exact(Rp.Is.cast M (by exact dr hD O))
set_option maxHeartbeats 1000000 in
theorem nr{w0 w:AP}{h0 h:A4}{b k:Nat}{vl:A2}{xs:List Int}(hl:Is h vl xs)(hk:k<=A1 xs){L:List AG}(hs:St w0 h0 (.var b 80 [vl,vI ↑k]::L) h w):
 Calls prog 104 #[vP b 0] w (Im w0 h0 h L (λg r q'=>∃k':Nat,∃m:List (List Tq),q'=.var b 80 [vl,vI ↑k']/\k'<=A1 xs/\J1 m/\(C1 2).Is g r m)):=by
 have cp:=hl.lt63;refine jZ (n:=60) (e:=[(0,vP b 0)]) (vs:=[vP b 0]) func104 rfl rfl (bL rfl) hs ⟨rfl,AW⟩ (AX ?_);refine xJ (A:=[]) (vs:=[_,vI (2)]) call14 Al (λX w hs=>uC hl CK O O hs) I ?_;intro v6 g6 q6 am cm;obtain⟨k6,z6,rfl,fh,rfl,D,J⟩:=cm;refine A7 ?_;refine xJ (A:=[]) (vs:=[_,vI (2)]) call14 Al (λX w hs=>uC hl.up CK O O hs) I ?_;intro v8 g8 q8 ak cl;obtain⟨k8,z8,rfl,fg,rfl,C,H⟩:=cl;refine AX ?_;refine xJ (A:=[]) (vs:=[_,vI (6)]) call14 Al (λX w hs=>uC hl.up CK O O hs) I ?_;intro ej fl fb aj bv;obtain⟨ff,dk,rfl,cv,rfl,cn,co⟩:=bv;refine Bj (λcd=>?_) λcd=>?_
 ·
  refine AF ?_;refine zE (zL (ρ:=A9) (m:=12) (xs:=[(0:Int),(0:Int),(2:Int),(0:Int),(2:Int),(1:Int),(1:Int),(1:Int),(1:Int),(2:Int),(0:Int),(2:Int)]) (ps':=[(0,_),(1,_),(2,_),(3,_),(4,_),(5,_),(6,_),(7,_),(8,_),(9,_),(10,_),(11,_)]) underlying22 kT I I I wT ⟨I,I,I,I,I,I,I,I,I,I,I,I,I,I,I,I,I,I,I,I,I,I,I,I,AW⟩ (zD I (AO (AA _) (0:Int) 0 dC) (vC dC dC) (zD I (AO (AA _) (0:Int) 1 dC) (vC dC dC) (zD I (AO (AA _) (0:Int) 2 dC) (vC dC dC) (zD I (AO (AA _) (0:Int) 3 dC) (vC dC dC) (zD I (AO (AA _) (0:Int) 4 dC) (vC dC dC) (zD I (AO (AA _) (0:Int) 5 dC) (vC dC dC) (zD I (AO (AA _) (0:Int) 6 dC) (vC dC dC) (zD I (AO (AA _) (0:Int) 7 dC) (vC dC dC) (zD I (AO (AA _) (0:Int) 8 dC) (vC dC dC) (zD I (AO (AA _) (0:Int) 9 dC) (vC dC dC) (zD I (AO (AA _) (0:Int) 10 dC) (vC dC dC) (zD I (AO (AA _) (0:Int) 11 dC) (vC dC dC) zO)))))))))))) (show 12*1<=16777216 from by decide) nP) I I I ?_
  rintro ei fa ⟨dj,rfl,br⟩
  refine zQ (A:=[]) (ρ:=A9) br ?_;intro h1 aa bf;refine cL (BM I I I) call174 (λw hs=>gO hs O O O O bf (by first|omega|exact Bm rfl|(intro q M;simp only[BY,Bv,or_false] at M;omega)) (by first|omega|exact Bm rfl|(intro q M;simp only[BY,Bv,or_false] at M;omega)) (by first|omega|exact Bm rfl|(intro q M;simp only[BY,Bv,or_false] at M;omega))) λeh h2 Z ck=>(zE (zL (ρ:=(Aq 2)) (m:=1) (xs:=[aO z6 z8 [(0:Int),(0:Int),(2:Int),(0:Int),(2:Int),(1:Int),(1:Int),(1:Int),(1:Int),(2:Int),(0:Int),(2:Int)]]) (ps':=[(0,_)]) underlying61 fW I I I wC Al (zD I (AO (AA _) [] 0 dC) ck zO) CO nP) I I I ?_)
  rintro eg ez ⟨di,rfl,bq⟩
  refine AZ ?_;refine xR (A:=[]) (ρ:=(Aq 2)) bq ?_;intro h3 U be;refine qU I I ?_;exact⟨_,(EU _),(((((am.trans ak).trans aj).trans aa).trans Z).trans U),_,_,I,A3,(by first|exact Kv ⟨D,J⟩ ⟨C,H⟩|exact LR ⟨D,J⟩ ⟨C,H⟩|exact Lg ⟨D,J⟩ ⟨C,H⟩|exact Kr ⟨D,J⟩ ⟨C,H⟩|exact L3 ⟨D,J⟩ ⟨C,H⟩ ⟨ad,ai⟩ ⟨ac,ah⟩ ⟨ab,ae⟩),be⟩
 refine Ba (λcc=>?_) λcc=>?_
 ·
  refine AF ?_;refine zE (zL (ρ:=A9) (m:=8) (xs:=[(0:Int),(0:Int),(3:Int),(0:Int),(3:Int),(3:Int),(0:Int),(3:Int)]) (ps':=[(0,_),(1,_),(2,_),(3,_),(4,_),(5,_),(6,_),(7,_)]) underlying22 kT I I I wT ⟨I,I,I,I,I,I,I,I,I,I,I,I,I,I,I,I,AW⟩ (zD I (AO (AA _) (0:Int) 0 dC) (vC dC dC) (zD I (AO (AA _) (0:Int) 1 dC) (vC dC dC) (zD I (AO (AA _) (0:Int) 2 dC) (vC dC dC) (zD I (AO (AA _) (0:Int) 3 dC) (vC dC dC) (zD I (AO (AA _) (0:Int) 4 dC) (vC dC dC) (zD I (AO (AA _) (0:Int) 5 dC) (vC dC dC) (zD I (AO (AA _) (0:Int) 6 dC) (vC dC dC) (zD I (AO (AA _) (0:Int) 7 dC) (vC dC dC) zO)))))))) Si nP) I I I ?_
  rintro ef ey ⟨dh,rfl,bp⟩
  refine zQ (A:=[]) (ρ:=A9) bp ?_;intro h1 aa bd;refine cL (BM I I I) call174 (λw hs=>gO hs O O O O bd (by first|omega|exact Bm rfl|(intro q M;simp only[BY,Bv,or_false] at M;omega)) (by first|omega|exact Bm rfl|(intro q M;simp only[BY,Bv,or_false] at M;omega)) (by first|omega|exact Bm rfl|(intro q M;simp only[BY,Bv,or_false] at M;omega))) λee h2 Z cj=>(A5 ?_);refine zE (zL (ρ:=A9) (m:=8) (xs:=[(1:Int),(1:Int),(1:Int),(2:Int),(2:Int),(2:Int),(2:Int),(1:Int)]) (ps':=[(0,_),(1,_),(2,_),(3,_),(4,_),(5,_),(6,_),(7,_)]) underlying22 kT I I I wT ⟨I,I,I,I,I,I,I,I,I,I,I,I,I,I,I,I,AW⟩ (zD I (AO (AA _) (0:Int) 0 dC) (vC dC dC) (zD I (AO (AA _) (0:Int) 1 dC) (vC dC dC) (zD I (AO (AA _) (0:Int) 2 dC) (vC dC dC) (zD I (AO (AA _) (0:Int) 3 dC) (vC dC dC) (zD I (AO (AA _) (0:Int) 4 dC) (vC dC dC) (zD I (AO (AA _) (0:Int) 5 dC) (vC dC dC) (zD I (AO (AA _) (0:Int) 6 dC) (vC dC dC) (zD I (AO (AA _) (0:Int) 7 dC) (vC dC dC) zO)))))))) Si nP) I I I ?_
  rintro ed ew ⟨df,rfl,bo⟩
  refine zQ (A:=[]) (ρ:=A9) bo ?_;intro h3 U ax;refine cL (BM I I I) call174 (λw hs=>gO hs O O O O ax (by first|omega|exact Bm rfl|(intro q M;simp only[BY,Bv,or_false] at M;omega)) (by first|omega|exact Bm rfl|(intro q M;simp only[BY,Bv,or_false] at M;omega)) (by first|omega|exact Bm rfl|(intro q M;simp only[BY,Bv,or_false] at M;omega))) λec h4 az ci=>(zE (zL (ρ:=(Aq 2)) (m:=2) (xs:=[aO z6 z8 [(0:Int),(0:Int),(3:Int),(0:Int),(3:Int),(3:Int),(0:Int),(3:Int)],aO z6 z8 [(1:Int),(1:Int),(1:Int),(2:Int),(2:Int),(2:Int),(2:Int),(1:Int)]]) (ps':=[(0,_),(1,_)]) underlying61 fW I I I wC BR (zD I (AO (AA _) [] 0 dC) cj.up (zD I (AO (AA _) [] 1 dC) ci zO)) Zz nP) I I I ?_)
  rintro eb ev ⟨de,rfl,bn⟩
  refine AZ ?_;refine xR (A:=[]) (ρ:=(Aq 2)) bn ?_;intro h5 ay aw;refine qU I I ?_;exact⟨_,(EU _),(((((((am.trans ak).trans aj).trans aa).trans Z).trans U).trans az).trans ay),_,_,I,A3,(by first|exact Kv ⟨D,J⟩ ⟨C,H⟩|exact LR ⟨D,J⟩ ⟨C,H⟩|exact Lg ⟨D,J⟩ ⟨C,H⟩|exact Kr ⟨D,J⟩ ⟨C,H⟩|exact L3 ⟨D,J⟩ ⟨C,H⟩ ⟨ad,ai⟩ ⟨ac,ah⟩ ⟨ab,ae⟩),aw⟩
 refine Ba (λcb=>?_) λcb=>?_
 ·
  refine AF ?_;refine zE (zL (ρ:=A9) (m:=8) (xs:=[(0:Int),(0:Int),(3:Int),(0:Int),(3:Int),(3:Int),(0:Int),(3:Int)]) (ps':=[(0,_),(1,_),(2,_),(3,_),(4,_),(5,_),(6,_),(7,_)]) underlying22 kT I I I wT ⟨I,I,I,I,I,I,I,I,I,I,I,I,I,I,I,I,AW⟩ (zD I (AO (AA _) (0:Int) 0 dC) (vC dC dC) (zD I (AO (AA _) (0:Int) 1 dC) (vC dC dC) (zD I (AO (AA _) (0:Int) 2 dC) (vC dC dC) (zD I (AO (AA _) (0:Int) 3 dC) (vC dC dC) (zD I (AO (AA _) (0:Int) 4 dC) (vC dC dC) (zD I (AO (AA _) (0:Int) 5 dC) (vC dC dC) (zD I (AO (AA _) (0:Int) 6 dC) (vC dC dC) (zD I (AO (AA _) (0:Int) 7 dC) (vC dC dC) zO)))))))) Si nP) I I I ?_
  rintro ea eu ⟨dd,rfl,bm⟩
  refine zQ (A:=[]) (ρ:=A9) bm ?_;intro h1 aa av;refine cL (BM I I I) call174 (λw hs=>gO hs O O O O av (by first|omega|exact Bm rfl|(intro q M;simp only[BY,Bv,or_false] at M;omega)) (by first|omega|exact Bm rfl|(intro q M;simp only[BY,Bv,or_false] at M;omega)) (by first|omega|exact Bm rfl|(intro q M;simp only[BY,Bv,or_false] at M;omega))) λdz h2 Z ch=>(A5 ?_);refine zE (zL (ρ:=A9) (m:=6) (xs:=[(1:Int),(1:Int),(0:Int),(0:Int),(1:Int),(2:Int)]) (ps':=[(0,_),(1,_),(2,_),(3,_),(4,_),(5,_)]) underlying22 kT I I I wT JP (zD I (AO (AA _) (0:Int) 0 dC) (vC dC dC) (zD I (AO (AA _) (0:Int) 1 dC) (vC dC dC) (zD I (AO (AA _) (0:Int) 2 dC) (vC dC dC) (zD I (AO (AA _) (0:Int) 3 dC) (vC dC dC) (zD I (AO (AA _) (0:Int) 4 dC) (vC dC dC) (zD I (AO (AA _) (0:Int) 5 dC) (vC dC dC) zO)))))) VD nP) I I I ?_
  rintro dy es ⟨dc,rfl,bl⟩
  refine zQ (A:=[]) (ρ:=A9) bl ?_;intro h3 U au;refine cL (BM I I I) call174 (λw hs=>gO hs O O O O au (by first|omega|exact Bm rfl|(intro q M;simp only[BY,Bv,or_false] at M;omega)) (by first|omega|exact Bm rfl|(intro q M;simp only[BY,Bv,or_false] at M;omega)) (by first|omega|exact Bm rfl|(intro q M;simp only[BY,Bv,or_false] at M;omega))) λdx h4 az cg=>(zE (zL (ρ:=(Aq 2)) (m:=2) (xs:=[aO z6 z8 [(0:Int),(0:Int),(3:Int),(0:Int),(3:Int),(3:Int),(0:Int),(3:Int)],aO z6 z8 [(1:Int),(1:Int),(0:Int),(0:Int),(1:Int),(2:Int)]]) (ps':=[(0,_),(1,_)]) underlying61 fW I I I wC BR (zD I (AO (AA _) [] 0 dC) ch.up (zD I (AO (AA _) [] 1 dC) cg zO)) Zz nP) I I I ?_)
  rintro dw er ⟨db,rfl,bk⟩
  refine AZ ?_;refine xR (A:=[]) (ρ:=(Aq 2)) bk ?_;intro h5 ay ar;refine qU I I ?_;exact⟨_,(EU _),(((((((am.trans ak).trans aj).trans aa).trans Z).trans U).trans az).trans ay),_,_,I,A3,(by first|exact Kv ⟨D,J⟩ ⟨C,H⟩|exact LR ⟨D,J⟩ ⟨C,H⟩|exact Lg ⟨D,J⟩ ⟨C,H⟩|exact Kr ⟨D,J⟩ ⟨C,H⟩|exact L3 ⟨D,J⟩ ⟨C,H⟩ ⟨ad,ai⟩ ⟨ac,ah⟩ ⟨ab,ae⟩),ar⟩
 refine Ba (λca=>?_) λca=>?_
 ·
  refine AF ?_;refine zE (zL (ρ:=A9) (m:=10) (xs:=[(0:Int),(0:Int),(1:Int),(0:Int),(2:Int),(0:Int),(2:Int),(2:Int),(0:Int),(1:Int)]) (ps':=[(0,_),(1,_),(2,_),(3,_),(4,_),(5,_),(6,_),(7,_),(8,_),(9,_)]) underlying22 kT I I I wT ⟨I,I,I,I,I,I,I,I,I,I,I,I,I,I,I,I,I,I,I,I,AW⟩ (zD I (AO (AA _) (0:Int) 0 dC) (vC dC dC) (zD I (AO (AA _) (0:Int) 1 dC) (vC dC dC) (zD I (AO (AA _) (0:Int) 2 dC) (vC dC dC) (zD I (AO (AA _) (0:Int) 3 dC) (vC dC dC) (zD I (AO (AA _) (0:Int) 4 dC) (vC dC dC) (zD I (AO (AA _) (0:Int) 5 dC) (vC dC dC) (zD I (AO (AA _) (0:Int) 6 dC) (vC dC dC) (zD I (AO (AA _) (0:Int) 7 dC) (vC dC dC) (zD I (AO (AA _) (0:Int) 8 dC) (vC dC dC) (zD I (AO (AA _) (0:Int) 9 dC) (vC dC dC) zO)))))))))) (show 10*1<=16777216 from by decide) nP) I I I ?_
  rintro dv eq ⟨da,rfl,bj⟩
  refine zQ (A:=[]) (ρ:=A9) bj ?_;intro h1 aa aq;refine cL (BM I I I) call174 (λw hs=>gO hs O O O O aq (by first|omega|exact Bm rfl|(intro q M;simp only[BY,Bv,or_false] at M;omega)) (by first|omega|exact Bm rfl|(intro q M;simp only[BY,Bv,or_false] at M;omega)) (by first|omega|exact Bm rfl|(intro q M;simp only[BY,Bv,or_false] at M;omega))) λdu h2 Z cf=>(zE (zL (ρ:=(Aq 2)) (m:=1) (xs:=[aO z6 z8 [(0:Int),(0:Int),(1:Int),(0:Int),(2:Int),(0:Int),(2:Int),(2:Int),(0:Int),(1:Int)]]) (ps':=[(0,_)]) underlying61 fW I I I wC Al (zD I (AO (AA _) [] 0 dC) cf zO) CO nP) I I I ?_)
  rintro dt ep ⟨cz,rfl,bi⟩
  refine AZ ?_;refine xR (A:=[]) (ρ:=(Aq 2)) bi ?_;intro h3 U ap;refine qU I I ?_;exact⟨_,(EU _),(((((am.trans ak).trans aj).trans aa).trans Z).trans U),_,_,I,A3,(by first|exact Kv ⟨D,J⟩ ⟨C,H⟩|exact LR ⟨D,J⟩ ⟨C,H⟩|exact Lg ⟨D,J⟩ ⟨C,H⟩|exact Kr ⟨D,J⟩ ⟨C,H⟩|exact L3 ⟨D,J⟩ ⟨C,H⟩ ⟨ad,ai⟩ ⟨ac,ah⟩ ⟨ab,ae⟩),ap⟩
 refine AX ?_;refine xJ (A:=[]) (vs:=[_,vI (3)]) call14 Al (λX w hs=>uC hl.up CK O O hs) I ?_;intro dr fk eo bz bu;obtain⟨fe,bc,rfl,cu,rfl,ad,ai⟩:=bu;refine gv (yF (p:=1) I I O O) I (A7 ?_);refine xJ (A:=[]) (vs:=[_,vI (2)]) call14 Al (λX w hs=>uC hl.up CK O O hs) I ?_;intro dq fj en bx bt;obtain⟨fd,bb,rfl,ct,rfl,ac,ah⟩:=bt;refine A7 ?_;refine xJ (A:=[]) (vs:=[_,vI (2)]) call14 Al (λX w hs=>uC hl.up CK O O hs) I ?_;intro dp fi em bw bs;obtain⟨fc,ba,rfl,cq,rfl,ab,ae⟩:=bs;refine gv (yF (p:=1) I I O O) I (zE (zL (ρ:=A9) (m:=6) (xs:=[(0:Int),(0:Int),((1:Int)+bc),(0:Int),bb,((1:Int)+ba)]) (ps':=[(0,_),(1,_),(2,_),(3,_),(4,_),(5,_)]) underlying22 kT I I I wT JP (zD I (AO (AA _) (0:Int) 0 dC) (vC dC dC) (zD I (AO (AA _) (0:Int) 1 dC) (vC dC dC) (zD I (AO (AA _) (0:Int) 2 dC) (vC O O) (zD I (AO (AA _) (0:Int) 3 dC) (vC dC dC) (zD I (AO (AA _) (0:Int) 4 dC) (vC O O) (zD I (AO (AA _) (0:Int) 5 dC) (vC O O) zO)))))) VD nP) I I I ?_)
 rintro dn el ⟨cy,rfl,bh⟩
 refine zQ (A:=[]) (ρ:=A9) bh ?_;intro h1 aa ao;refine cL (BM I I I) call174 (λw hs=>gO hs O O O O ao (by first|omega|exact Bm rfl|(intro q M;simp only[BY,Bv,or_false] at M;omega)) (by first|omega|exact Bm rfl|(intro q M;simp only[BY,Bv,or_false] at M;omega)) (by first|omega|exact Bm rfl|(intro q M;simp only[BY,Bv,or_false] at M;omega))) λdm h2 Z ce=>(zE (zL (ρ:=(Aq 2)) (m:=1) (xs:=[aO z6 z8 [(0:Int),(0:Int),((1:Int)+bc),(0:Int),bb,((1:Int)+ba)]]) (ps':=[(0,_)]) underlying61 fW I I I wC Al (zD I (AO (AA _) [] 0 dC) ce zO) CO nP) I I I ?_)
 rintro dl ek ⟨cw,rfl,bg⟩
 refine AF ?_;refine xR (A:=[]) (ρ:=(Aq 2)) bg ?_;intro h3 U an;refine qU I I ?_;exact⟨_,(EU _),((((((((am.trans ak).trans aj).trans bz).trans bx).trans bw).trans aa).trans Z).trans U),_,_,I,A3,(by first|exact Kv ⟨D,J⟩ ⟨C,H⟩|exact LR ⟨D,J⟩ ⟨C,H⟩|exact Lg ⟨D,J⟩ ⟨C,H⟩|exact Kr ⟨D,J⟩ ⟨C,H⟩|exact L3 ⟨D,J⟩ ⟨C,H⟩ ⟨ad,ai⟩ ⟨ac,ah⟩ ⟨ab,ae⟩),an⟩
set_option maxHeartbeats 1000000 in
theorem p9{w0 w:AP}{h0 h:A4}{b k:Nat}{vl:A2}{xs:List Int}(hl:Is h vl xs)(hk:k<=A1 xs){L:List AG}(hs:St w0 h0 (.var b 80 [vl,vI ↑k]::L) h w):
 Calls prog 47 #[vP b 0] w (Im w0 h0 h L (λg r q'=>∃k':Nat,∃m:Sq,q'=.var b 80 [vl,vI ↑k']/\k'<=A1 xs/\Fy m/\(BT 2 2 2 1).Is g r m)):=by
 have bm:=hl.lt63;refine jZ (n:=23) (e:=[(0,vP b 0)]) (vs:=[vP b 0]) func47 rfl rfl (bL rfl) hs ⟨rfl,AW⟩ (A5 ?_);refine nA (ρ:=(BT 1 1 1 1)) (X:=([],([],[]))) qS (zW wC (zW wC wC)) λb2 cf ax=>(AR ?_);refine xJ (A:=[_]) (vs:=[_,vI (2)]) call14 Al (λX w hs=>uC hl CK O O hs) I ?_;intro v7 g7 q7 bh bd;obtain⟨k7,z7,rfl,cb,rfl,bb,bc⟩:=bd;refine AZ ?_;refine xJ (A:=[_]) (vs:=[_]) call104 ⟨I,AW⟩ (λX w hs=>nr hl.up CK hs) I ?_;intro bu cd bx au U;obtain⟨ca,D,rfl,bo,ao,U⟩:=U;refine A7 ?_;refine cL (AU I) call41 (λw hs=>gN hs O O) λbt h1 bg ba=>(AN ?_);refine xJ (A:=[_]) (vs:=[_,vI (2)]) call14 Al (λX w hs=>uC hl.up CK O O hs) I ?_;intro bs cc bw ar ap;obtain⟨bz,C,rfl,bn,rfl,am,an⟩:=ap;refine A7 ?_;refine cL (AU I) call41 (λw hs=>gN hs O O) λbr h2 bf az=>?_
 let eX0:=(ku ao ⟨bb,bc⟩ ⟨am,an⟩)
 refine uS (vs:=[_,_,_]) I I I I call102 EQ (λw hs=>Wb hs U.up ba.up az dC dC dC (by first|omega|exact eX0.1.1|exactλ_=>eX0.1.2.2) (by first|omega|exact eX0.1.1|exactλ_=>eX0.1.2.2)) ?_;intro bq h3 cg be M;obtain⟨bv,bk,av,rfl,M,rfl,bl,H⟩:=M
 let eX1:=((z7:Int):Rat)
 change RL (BP (1000*2+1000*2+1000*2+2000) (1000*2+1000*2+1000*2+2000)) h3 av (Cg D eX1 ((((z7+(1:Int))+C):Int):Rat)) at H
 replace M:=Rp.Is.le M (Le.p (Le.s (AI 26)) (Le.refl _));replace H:=(Le.p (Le.p (AI 8000) (AL 8000)) (Le.refl _)).rl H;refine AN ?_;refine nA (ρ:=(A6 (Aq 1) (A6 Az (AS (A6 A9 (A6 A9 (AE 1))))))) (X:=([],((A2.slice none 0 0),[]))) qS (zW wC (zW fG wC)) λb4 ce aw=>?_;have ah:=(Le.p (Le.s (AI 26)) (Le.p (Le.refl _) (Le.s (Le.p (Le.refl _) (Le.p (Le.refl _) (AL 5)))))).R aw;refine zP (A:=[]) (uB sizeOf32 pH ah M) λZ J=>(AR ?_);refine zQ (A:=[_]) (ρ:=(BP 8000 8000)) H ?_;intro h4 aq ai;replace J:=J.mono aq;have ak:(BT 26 8000 8000 5).R h4 Z (Df D eX1 ((((z7+(1:Int))+C):Int):Rat),(Cg D eX1 ((((z7+(1:Int))+C):Int):Rat),[])):=Fr J ai;have aj:(BT 26 8000 8000 5).R h4 Z (Df D eX1 ((z7+1+C:Int):Rat),Cg D eX1 ((z7+1+C:Int):Rat),([]:List En)):=Rp.castR ak B5;have ae:(BT 2 2 2 1).R h4 Z (Df D eX1 ((z7+1+C:Int):Rat),Cg D eX1 ((z7+1+C:Int):Rat),([]:List En)):=OX aj (w7 eX0.2).2;refine lX (xB jG pH ae) λbp ay=>?_;have ab:=(Le.p (Le.s (AI 2)) (Le.p (Le.s (Le.p (Le.p (AI 2) (AL 2)) (Le.refl _))) (Le.refl _))).R ax;refine zP (A:=[_]) (uB sizeOf32 pH ab ay) λbi ad=>(AN ?_);refine xW (qV (t:=2) jG Ax I ad) ?_;intro bj aa ac;refine bP (λE S=>zS I aa E S) ?_;exact⟨_,(.cons _ (.cons _ (EU _))),((((((bh.trans au).trans bg).trans ar).trans bf).trans be).trans aq),_,_,I,A3,eX0.2,ac⟩
set_option maxHeartbeats 1000000 in
theorem eX{w0 w:AP}{h0 h:A4}{b k:Nat}{vl:A2}{xs:List Int}(hl:Is h vl xs)(hk:k<=A1 xs){L:List AG}(hs:St w0 h0 (.var b 80 [vl,vI ↑k]::L) h w):
 Calls prog 12 #[vP b 0] w (Im w0 h0 h L (λg r q'=>∃k':Nat,∃m:Sq,q'=.var b 80 [vl,vI ↑k']/\k'<=A1 xs/\Fy m/\(BT 2 2 2 1).Is g r m)):=by
 have ba:=hl.lt63;refine jZ (n:=15) (e:=[(0,vP b 0)]) (vs:=[vP b 0]) func12 rfl rfl (bL rfl) hs ⟨rfl,AW⟩ (A5 ?_);refine nA (ρ:=(BT 1 1 1 1)) (X:=([],([],[]))) qS (zW wC (zW wC wC)) λb2 bv ac=>(AZ ?_);refine xJ (A:=[_]) (vs:=[_,vI (5)]) call14 Al (λX w hs=>uC hl CK O O hs) I ?_;intro v4 g4 q4 aj au;obtain⟨k4,z4,rfl,bs,rfl,bp,bq⟩:=au;refine Bj (λax=>?_) λax=>?_
 ·
  refine AN ?_;refine xJ (A:=[_]) (vs:=[_]) call46 ⟨I,AW⟩ (λX w hs=>km hl.up CK hs) I ?_;intro v8 g8 q8 av ai;obtain⟨k8,p8,rfl,br,ad,ai⟩:=ai;have am:=(Le.p (Le.s (AI 2)) (Le.p (Le.s (Le.p (Le.p (AI 2) (AL 2)) (Le.refl _))) (Le.refl _))).R ac;refine zP (A:=[]) (uB sizeOf32 pH am ai) λbe ap=>(AR ?_);refine xW (qV (t:=2) jG Ar I ap) ?_;intro bg ah an;refine bP (λE S=>zS I ah E S) ?_;exact⟨_,(.cons _ (EU _)),(aj.trans av),_,_,I,A3,(by first|exact ad|exact D|exact Ma C),an⟩
 refine Ba (λaw=>?_) λaw=>?_
 ·
  refine AN ?_;refine xJ (A:=[_]) (vs:=[_]) call47 ⟨I,AW⟩ (λX w hs=>p9 hl.up CK hs) I ?_;intro bi bu bk ar J;obtain⟨bo,bm,rfl,bc,D,J⟩:=J;have ak:=(Le.p (Le.s (AI 2)) (Le.p (Le.s (Le.p (Le.p (AI 2) (AL 2)) (Le.refl _))) (Le.refl _))).R ac;refine zP (A:=[]) (uB sizeOf32 pH ak J) λbd ao=>(AR ?_);refine xW (qV (t:=2) jG Ar I ao) ?_;intro bf ae aa;refine bP (λE S=>zS I ae E S) ?_;exact⟨_,(.cons _ (EU _)),(aj.trans ar),_,_,I,A3,(by first|exact ad|exact D|exact Ma C),aa⟩
 refine AZ ?_;refine xJ (A:=[_]) (vs:=[_]) call18 ⟨I,AW⟩ (λX w hs=>rx hl.up CK hs) I ?_;intro bh bt bj aq H;obtain⟨bn,bl,rfl,bb,C,H⟩:=H;have U:=(Le.p (Le.s (AI 2)) (Le.p (Le.s (Le.p (Le.p (AI 2) (AL 2)) (Le.refl _))) (Le.refl _))).R ac;refine zP (A:=[]) (uB sizeOf32 pH U H) λay ab=>(AN ?_);refine xW (qV (t:=2) jG Ar I ab) ?_;intro az M Z;refine bP (λE S=>zS I M E S) ?_;exact⟨_,(.cons _ (EU _)),(aj.trans aq),_,_,I,A3,(by first|exact ad|exact D|exact Ma C),Z⟩
end Go.Proofs.YtlpflnindligbaaGreat
namespace Bk
def Ns(s:Sd):Prop:=(∀f,f∈s.2.1->nG 4 f.1)/\A1 s.2.1<=1000
theorem vQ{k K:Nat}{c:Pl}(h:nG k c)(hk:k<=K):nG K c:=⟨⟨Ao h.1.1 hk,Ao h.1.2.1 hk,Ao h.1.2.2 hk⟩,Ao h.2 hk⟩
theorem R3{s:Sd}(h:Fy s):Ns s:=⟨λf hf=>vQ ((w7 h).2.2.1 f hf) Aa,(w7 h).1.2.1.1.2⟩
theorem bg{s:Sd}(h:Ns s):Ns (DA s):=by
 refine⟨λf D=>?_,by show(A1 (s.2.1.map HR))<=_;rw[Bu];exact h.2⟩;obtain⟨g,C,rfl⟩:=Cp.1 (show f∈s.2.1.map HR from D);exact Y6 (h.1 g C)
theorem p8{L:List Sd}(h:∀s,s∈L->Ns s)(hl:A1 L<=10)(n:Nat):Es (L.take n):=⟨by rw[By];omega,λs hs=>h s (HH hs)⟩
theorem QH{a b c:Sd}(ha:Fy a)(hb:Fy b)(hc:Fy c)(n:Nat):Es ([a,b,DA c].take n):=p8 (L:=[a,b,DA c]) (λs hs=>by
 rcases BY.1 hs with rfl|hs
 · exact R3 ha
 · rcases BY.1 hs with rfl|hs
   · exact R3 hb
   · rw[DP.1 hs];exact bg (R3 hc)) (show 3<=10 by decide) n
end Bk
namespace Go.Proofs.YtlpflnindligbaaGreat
open Bk Go Tryz
attribute [local irreducible] GL GC GQ W OpV
set_option maxHeartbeats 1000000 in
theorem s8{w0:AP}{h0:A4}(hs:MLe h0 (BE w0)){vl:A2}{xsl:List Int}(hl:Is h0 vl xsl):
 Ae 3 #[vl] w0 h0 (λ_ r=>r=.bool true):=by
 have bg:=hl.lt63;refine BI 51 vl func3 hs ?_;refine Ak ?_;refine cL (AU I) call9 (λw hs=>dn hs hl) λv9 h1 df bf=>?_;subst bf;refine B4 (λax=>?_) λax=>?_
 ·
  refine A5 ?_;refine cL (vs:=[]) trivial call10 (λw hs=>VU hs) λcm h2 bj av=>?_;subst av;refine AR ?_;refine zC I I ?_
  rfl
 refine AR ?_;refine uS (vs:=[_]) I I I I call11 ⟨I,AW⟩ (λw hs=>dB hs hl.up) ?_;intro cl h2 dm bj au;obtain⟨bk,rfl,rfl⟩:=au;refine AZ ?_;refine xJ (A:=[]) (vs:=[_]) call12 ⟨I,AW⟩ (λX w hs=>eX hl.up CK hs) I ?_;intro ck dk ct bw ae;obtain⟨cy,J,rfl,bs,ab,ae⟩:=ae;refine A7 ?_;refine xJ (A:=[]) (vs:=[_]) call12 ⟨I,AW⟩ (λX w hs=>eX hl.up CK hs) I ?_;intro cj dj cq bv ad;obtain⟨cw,H,rfl,br,aa,ad⟩:=ad;refine A7 ?_;refine xJ (A:=[]) (vs:=[_]) call12 ⟨I,AW⟩ (λX w hs=>eX hl.up CK hs) I ?_;intro ci di cp bu ac;obtain⟨cu,D,rfl,bq,Z,ac⟩:=ac;refine cL (AU I) call13 (λw hs=>ik hs ac (by first|omega|exact(w7 Z).1.2) dC dC dC dC) λch h3 de bd=>(zE (zL (ρ:=(BT 2 2 2 1)) (m:=3) (xs:=[J,H,DA D]) (ps':=[(0,_),(1,_),(2,_)]) underlying27 qS I I I (zW wC (zW wC wC)) e6 (zD I (AO (AA _) ([],([],[])) 0 dC) ae.up (zD I (AO (AA _) ([],([],[])) 1 dC) ad.up (zD I (AO (AA _) ([],([],[])) 2 dC) bd zO))) (show 3*3<=16777216 from by decide) nP) I I I ?_)
 rintro cg co ⟨bx,rfl,ao⟩
 refine A7 ?_;refine xJ (A:=[_]) (vs:=[_,vI (4)]) call14 Al (λX w hs=>uC hl.up CK O O hs) I ?_;intro cf dh cn bt ar;obtain⟨be,C,rfl,bp,rfl,bl,bm⟩:=ar;refine zQ (A:=[]) (ρ:=(BT 2 2 2 1)) ao.up ?_;intro h4 dd an;refine nT (F:=λv_=>(AS (BT 2 2 2 1)).Is h4 v_ ([J,H,DA D].take C.toNat)) (XZ (ρ:=(BT 2 2 2 1)) C.toNat underlying27 sizeOf32 I I an O (by(show C.toNat<=3;omega))) rW I ?_;intro ce ap;refine AZ ?_;refine cL (AU I) call15 (λw hs=>eY hs ap (by first|omega|exact QH ab aa Z _) dC dC) λay h5 dc ak=>?_;replace ak:=Rp.Is.le ak (Le.s (Le.p (AI 48) (AL 44)));refine A7 ?_;refine uS (vs:=[_]) I I I I call16 ⟨I,AW⟩ (λw hs=>ic hs ap.up (by first|omega|exact QH ab aa Z _) dC dC) ?_;intro cd h6 dl db aj;obtain⟨M,ai,aj,rfl,bn,ah⟩:=aj;obtain rfl:=PV aj
 change RL (Aj (12*2+62) (2+2+30)) h6 ai (qE ([J,H,DA D].take C.toNat) (A1 ([J,H,DA D].take C.toNat))) at ah
 refine vV ?_;refine gv (qR Ar underlying36 I) I (gv (OpV.fa (by exactλe=>e I) (dS I I)) I (fJ ?_));refine An (ι:=Nat×Nat×A4) (λ(i,U,ma)=>(MLe h6 ma/\(U<=A1 xsl/\i<=A1 (qE ([J,H,(DA D)].take C.toNat) (A1 ([J,H,(DA D)].take C.toNat)))),[(5,ay),(6,M),(35,vI (↑(A1 (qE ([J,H,DA D].take C.toNat) (A1 ([J,H,DA D].take C.toNat)))):Int)),(36,vI ↑i)],[.gs 45 12 M (A1 (qE ([J,H,DA D].take C.toNat) (A1 ([J,H,DA D].take C.toNat)))) ai,.var bk 80 [vl,vI ↑U]],ma,A1 (qE ([J,H,(DA D)].take C.toNat) (A1 ([J,H,(DA D)].take C.toNat)))-i)) (0,be,h6) ?_ ?_
 · exact⟨AM,O,O⟩
 rintro⟨i,U,ma⟩ ⟨bo,bh,da⟩
 refine yO ?_;have cz:=(QH ab aa Z C.toNat).all.2;refine Ba (λaw=>?_) λaw=>?_
 ·
  refine uG ?_;refine zG 10 _ [] (Ah 0 8 [(8,.c),(9,.q)]) zX nX Ac nX (λr hr=>hr) (A5 ?_);refine wX I (xI (zT,(0:Rat)) i underlying36 qZ ak) λcc bc=>(wX I (xA qZ bc) λcb bb=>(A5 ?_));refine B3 I (λh' L' hh hR=>(yG i (hR _ Ar) underlying36 sizeOf45 I I I bO nP).cv (show _=zH 1 M ((i*12+0)) from AJ (zH 1 M) B5)) I (fL (F:=λv_=>(Aj (12*2+62) (2+2+30)).Is ma v_ (A0 (qE ([J,H,DA D].take C.toNat) (A1 ([J,H,DA D].take C.toNat))) i (zT,(0:Rat)))) I (xO qZ (AO (AA _) (zT,(0:Rat)) i bO) I nP I ah.up I) (gH Ar) I ?_);intro ca ba;refine AB I (sC (AK I I) call17 (λw hs=>pu hs bb (ba.le (Le.p (Le.refl _) (AL 48))) dC dC dC) λam h7 bi az=>?_);obtain rfl:am=.bool true:=by rw[show am=vB ((A0 (qE ([J,H,DA D].take C.toNat) (A1 ([J,H,DA D].take C.toNat))) i (zT,(0:Rat)))=(A0 (qE ([J,H,DA D].take C.toNat) (A1 ([J,H,DA D].take C.toNat))) i (zT,(0:Rat)))) from az,yU B5]
  refine wK I (λ_ _=>XD I) I (vV ?_);refine Ad ((i+1),U,h7) ?_ ?_
  · exact⟨AM,O,O⟩
  omega
 refine Af ?_;refine cL (vs:=[]) trivial call10 (λw hs=>VU hs) λbz h7 bi aq=>?_;subst aq;refine AF ?_;refine zC I I ?_
 rfl
end Go.Proofs.YtlpflnindligbaaGreat
