/- Texts that the proof needs, part 7. -/
import Derived.Test.YtlpflnindligbaaGreatKA6
set_option linter.unusedVariables false
set_option linter.unusedSimpArgs false
set_option maxRecDepth 10000
set_option maxHeartbeats 1000000
open List renaming length→A1,getD→A0
open Go renaming World→AP,Value→A2,Act→Av,Operand→Ag,Program→D,Oper→AY,Exit→BH,TypeId→Ab
namespace Go.Proofs.YtlpflnindligbaaGreat
open Bk Go Tryz
attribute [local irreducible] GL GC GQ W OpV
theorem Vj:GV prog 159 187 4 3:=⟨underlying159,underlying187,underlying3,sizeOf3,isAgg3,YI OM rfl⟩
theorem oq{w0 w:AP}{h0 h:A4}{k m n j:Nat}{vs:A2}{s:Sd}(rs:(BT k m n j).Is h vs s){vl:A2}{l:List Int}(rl:(AS A9).Is h vl l){b bm ck:Nat}{cs ces:List A2}{vf ve:A2}{EE:List (List Pt)}{es:Array MapEntry}{T:List D7}(rb:(A6 Az Az).R h cs (vf,ve))(ho0:ve.oneCell'=true)(re:RL (BO 2 (AD (k+1))) h ces EE)(hm0:nR es T)(hEE:EE=T.map (FH s.1))(H0:∀u,u<A1 l->0<=A0 l u 0/\A0 l u 0<A1 s.1)(H1:A1 l<=10000/\A1 T<=10000000/\A1 s.1<=100000)(H2:k<=1000000){L:List AG}(hs:St w0 h0 (.var b 106 cs::.gs 216 18 ve (A1 EE) ces::.blk bm (.map es ck)::L) h w):
 Calls prog 141 #[vP b 0,vs,vl,.map (some bm)] w (gV w0 h0 (λg v K=>∃Qs',(Qs'++L).Sublist K/\MLe h g/\∃cs' ve' ces' es' ck',Qs'=[.var b 106 cs',.gs 216 18 ve' (A1 ((DD s.1 l T (A1 l)).map (FH s.1))) ces',.blk bm (.map es' ck')]/\(A6 Az Az).R g cs' (vf,ve')/\ve'.oneCell'=true/\RL (BO 2 (AD (k+1))) g ces' ((DD s.1 l T (A1 l)).map (FH s.1))/\nR es' (DD s.1 l T (A1 l)))):=by
 refine jZ (n:=77) (e:=[(0,vP b 0),(1,vs),(2,vl),(3,.map (some bm))]) (vs:=[vP b 0,vs,vl,.map (some bm)]) func141 rfl rfl (bL rfl) hs BR (A5 ?_);refine nB rs λb5 cd ai=>(vV ?_);refine An (ι:=Nat×List (List Pt)×List D7×List A2×A2×List A2×Array MapEntry×Nat×A4) (λ(u,E2,T2,Z,C,U,M,aa,ma)=>(MLe h ma/\((A6 Az Az).R ma Z (vf,C)/\RL (BO 2 (AD (k+1))) ma U E2/\C.oneCell'=true/\nR M T2/\u<=A1 l/\T2=DD s.1 l T u/\E2=T2.map (FH s.1)),[(0,vP b 0),(2,vl),(3,.map (some bm)),(5,vP b5 0),(12,vl),(13,vI (↑(A1 (l)):Int)),(14,vI ↑u)],(.var b5 32 cd::.var b 106 Z::.gs 216 18 C (A1 E2) U::.blk bm (.map M aa)::L),ma,A1 l-u)) (0,EE,T,cs,ve,ces,es,ck,h) ?_ ?_
 · exact⟨AM,rb,re,ho0,hm0,A3,I,hEE⟩
 rintro⟨u,E2,T2,Z,C,U,M,aa,ma⟩ ⟨av,H,ac,ad,J,dw,ae,ah⟩
 refine yO ?_;have cb:=T8 s.1 l T u;rw[<-ae] at cb;have dz:A1 E2=A1 T2:=by rw[ah];exact Bu _
 refine Ba (λax=>?_) λax=>?_
 ·
  have dy:=H0 u O;have dx:=H0 ((u+1)%A1 l) (BQ _ O);refine Af ?_;refine lX (xI (0:Int) u underlying22 B8 rl) λdt ca=>(lX (xA B8 ca) λdr bz=>?_);obtain⟨rfl,cm,ch⟩:=jV bz;refine uG ?_;refine gv (wI I I O O) I (lX (xI (0:Int) ((u+1)%A1 l) underlying22 B8 rl (hi:=by exact BQ _ O)) λdq bx=>(lX (xA B8 bx) λdp bw=>?_));obtain⟨rfl,cl,cg⟩:=jV bw;refine Af ?_;refine gv (V2 I I) I (A5 ?_);refine gv (T5 I I) I (lX (xV (ρ:=(BO 2 A9)) (xD (ps':=[(0,_),(1,_)]) underlying187 j8 I I sizeOf3 BR I (lQ 2 wT) (zD I (AO (AA _) (0:Int) 0 dC) (vC O O) (zD I (AO (AA _) (0:Int) 1 dC) (vC O O) zO)))) λdn bv=>(nA (ρ:=(BO 2 A9)) (X:=(List.replicate 2 (0:Int))) j8 (lQ 2 wT) λec co au=>(zP (A:=[]) (uB sizeOf187 pH au bv) λcc D=>(AN ?_))));refine zG 18 _ [] (Ah 0 15 [(15,.c),(16,.q),(17,.q)]) zX nX (xU Ac) nX (λr hr=>hr) (A7 ?_)
  let eX0:=(A0 l ((u+1)%A1 l) (0:Int))
  let eX1:=(A0 l u (0:Int))
  refine wX I (xB Wj pH D) λdm bu=>(B3 I (λh' L' hh hR=>gn (u:=((min eX1 eX0),(max eX1 eX0))) Vj (hR _ Eg) I (WH I (ZF (bu.mono hh))) J) I (A5 ?_));refine qC (¬(((min eX1 eX0),(max eX1 eX0))∈T2)) (λab=>?_) (λab=>?_)
  ·
   rw[yU ab];refine A7 ?_;refine oX I (xB uN (AT pH) ai) λdl bt=>(yS I I I (λh' L' hh hR=>xK I) I (oX I (xI zT (eX1.toNat) underlying28 zI bt) λdk bs=>(oX I (xA zI bs) λdj br=>(A7 ?_))));refine oX I (xB uN (AT pH) ai) λdi bq=>(yS I I I (λh' L' hh hR=>xK I) I (oX I (xI zT (eX0.toNat) underlying28 zI bq) λdh bp=>(oX I (xA zI bp) λdf bo=>?_)));refine AB I (ES I I (sC (AK I I) call198 (λw hs=>U6 hs br bo O) λba h1 eb bn=>?_));obtain rfl:ba=vB ((A0 s.1 (eX1.toNat) zT)=(A0 s.1 (eX0.toNat) zT)):=bn;refine Ca (λaw=>?_) λaw=>?_
   ·
    refine AN ?_;refine lX (xB Wj pH D) λde bl=>(uf (A:=[_,_,_,_]) (u:=((min eX1 eX0),(max eX1 eX0))) Vj I (WH I (ZF bl)) I J Bl ?_);intro ao an;refine A5 ?_;refine qM (A:=[_,_,_]) 22 [] (Ah 0 18 [(18,.c),(19,.c),(20,.q),(21,.q),(22,.t)]) zX nX (xU Ac) nX (A5 ?_);refine wK I (λ_ _=>gX I) I (wK I (λ_ _=>(fI underlying106 I sizeOf104 I).cv (show _=vP b 1 from AJ (vP b) B5)) I (wX I (sR (xB Zi (AQ pH) H)) λdd bk=>?_));subst bk;refine A7 ?_;refine wX I (xB uN (AT pH) ai) λdc bj=>(A7 ?_);refine wX I (xB B8 (AO pH (0:Int) 0 dC) D) λdb bi=>?_;obtain⟨rfl,cj,cf⟩:=jV bi;refine fL (F:=λv_=>C4 (AD k) h1 v_ (A0 s.1 ((min eX1 eX0).toNat) zT)) I (kW zT ((min eX1 eX0).toNat) underlying28 zI I I bj (by(show(min eX1 eX0)=_;omega)) O nP) rW I ?_;intro da bh;refine wX I (xA zI bh) λcz bg=>(A7 ?_);refine wX I (xB uN (AT pH) ai) λcy bf=>(A7 ?_);refine wX I (xB B8 (AO pH (0:Int) 1 dC) D) λcw be=>?_;obtain⟨rfl,ci,ce⟩:=jV be;refine fL (F:=λv_=>C4 (AD k) h1 v_ (A0 s.1 ((max eX1 eX0).toNat) zT)) I (kW zT ((max eX1 eX0).toNat) underlying28 zI I I bf (by(show(max eX1 eX0)=_;omega)) O nP) rW I ?_;intro cu bd;refine wX I (xA zI bd) λct bc=>(wX I (xV (ρ:=(BO 2 (AD (k+1)))) (xD (ps':=[(0,_),(1,_)]) underlying216 OS I I sizeOf43 BR I (lQ 2 (yN (zR O))) (zD I (AO (AA _) zT 0 dC) (bg.le (AI (k+1))) (zD I (AO (AA _) zT 1 dC) (bc.le (AI (k+1))) zO)))) λcq bb=>?_);refine AB I (tV (λX=>zL (ρ:=(BO 2 (AD (k+1)))) (m:=1) (xs:=[[(A0 s.1 ((min eX1 eX0).toNat) zT),(A0 s.1 ((max eX1 eX0).toNat) zT)]]) (ps':=[(0,_)]) underlying104 OS I I I (lQ 2 (yN (zR O))) Al (zD I (AO (AA _) B6 0 dC) bb zO) (show 1*18<=16777216 from by decide) nP) I ?_)
    rintro cp dv ⟨cn,rfl,ar⟩
    refine AB I (vX (A:=[]) (ρ:=(BO 2 (AD (k+1)))) ar dK ?_);intro h2 ea ak;refine kP (A:=[_,_,_]) (λX=>uD (zN (ρ:=(BO 2 (AD (k+1)))) (bytes:=336) underlying104 OS I I I I nP I I ac.up ak bO bO)) I (yP BU) ?_
    rintro az du ⟨aj,ay,rfl,aq⟩
    refine wK I (λ_ _=>gX I) I (wK I (λ_ _=>(fI underlying106 I sizeOf104 I).cv (show _=vP b 1 from AJ (vP b) B5)) I (yD (A:=[_,_]) I (uB sizeOf104 (AQ pH) H (oH aj)) λap am=>(Af ?_)));refine yE (A:=[]) ?_;refine Ad ((u+1),(E2++[[(A0 s.1 ((min eX1 eX0).toNat) zT),(A0 s.1 ((max eX1 eX0).toNat) zT)]]),(T2++[((min eX1 eX0),(max eX1 eX0))]),ap,az,ay,ao,(aa+1),h2) ?_ ?_
    · exact⟨AM,am,aq,aj,an,A3,d8 ae Bl Bl,t4 ah⟩
    omega
   refine Af ?_;refine yE (A:=[]) ?_;refine Ad ((u+1),E2,T2,Z,C,U,M,aa,h1) ?_ ?_
   · exact⟨AM,H.up,ac.up,ad,J,A3,qh ae Bl,ah⟩
   omega
  rw[yH ab];refine vV ?_;refine AB I (bD I I I I (uF ?_));refine yE (A:=[]) ?_;refine Ad ((u+1),E2,T2,Z,C,U,M,aa,ma) ?_ ?_
  · exact⟨AM,H.up,ac.up,ad,J,A3,c6 ae Bl,ah⟩
  omega
 have eu:u=A1 l:=by omega
 subst eu ah ae;refine AF ?_;refine Ug I ?_;exact⟨_,(.cons _ (.cons_cons _ (.cons_cons _ (.cons_cons _ (EU _))))),av,_,_,_,_,_,I,H.up,ad,ac.up,J⟩
section
variable{w0:AP}{h0:A4}(hs:MLe h0 (BE w0))
include hs
theorem nk{k m n j:Nat}{vs:A2}{s:Sq}(rs:(BT k m n j).Is h0 vs s)(H0:CF s)(H1:Dv s)(H2:k<=1000000)(H3:m<=1000000)(H4:n<=1000000):
 Ae 70 #[vs] w0 h0 (λh r=>(A6 (AS (A6 (Aj (m+1) (n+1)) (A6 (C1 (k+1)) (A6 A9 A9)))) (AS (BO 2 (AD (k+1))))).Is h r (aF s)):=by
 have ga:=H0.1.1.1;have fz:=H0.1.1.2;refine BI 57 vs func70 hs ?_;refine A5 ?_;refine nB rs λb1 dd ax=>(nA (ρ:=(A6 (AS (A6 (Aj 1 1) (A6 (C1 1) (A6 A9 A9)))) (AS (BO 2 (AD 1))))) (X:=([],[])) Sa (zW wC wC) λb2 dc dk=>(AF ?_));refine nA (ρ:=(A6 Az Az)) (X:=((A2.slice none 0 0),(A2.slice none 0 0))) Sa (zW fG fG) λb3 ep dj=>(AF ?_);refine zE Ys I I I ?_
 rintro fs fv ⟨ba,rfl,rfl⟩
 refine Af ?_;refine lX (xB kO (AQ (AT pH)) ax) λcm eh=>(AR ?_);refine yX 161 15 ?_;have co:=RL.nil (ρ:=A6 (Aj (m+1) (n+1)) (A6 (C1 (k+1)) (A6 A9 A9))) (h:=h0);refine yX 216 18 ?_;have cn:=RL.nil (ρ:=BO 2 (AD (k+1))) (h:=h0);refine An (ι:=Nat×List Fm×List (List Pt)×List D7×List A2×A2×List A2×A2×List A2×Array MapEntry×Nat×A4) (λ(f,FF,E2,T2,aa,U,ap,Z,ah,ac,an,ma)=>(MLe h0 ma/\((A6 Az Az).R ma aa (U,Z)/\RL (A6 (Aj (m+1) (n+1)) (A6 (C1 (k+1)) (A6 A9 A9))) ma ap FF/\U.oneCell'=true/\RL (BO 2 (AD (k+1))) ma ah E2/\Z.oneCell'=true/\nR ac T2/\f<=A1 s.2.1/\FF=NT s f/\T2=Fq s f/\E2=T2.map (FH s.1)),[(1,vP b1 0),(2,vP b2 0),(3,vP b3 0),(4,.map (some ba)),(12,cm),(13,vI (↑(A1 (s.2.1)):Int)),(14,vI ↑f)],[.gs 216 18 Z (A1 E2) ah,.gs 161 15 U (A1 FF) ap,.blk ba (.map ac an),.var b3 106 aa,.var b2 106 dc,.var b1 32 dd],ma,A1 s.2.1-f)) (0,[],[],[],ep,(.slice none 0 0),[],(.slice none 0 0),[],#[],0,h0) ?_ ?_
 · exact⟨AM,dj,co,I,cn,I,pA,A3,I,I,I⟩
 rintro⟨f,FF,E2,T2,aa,U,ap,Z,ah,ac,an,ma⟩ ⟨eu,ao,bb,ct,au,bz,cb,gc,cd,cz,da⟩
 refine yO ?_;have gf:A1 FF=f:=by rw[cd];exact xN _ _
 refine Ba (λcy=>?_) λcy=>?_
 ·
  have M:=H0.2.1 f O;have fw:=Sy H0 f O;have ge:=x7 (A0 s.2.1 f zA).1.1;refine AZ ?_;refine lX (xI zA f underlying29 tT eh) λfr eg=>(lX (xA tT eg) λfq ee=>(nA (ρ:=(BP 1 1)) (X:=((zT,(0:Rat)),([],([]:List Nat)))) jR (zW (zW (yN (zR dC)) (zR dC)) (zW wC jQ)) λb6 gh di=>?_));have bi:=(Le.p (Le.p (AI (m+1)) (AL (n+1))) (Le.refl _)).R di;refine zP (A:=[]) (uB sizeOf53 pH bi (ee.le (Le.p (Le.p (AI (m+1)) (AL (n+1))) (Le.refl _)))) λcj J=>(AR ?_);refine lX (xB qZ (AT pH) J) λfp ed=>(lX (xV (ρ:=(A6 (Aj (m+1) (n+1)) (A6 (C1 1) (A6 A9 A9)))) (xL (ps':=[(0,_)]) underlying161 j9 I I (dA underlying161) Al I (zW (zW (yN (zR O)) (zR O)) (zW wC (zW wT wT))) (zD I (AT (AA _)) ed zO))) λfo ec=>(nA (ρ:=(A6 (Aj 1 1) (A6 (C1 1) (A6 A9 A9)))) (X:=((zT,(0:Rat)),([],((0:Int),(0:Int))))) j9 (zW (zW (yN (zR dC)) (zR dC)) (zW wC (zW wT wT))) λb7 gg dh=>?_));have bh:=(Le.p (Le.p (AI (m+1)) (AL (n+1))) (Le.refl _)).R dh;refine zP (A:=[]) (uB sizeOf161 pH bh ec) λeo bv=>(AR ?_);refine lX (xB jG pH ax) λfm eb=>(lX (xB tT pH J) λfl ea=>(cL (AK I I) call140 (λw hs=>tc hs (eb.le (Le.p (Le.refl _) (Le.p (Le.s (Le.p (Le.p (AI (m+1)) (AL (n+1))) (Le.refl _))) (Le.refl _)))) ea (by first|omega|exactλu v C hv=>H1 f O u C v hv|exactλu C=>Ao (M.2 u C) dC) (by first|omega|exactλu v C hv=>H1 f O u C v hv|exactλu C=>Ao (M.2 u C) dC) (by first|omega|exactλu v C hv=>H1 f O u C v hv|exactλu C=>Ao (M.2 u C) dC) (by first|omega|exactλu v C hv=>H1 f O u C v hv|exactλu C=>Ao (M.2 u C) dC)) λcl h1 cv dz=>?_));obtain rfl:cl=.bool true:=by rw[show cl=vB (True) from dz,yU (by trivial)]
  refine AR ?_;refine lX (xB jG pH ax) λfk dy=>(lX (xB tT pH J) λfj dx=>(cL (AK I I) call117 (λw hs=>dW hs (dy.le (Le.p (Le.refl _) (Le.p (Le.s (Le.p (Le.p (AI (m+1)) (AL (n+1))) (Le.refl _))) (Le.refl _)))) dx (by first|omega|exactλu v C hv=>H1 f O u C v hv|exactλu C=>Ao (M.2 u C) dC) (by first|omega|exactλu v C hv=>H1 f O u C v hv|exactλu C=>Ao (M.2 u C) dC) (by first|omega|exactλu v C hv=>H1 f O u C v hv|exactλu C=>Ao (M.2 u C) dC) (by first|omega|exactλu v C hv=>H1 f O u C v hv|exactλu C=>Ao (M.2 u C) dC)) λfi h2 cu dw=>(A7 ?_)));have bg:=(Le.p (Le.refl _) (Le.p (Le.s (Le.s (AI (k+1)))) (Le.refl _))).R bv;refine zP (A:=[]) (uB sizeOf61 (AQ (AT pH)) bg dw) λen bu=>(AZ ?_);refine lX (xB zI (AT (AT pH)) J) λfh dv=>(cL (AU I) call122 (λw hs=>j4 hs dv O) λfg h3 gb du=>?_);obtain rfl:=du;refine AF ?_;refine zP (A:=[]) (uB sizeOf3 (AQ (AQ (AT pH))) bu (vC (z:=(↑(As (((A0 s.2.1 f zA).1).1)):Int)) O O)) λem bt=>(A7 ?_);refine zP (A:=[]) (uB sizeOf3 (AQ (AQ (AQ pH))) bt (vC (z:=(↑(At (((A0 s.2.1 f zA).1).1)):Int)) O O)) λci bs=>(AR ?_);refine lX (xB cM (AQ (AT pH)) J) λdf dt=>(AR ?_);refine An (ι:=Nat×List Fm×List (List Pt)×List D7×List A2×A2×List A2×A2×List A2×Array MapEntry×Nat×A4) (λ(q,F3,E3,T3,ak,D,ae,H,ad,ab,am,mb)=>(MLe h3 mb/\((A6 Az Az).R mb ak (D,H)/\RL (A6 (Aj (m+1) (n+1)) (A6 (C1 (k+1)) (A6 A9 A9))) mb ae F3/\D.oneCell'=true/\RL (BO 2 (AD (k+1))) mb ad E3/\H.oneCell'=true/\nR ab T3/\q<=A1 (A0 s.2.1 f zA).2.1/\F3=NT s f/\T3=H5 s.1 (A0 s.2.1 f zA).2.1 (Fq s f) q/\E3=T3.map (FH s.1)),[(1,vP b1 0),(2,vP b2 0),(3,vP b3 0),(4,.map (some ba)),(7,vP b7 0),(12,cm),(13,vI (↑(A1 (s.2.1)):Int)),(14,vI ↑f),(38,df),(39,vI (↑(A1 (((A0 s.2.1 f zA).2).1)):Int)),(40,vI ↑q)],[.var b7 161 ci,.var b6 53 cj,.gs 216 18 H (A1 E3) ad,.gs 161 15 D (A1 F3) ae,.blk ba (.map ab am),.var b3 106 ak,.var b2 106 dc,.var b1 32 dd],mb,A1 (A0 s.2.1 f zA).2.1-q)) (0,FF,E2,T2,aa,U,ap,Z,ah,ac,an,h3) ?_ ?_
  · exact⟨AM,ao.up,bb.up,ct,au.up,bz,cb,A3,cd,cz,da⟩
  rintro⟨q,F3,E3,T3,ak,D,ae,H,ad,ab,am,mb⟩ ⟨es,aj,ar,bx,aq,av,aw,fx,ce,cc,bd⟩
  refine yO ?_;refine Ba (λcw=>?_) λcw=>?_
  ·
   have fy:=M.2 q O;have ej:=Rq M.2 s.1 (Fq s f) q O;rw[<-cc] at ej;refine AZ ?_;refine lX (xI [] q underlying51 fH dt) λff dr=>(lX (xA fH dr) λfe dq=>(AF ?_));refine lX (xB jG pH ax) λfd dp=>(A5 ?_);refine y8 (A:=[_,_,_,_]) (y8 (A:=[_,_,_]) (y8 (A:=[_,_,_,_,_]) ?_));refine ip (vs:=[_,_,_,_]) (Qs:=[_,_,_]) (List.Perm.refl _) call141 BR (λw hs=>oq dp dq aj av aq aw bd (λu C=>H1 f O q O u C) ⟨A3,A3,A3⟩ H2 hs) I ?_;intro fc h4 gi ek ei;obtain⟨ch,be,az,cf,ck,rfl,br,bw,bn,ca⟩:=ei;refine Ph (A:=[_,_,_,_,_]) (Ph (A:=[_,_,_]) (Ph (A:=[_,_,_,_]) (Af ?_)));refine Ad ((q+1),F3,((DD s.1 (A0 (A0 s.2.1 f zA).2.1 q []) T3 (A1 (A0 (A0 s.2.1 f zA).2.1 q []))).map (FH s.1)),(DD s.1 (A0 (A0 s.2.1 f zA).2.1 q []) T3 (A1 (A0 (A0 s.2.1 f zA).2.1 q []))),ch,D,ae,be,az,cf,ck,h4) ?_ ?_
   · exact⟨AM,br,ar.up,bx,bn,bw,ca,A3,ce,by rw[cc];rfl,I⟩
   omega
  have eq:q=A1 (A0 s.2.1 f zA).2.1:=by omega
  have ev:A1 F3=f:=by rw[ce];exact xN _ _
  refine Af ?_;refine lX (sR (xB SW (AT pH) aj)) λfb dn=>?_;subst dn;refine lX (xB IT pH bs) λfa dm=>(zE (zL (ρ:=(A6 (Aj (m+1) (n+1)) (A6 (C1 (k+1)) (A6 A9 A9)))) (m:=1) (xs:=[((A0 s.2.1 f zA).1,(wG s.1 (A0 s.2.1 f zA).2.1 (A1 (A0 s.2.1 f zA).2.1),((↑(As (((A0 s.2.1 f zA).1).1)):Int),(↑(At (((A0 s.2.1 f zA).1).1)):Int))))]) (ps':=[(0,_)]) underlying103 j9 I I I (zW (zW (yN (zR O)) (zR O)) (zW wC (zW wT wT))) Al (zD I (AO (AA _) BG 0 dC) dm zO) (show 1*15<=16777216 from by decide) nP) I I I ?_)
  rintro ez fu ⟨ew,rfl,cq⟩
  refine zQ (A:=[]) (ρ:=(A6 (Aj (m+1) (n+1)) (A6 (C1 (k+1)) (A6 A9 A9)))) cq ?_;intro h4 ek bl;refine yY (A:=[_,_,_]) (uD (zN (ρ:=(A6 (Aj (m+1) (n+1)) (A6 (C1 (k+1)) (A6 A9 A9)))) (bytes:=264) underlying103 j9 I I I I nP I I ar.up bl bO bO)) I I I ?_
  rintro de ft ⟨bc,db,rfl,cp⟩
  refine A7 ?_;refine zP (A:=[_,_,_,_,_]) (uB sizeOf103 (AT pH) aj (oH bc)) λcg bq=>(Af ?_);refine yE (A:=[]) (yE (A:=[]) ?_);refine Ad ((f+1),(F3++[((A0 s.2.1 f zA).1,(wG s.1 (A0 s.2.1 f zA).2.1 (A1 (A0 s.2.1 f zA).2.1),((↑(As (((A0 s.2.1 f zA).1).1)):Int),(↑(At (((A0 s.2.1 f zA).1).1)):Int))))]),E3,T3,cg,de,db,H,ad,ab,am,h4) ?_ ?_
  · exact⟨AM,bq,cp,bc,aq.up,av,aw,A3,by rw[ce];rfl,by rw[cc,eq];rfl,bd⟩
  omega
 have ef:f=A1 s.2.1:=by omega
 refine Af ?_;refine zQ (A:=[_]) (ρ:=(A6 (Aj (m+1) (n+1)) (A6 (C1 (k+1)) (A6 A9 A9)))) bb.up ?_;intro h1 cv bk;replace ao:=ao.mono cv;have ai:(A6 (AS (A6 (Aj (m+1) (n+1)) (A6 (C1 (k+1)) (A6 A9 A9)))) Az).R h1 aa (FF,(U,Z).2):=Me ao bk;refine zQ (A:=[]) (ρ:=(BO 2 (AD (k+1)))) au.up ?_;intro h2 cu bj;replace ai:=ai.mono cu;have bp:(A6 (AS (A6 (Aj (m+1) (n+1)) (A6 (C1 (k+1)) (A6 A9 A9)))) (AS (BO 2 (AD (k+1))))).R h2 aa (FF,E2):=hU ai bj;refine lX (xB HY pH bp) λey dl=>?_;have bf:=(Le.p (Le.s (Le.p (Le.p (AI (m+1)) (AL (n+1))) (Le.p (Le.s (Le.s (AI (k+1)))) (Le.refl _)))) (Le.s (Le.a (AI (k+1))))).R dk;refine zP (A:=[_,_]) (uB sizeOf106 pH bf dl) λel bo=>(AN ?_);refine xW (qV (t:=2) HY C6 I bo) ?_;intro er ay bm;refine yI (λE S=>zS I ay E S) ?_;exact(Rp.Is.cast bm (by rw[cd,da,cz,ef];rfl))
theorem dl{m n k j:Nat}{vmd:A2}{md:((List (Pq×((List (List Tq))×(Int×Int))))×(List (List Tq)))}(rmd:(A6 (AS (A6 (Aj m n) (A6 (C1 k) (A6 A9 A9)))) (AS (BO 2 (AD k)))).Is h0 vmd md){vp:A2}{p:Tq}(rp:(AD j).Is h0 vp p)(H0:k<=20000000)(H1:j<=20000000)(H2:m<=20000)(H3:n<=20000)(H4:JF md):
 Ae 142 #[vmd,vp] w0 h0 (λh r=>r=.tuple #[vI (↑(P4 md p):Int),vB (Dg md p)]):=by
 refine B0 35 vmd vp func142 hs ?_;refine A5 ?_;refine nB rmd λb2 ae ak=>(nB rp λb3 ad Z=>(AX ?_));refine lX (xB SW (AT pH) ak) λv9 r9=>(AR ?_);refine An (ι:=Nat×A4) (λ(f,ma)=>(MLe h0 ma/\(f<=A1 md.1/\∀u,u<f->¬GU md p u),[(3,vP b3 0),(9,v9),(10,vI (↑(A1 (md.1)):Int)),(11,vI ↑f)],[.var b3 43 ad,.var b2 106 ae],ma,A1 md.1-f)) (0,h0) ?_ ?_
 · exact⟨AM,A3,λu h=>by omega⟩
 rintro⟨f,ma⟩ ⟨az,bk,J⟩
 refine yO ?_;have bi:=H4.1;refine Ba (λab=>?_) λab=>?_
 ·
  refine Af ?_;refine lX (xI BG f underlying103 IT r9) λbg av=>(lX (xA IT av) λbf au=>(nA (ρ:=(A6 (Aj 1 1) (A6 (C1 1) (A6 A9 A9)))) (X:=((zT,(0:Rat)),([],((0:Int),(0:Int))))) j9 (zW (zW (yN (zR dC)) (zR dC)) (zW wC (zW wT wT))) λb7 bl aj=>(A7 ?_)));have U:=(Le.p (Le.p (AI (m+1)) (AL (n+1))) (Le.p (Le.s (Le.s (AI (k+1)))) (Le.refl _))).R aj;refine zP (A:=[]) (uB sizeOf161 pH U (au.le (Le.p (Le.p (AI (m+1)) (AL (n+1))) (Le.p (Le.s (Le.s (AI (k+1)))) (Le.refl _))))) λac C=>(AR ?_);refine lX (xB qZ (AT pH) C) λbe ar=>(lX (xB zI pH Z) λbd aq=>(cL (AK I I) call199 (λw hs=>Yg hs ar aq O O O) λai h1 bj ap=>?_));obtain rfl:ai=vI (B7 ((A0 md.1 f BG).1) p):=ap;have aw:=sV ((A0 md.1 f BG).1) p;refine A7 ?_
  let eX0:=(((B7 ((A0 md.1 f BG).1) p)=(0:Int))/\((0:Int)<(↑(A1 (((A0 md.1 f BG).2).1)):Int)))
  refine gU 6 26 (vB eX0) ?_ ?_
  ·
   refine zY ((B7 ((A0 md.1 f BG).1) p)=(0:Int)) (λD=>?_) (λD=>?_)
   ·
    refine gT D I (AN ?_);refine lX (xB R5 (AQ (AT pH)) C) λbc bh=>(AZ ?_);refine Ay ?_;exact AV (xE D)
   refine gF D I (AZ ?_);refine Ay ?_;exact AV (xG D)
  refine uH (ι:=A4) 6 (λm_=>MLe h1 m_) (λ_=>[(32,vB (eX0/\((0:Int)<=(I5 (A0 md.1 f BG) p)))),(3,vP b3 0),(9,v9),(10,vI (↑(A1 (md.1)):Int)),(11,vI ↑f),(6,vI ↑f)]) (λ_=>[.var b7 161 ac,.var b3 43 ad,.var b2 106 ae]) (λm_=>m_) ?_ ?_
  ·
   refine zY eX0 (λD=>?_) (λD=>?_)
   ·
    refine gT D I (A7 ?_);refine lX (xB IT pH C) λbb ao=>(A7 ?_);refine lX (xB zI pH Z) λba an=>(A7 ?_);refine cL (AK I I) call200 (λw hs=>UD hs ao an O O (by first|omega|exact H4.2.2 f O)) λah h2 ay am=>?_;obtain rfl:ah=vI (I5 (A0 md.1 f BG) p):=am;refine AF ?_;refine zV h2 ay ⟨?_,I,I,I,I,I,AW⟩ I I;exact AV (xE D)
   refine gF D I (AZ ?_);refine zV h1 (MLe.refl _) ⟨?_,I,I,I,I,I,AW⟩ I I;exact AV (xG D)
  intro H M;refine fM ?_;refine BB (λaa=>?_) λaa=>?_
  ·
   have ax:GU md p f:=by show((_/\_)/\_);omega
   obtain⟨e1,e2⟩:=mx O ax J;refine tQ ?_;refine wS I I I ?_;rw[e1,yU e2]
  refine Af ?_;refine yE (A:=[]) ?_;refine Ad ((f+1),H) ?_ ?_
  · exact⟨AM,A3,wZ (Q:=λu=>¬GU md p u) J (by show ¬((_/\_)/\_);omega)⟩
  omega
 obtain⟨e1,e2⟩:=fw (md:=md) (p:=p) (λu hu=>J u O);refine uF ?_;refine wS I I I ?_;rw[e1,yH e2];rfl
theorem oe{m n k j:Nat}{vmd:A2}{md:((List (Pq×((List (List Tq))×(Int×Int))))×(List (List Tq)))}(rmd:(A6 (AS (A6 (Aj m n) (A6 (C1 k) (A6 A9 A9)))) (AS (BO 2 (AD k)))).Is h0 vmd md){vp:A2}{p:Tq}(rp:(AD j).Is h0 vp p)(H0:k<=10000)(H1:j<=1000000)(H2:JF md)(H3:CW md p<=3*A1 md.2+1)(H4:G9 md p (vK ↑(CW md p))):
 Ae 202 #[vmd,vp] w0 h0 (λh r=>(AD 2).Is h r (vK ↑(CW md p))):=by
 have fd:=H2.2.1;refine B0 75 vmd vp func202 hs ?_;refine A5 ?_;refine nB rmd λb2 bg cd=>(nB rp λb3 bf bj=>(nA (ρ:=(AD 2)) (X:=zT) yA (yN (zR dC)) λb4 be cc=>(A5 ?_)));refine to (Ak ?_);refine lX (xB Zi (AQ pH) cd) λbz dd=>(AR ?_);refine yX 246 19 ?_;have bi:=RL.nil (ρ:=A6 (AD (4*j+4*k+15)) (A6 (AD (2*k+4)) DE)) (h:=h0);refine An (ι:=Nat×List HA×A2×List A2×A4) (λ(q,D,C,J,ma)=>(MLe h0 ma/\(RL (A6 (AD (4*j+4*k+15)) (A6 (AD (2*k+4)) DE)) ma J D/\q<=A1 md.2/\D=Ff p md.2 q),[(3,vP b3 0),(4,vP b4 0),(5,C),(14,bz),(15,vI (↑(A1 (md.2)):Int)),(16,vI ↑q)],[.gs 246 19 C (A1 D) J,.var b4 43 be,.var b3 43 bf,.var b2 106 bg],ma,A1 md.2-q)) (0,[],(.slice none 0 0),[],h0) ?_ ?_
 · exact⟨AM,bi,A3,I⟩
 rintro⟨q,D,C,J,ma⟩ ⟨dv,aa,fc,hD⟩
 refine yO ?_;have fg:A1 D=q:=by rw[hD];exact xN _ _
 refine Ba (λbr=>?_) λbr=>?_
 ·
  refine AZ ?_;refine lX (xI B6 q underlying104 Zm dd) λfa dc=>(lX (xA Zm dc) λez db=>(nA (ρ:=(BO 2 (AD (k+1)))) (X:=B6) OS (lQ 2 (yN (zR O))) λb7 fh cb=>(zP (A:=[]) (uB sizeOf216 pH cb (db.le (Le.a (AI (k+1))))) λdy U=>(AN ?_))));refine zG 11 _ [(10,(8,246,[.bool false,.slice none 0 0,.slice none 0 0,.bool false,.slice none 0 0,.slice none 0 0,.bool false,.slice none 0 0,.slice none 0 0,.bool false,.slice none 0 0,.slice none 0 0,.bool false,.slice none 0 0,.slice none 0 0,.bool false,.slice none 0 0,.slice none 0 0,.bool false]))] [(0,.q),(1,.q),(2,.q),(4,.q),(5,.q),(6,.q),(3,.c),(7,.c),(8,.c),(9,.q),(10,.a),(11,.t)] zX (uY.cons I I (vG iG I I) uY.nil) (xU Ac) (vH I I qT) (λr hr=>hr) (A7 ?_);refine wX I (xB zI (AO pH zT 0 dC) U) λey da=>(wX I (xB zI pH bj) λew cz=>(A7 ?_));refine wX I (xB zI (AO pH zT 1 dC) U) λeu cy=>(wX I (xB zI pH bj) λes cw=>?_);refine AB I (sC (AK I I) call92 (λw hs=>eR hs da cz O) λev h1 dl bb=>?_);replace bb:=Rp.Is.le bb (AI (j+k+3));refine AB I (sC (AK I I) call92 (λw hs=>eR hs cy.up cw.up O) λer h2 dk ba=>?_);replace ba:=Rp.Is.le ba (AI (j+k+3));refine AB I (sC (AK I I) call180 (λw hs=>Pe hs bb.up ba O) λep h3 dj az=>?_);replace az:=Rp.Is.le az (AI (4*j+4*k+15));refine wX I (xV (ρ:=(A6 (AD (4*j+4*k+15)) (A6 (AD 1) DE))) (xL (ps':=[(0,_)]) underlying246 iG I I (nl underlying246) Al I (zW (yN (zR O)) (zW (yN (zR dC)) J7)) (zD I (AT (AA _)) az zO))) λeo cu=>?_;refine CA I I (λb8=>?_);have ca:(A6 (AD 1) (A6 (AD 1) DE)).R h3 [.bool false,.slice none 0 0,.slice none 0 0,.bool false,.slice none 0 0,.slice none 0 0,.bool false,.slice none 0 0,.slice none 0 0,.bool false,.slice none 0 0,.slice none 0 0,.bool false,.slice none 0 0,.slice none 0 0,.bool false,.slice none 0 0,.slice none 0 0,.bool false] (zT,(zT,False)):=(zW (yN (zR dC)) (zW (yN (zR dC)) J7));have bh:=(Le.p (AI (4*j+4*k+15)) (Le.refl _)).R ca;refine yD (A:=[]) I (uB sizeOf246 pH bh cu) λdx aj=>(AZ ?_);refine lX (xB zI (AT pH) aj) λen ct=>(cL (AU I) call181 (λw hs=>SY hs ct O) λbx h4 di cq=>?_);obtain rfl:bx=vB ((xS (T3.mk ((A0 (A0 md.2 q B6) 0 zT).x-p.x) ((A0 (A0 md.2 q B6) 0 zT).y-p.y) ((A0 (A0 md.2 q B6) 0 zT).z-p.z)) (T3.mk ((A0 (A0 md.2 q B6) 1 zT).x-p.x) ((A0 (A0 md.2 q B6) 1 zT).y-p.y) ((A0 (A0 md.2 q B6) 1 zT).z-p.z)))=zT):=cq;refine A7 ?_;refine zP (A:=[]) (uB sizeOf4 (AQ (AQ pH)) aj (Z2 _)) λdq M=>(AR ?_);refine lX (xB QB (AQ (AQ pH)) M) λem cp=>?_;obtain rfl:=Qg cp;refine BB (λae=>?_) λae=>?_
  ·
   refine A5 ?_;refine lX (xB zI (AO pH zT 1 dC) U) λel co=>(A7 ?_);refine lX (xB zI (AO pH zT 0 dC) U) λek cn=>(cL (AK I I) call92 (λw hs=>eR hs co cn O) λej h5 dh ay=>?_);replace ay:=Rp.Is.le ay (AI (2*k+4));refine A7 ?_;have ao:=(Le.p (Le.refl _) (Le.p (AI (2*k+4)) (Le.refl _))).R M;refine zP (A:=[]) (uB sizeOf43 (AQ (AT pH)) ao ay) λdp aw=>(AF ?_);refine lX (xB O9 pH aw) λbw ax=>(zE (zL (ρ:=(A6 (AD (4*j+4*k+15)) (A6 (AD (2*k+4)) DE))) (m:=1) (xs:=[(xS (T3.mk ((A0 (A0 md.2 q B6) 0 zT).x-p.x) ((A0 (A0 md.2 q B6) 0 zT).y-p.y) ((A0 (A0 md.2 q B6) 0 zT).z-p.z)) (T3.mk ((A0 (A0 md.2 q B6) 1 zT).x-p.x) ((A0 (A0 md.2 q B6) 1 zT).y-p.y) ((A0 (A0 md.2 q B6) 1 zT).z-p.z)),((T3.mk ((A0 (A0 md.2 q B6) 1 zT).x-(A0 (A0 md.2 q B6) 0 zT).x) ((A0 (A0 md.2 q B6) 1 zT).y-(A0 (A0 md.2 q B6) 0 zT).y) ((A0 (A0 md.2 q B6) 1 zT).z-(A0 (A0 md.2 q B6) 0 zT).z)),(xS (T3.mk ((A0 (A0 md.2 q B6) 0 zT).x-p.x) ((A0 (A0 md.2 q B6) 0 zT).y-p.y) ((A0 (A0 md.2 q B6) 0 zT).z-p.z)) (T3.mk ((A0 (A0 md.2 q B6) 1 zT).x-p.x) ((A0 (A0 md.2 q B6) 1 zT).y-p.y) ((A0 (A0 md.2 q B6) 1 zT).z-p.z)))=zT))]) (ps':=[(0,_)]) underlying244 iG I I I (zW (yN (zR O)) (zW (yN (zR O)) J7)) Al (zD I (AO (AA _) (zT,(zT,False)) 0 dC) ax zO) Vk nP) I I I ?_);intro bv df bn;obtain⟨bs,rfl,ac⟩:=bn;refine zQ (A:=[]) (ρ:=(A6 (AD (4*j+4*k+15)) (A6 (AD (2*k+4)) DE))) ac ?_;intro h6 ff aq;refine yY (A:=[_,_]) (zN (ρ:=(A6 (AD (4*j+4*k+15)) (A6 (AD (2*k+4)) DE))) (bytes:=344) underlying244 iG I I I I nP I I aa.up aq bO bO) I I I ?_;intro am de bm;obtain⟨ah,rfl,ab⟩:=bm;refine AX ?_;refine yE (A:=[]) (yE (A:=[]) ?_);refine Ad ((q+1),(D++[(xS (T3.mk ((A0 (A0 md.2 q B6) 0 zT).x-p.x) ((A0 (A0 md.2 q B6) 0 zT).y-p.y) ((A0 (A0 md.2 q B6) 0 zT).z-p.z)) (T3.mk ((A0 (A0 md.2 q B6) 1 zT).x-p.x) ((A0 (A0 md.2 q B6) 1 zT).y-p.y) ((A0 (A0 md.2 q B6) 1 zT).z-p.z)),((T3.mk ((A0 (A0 md.2 q B6) 1 zT).x-(A0 (A0 md.2 q B6) 0 zT).x) ((A0 (A0 md.2 q B6) 1 zT).y-(A0 (A0 md.2 q B6) 0 zT).y) ((A0 (A0 md.2 q B6) 1 zT).z-(A0 (A0 md.2 q B6) 0 zT).z)),(xS (T3.mk ((A0 (A0 md.2 q B6) 0 zT).x-p.x) ((A0 (A0 md.2 q B6) 0 zT).y-p.y) ((A0 (A0 md.2 q B6) 0 zT).z-p.z)) (T3.mk ((A0 (A0 md.2 q B6) 1 zT).x-p.x) ((A0 (A0 md.2 q B6) 1 zT).y-p.y) ((A0 (A0 md.2 q B6) 1 zT).z-p.z)))=zT))]),am,ah,h6) ?_ ?_
   · exact⟨AM,ab,A3,rL hD ae⟩
   omega
  refine AF ?_;refine lX (xB O9 pH M) λbw ax=>(zE (zL (ρ:=(A6 (AD (4*j+4*k+15)) (A6 (AD 1) DE))) (m:=1) (xs:=[(xS (T3.mk ((A0 (A0 md.2 q B6) 0 zT).x-p.x) ((A0 (A0 md.2 q B6) 0 zT).y-p.y) ((A0 (A0 md.2 q B6) 0 zT).z-p.z)) (T3.mk ((A0 (A0 md.2 q B6) 1 zT).x-p.x) ((A0 (A0 md.2 q B6) 1 zT).y-p.y) ((A0 (A0 md.2 q B6) 1 zT).z-p.z)),(zT,(xS (T3.mk ((A0 (A0 md.2 q B6) 0 zT).x-p.x) ((A0 (A0 md.2 q B6) 0 zT).y-p.y) ((A0 (A0 md.2 q B6) 0 zT).z-p.z)) (T3.mk ((A0 (A0 md.2 q B6) 1 zT).x-p.x) ((A0 (A0 md.2 q B6) 1 zT).y-p.y) ((A0 (A0 md.2 q B6) 1 zT).z-p.z)))=zT))]) (ps':=[(0,_)]) underlying244 iG I I I (zW (yN (zR O)) (zW (yN (zR dC)) J7)) Al (zD I (AO (AA _) (zT,(zT,False)) 0 dC) ax zO) Vk nP) I I I ?_)
  rintro bv df ⟨bs,rfl,ac⟩
  refine zQ (A:=[]) (ρ:=(A6 (AD (4*j+4*k+15)) (A6 (AD 1) DE))) ac ?_;intro h5 dh ap;refine yY (A:=[_,_]) (zN (ρ:=(A6 (AD (4*j+4*k+15)) (A6 (AD (2*k+4)) DE))) (bytes:=344) underlying244 iG I I I I nP I I aa.up (ap.le (Le.s (Le.p (Le.refl _) (Le.p (AI (2*k+4)) (Le.refl _))))) bO bO) I I I ?_
  rintro am de ⟨ah,rfl,ab⟩
  refine AX ?_;refine yE (A:=[]) (yE (A:=[]) ?_);refine Ad ((q+1),(D++[(xS (T3.mk ((A0 (A0 md.2 q B6) 0 zT).x-p.x) ((A0 (A0 md.2 q B6) 0 zT).y-p.y) ((A0 (A0 md.2 q B6) 0 zT).z-p.z)) (T3.mk ((A0 (A0 md.2 q B6) 1 zT).x-p.x) ((A0 (A0 md.2 q B6) 1 zT).y-p.y) ((A0 (A0 md.2 q B6) 1 zT).z-p.z)),(zT,(xS (T3.mk ((A0 (A0 md.2 q B6) 0 zT).x-p.x) ((A0 (A0 md.2 q B6) 0 zT).y-p.y) ((A0 (A0 md.2 q B6) 0 zT).z-p.z)) (T3.mk ((A0 (A0 md.2 q B6) 1 zT).x-p.x) ((A0 (A0 md.2 q B6) 1 zT).y-p.y) ((A0 (A0 md.2 q B6) 1 zT).z-p.z)))=zT))]),am,ah,h5) ?_ ?_
  · exact⟨AM,ab,A3,ol hD ae⟩
  omega
 have eq:q=A1 md.2:=by omega
 rw[eq] at hD;have dw:A1 D=A1 md.2:=by rw[hD];exact xN _ _
 refine AZ ?_;refine hl (AX ?_);refine An (ι:=Nat×A4) (λ(H,mb)=>(MLe ma mb/\(H<=CW md p),[(4,vP b4 0),(5,C),(9,vI ↑H)],[.gs 246 19 C (A1 D) J,.var b4 43 be,.var b3 43 bf,.var b2 106 bg],mb,CW md p-H)) (0,ma) ?_ ?_
 · exact⟨AM,O⟩
 rintro⟨H,mb⟩ ⟨du,bp⟩
 refine yO ?_;have bc:=bp;refine AR ?_;refine gv (qR Ar underlying244 I) I (gv (gM (p:=3) I I O O) I (Ca (λak=>?_) λak=>?_))
 ·
  have fe:(0:Int)<=↑H*↑H/\(↑H:Int)*↑H<=36000012000001:=by have h9:H*H<=6000001*6000001:=Fl O O;rw[<-Fa];omega
  refine AZ ?_;refine cL (vs:=[vI (1)]) ⟨I,AW⟩ call89 (λw hs=>bK hs dC dC) λei h1 dl cm=>(A7 ?_);refine cL (AU I) call89 (λw hs=>bK hs O O) λeh h2 dk cl=>(A5 ?_);refine gv (gM I I O O) I (cL (AU I) call89 (λw hs=>bK hs O O) λeg h3 dj ck=>(lX (xV (ρ:=(AD 2)) (xD (ps':=[(0,_),(1,_),(2,_)]) underlying43 yA I I sizeOf41 e6 I (yN (zR dC)) (zD I (BL (AA _)) cm.up (zD I (BC (AA _)) cl.up (zD I (Bi (AA _)) ck zO))))) λef cj=>(nA (ρ:=(AD 2)) (X:=zT) yA (yN (zR dC)) λbt ea bl=>(zP (A:=[]) (uB sizeOf43 pH bl cj) λbd ad=>(AZ ?_)))));refine gv (qR Ax underlying244 I) I (AF ?_);refine An (ι:=Nat×A4) (λ(u,mc)=>(MLe h3 mc/\(u<=A1 D/\∀v,v<u->¬Fo (A0 D v (zT,(zT,False))) (vK ↑H)),[(4,vP b4 0),(5,C),(9,vI ↑H),(10,vP bt 0),(63,C),(64,vI (↑(A1 D):Int)),(65,vI ↑u)],[.var bt 43 bd,.gs 246 19 C (A1 D) J,.var b4 43 be,.var b3 43 bf,.var b2 106 bg],mc,A1 D-u)) (0,h3) ?_ ?_
  · exact⟨AM,A3,λv h=>by omega⟩
  rintro⟨u,mc⟩ ⟨dt,fb,bo⟩
  refine yO ?_;refine Ba (λbq=>?_) λbq=>?_
  ·
   refine AZ ?_;refine gv ((yG u Ax underlying244 sizeOf246 I I I bO nP).cv (show _=zH 1 C ((u*19+0)) from AJ (zH 1 C) B5)) I (nT (F:=λv_=>(A6 (AD (4*j+4*k+15)) (A6 (AD (2*k+4)) DE)).Is mc v_ (A0 D u (zT,(zT,False)))) (xO O9 (AO (AA _) (zT,(zT,False)) u bO) I nP I aa.up I) (gH Ax) I ?_);intro ee ci;refine nA (ρ:=(A6 (AD 1) (A6 (AD 1) DE))) (X:=(zT,(zT,False))) iG (zW (yN (zR dC)) (zW (yN (zR dC)) J7)) λfi dz bk=>?_;have an:=(Le.p (AI (4*j+4*k+15)) (Le.p (AI (2*k+4)) (Le.refl _))).R bk;refine zP (A:=[]) (uB sizeOf246 pH an ci) λdn av=>(AF ?_);refine lX (xB O9 pH av) λed ch=>(lX (xB zI pH ad) λec cg=>(cL (AK I I) call239 (λw hs=>rl hs ch cg O O dC) λbu h4 di cf=>?_));obtain rfl:bu=vB (Fo (A0 D u (zT,(zT,False))) (T3.mk (((1:Int):Int):Rat) (((↑H:Int):Int):Rat) ((((↑H:Int)*(↑H:Int)):Int):Rat))):=cf;refine BB (λZ=>?_) λZ=>?_
   ·
    refine tQ ?_;refine yE (A:=[]) (yE (A:=[]) ?_);refine Ad ((H+1),h4) ?_ ?_
    · exact⟨AM,Xc hD H4 bc O Z⟩
    (have:=Xc hD H4 bc O Z;omega)
   refine Af ?_;refine yE (A:=[]) ?_;refine Ad ((u+1),h4) ?_ ?_
   · exact⟨AM,A3,wZ (Q:=λv=>¬Fo (A0 D v (zT,(zT,False))) (vK ↑H)) bo Z⟩
   omega
  refine Af ?_;refine lX (xB zI pH ad) λeb ce=>(zP (A:=[_,_]) (uB sizeOf43 pH cc ce) λdm au=>(AX ?_));refine eB (xW (qV (t:=4) zI C6 I au) ?_);intro dr ai ar;refine yI (λE S=>zS I ai E S) ?_;exact(Rp.Is.cast ar (by rw[<-vf hD bc (λv hv=>bo v O)];rfl))
 exact absurd O ak
theorem d1{m n k j l:Nat}{vmd:A2}{md:((List (Pq×((List (List Tq))×(Int×Int))))×(List (List Tq)))}(rmd:(A6 (AS (A6 (Aj m n) (A6 (C1 k) (A6 A9 A9)))) (AS (BO 2 (AD k)))).Is h0 vmd md){vp:A2}{p:Tq}(rp:(AD j).Is h0 vp p){vd:A2}{d:Tq}(rd:(AD l).Is h0 vd d)(H0:k<=10000)(H1:j<=1000000)(H2:l<=300)(H3:m<=4100)(H4:n<=4100)(H5:JF md):
 Ae 201 #[vmd,vp,vd] w0 h0 (λh r=>r=.tuple #[vI (GP md p d),vI (GX md p d),vB (IR md p d)]):=by
 refine Cs 77 vmd vp vd func201 hs ?_;refine A5 ?_;refine nB rmd λb3 co bj=>(nB rp λb4 cn ax=>(nB rd λb5 cm aw=>(rX ?_)));refine lX (xB SW (AT pH) bj) λbi ch=>(AR ?_);refine An (ι:=Nat×A4) (λ(f,ma)=>(MLe h0 ma/\(f<=A1 md.1/\∀u,u<f->¬Eh (A0 md.1 u BG) p d),[(4,vP b4 0),(5,vP b5 0),(9,vI (Bw md p d f).1),(10,vI (Bw md p d f).2),(18,bi),(19,vI (↑(A1 (md.1)):Int)),(20,vI ↑f)],[.var b5 43 cm,.var b4 43 cn,.var b3 106 co],ma,A1 md.1-f)) (0,h0) ?_ ?_
 · exact⟨AM,A3,λu h=>by omega⟩
 rintro⟨f,ma⟩ ⟨cp,el,ac⟩
 refine yO ?_;have ea:=H5.1;have em:=Sp md p d f;refine Ba (λbc=>?_) λbc=>?_
 ·
  refine AZ ?_;refine lX (xI BG f underlying103 IT ch) λdy cg=>(lX (xA IT cg) λdx cf=>(nA (ρ:=(A6 (Aj 1 1) (A6 (C1 1) (A6 A9 A9)))) (X:=((zT,(0:Rat)),([],((0:Int),(0:Int))))) j9 (zW (zW (yN (zR dC)) (zR dC)) (zW wC (zW wT wT))) λeq cy bb=>?_));have av:=(Le.p (Le.p (AI (m+1)) (AL (n+1))) (Le.p (Le.s (Le.s (AI (k+1)))) (Le.refl _))).R bb;refine zP (A:=[]) (uB sizeOf161 pH av (cf.le (Le.p (Le.p (AI (m+1)) (AL (n+1))) (Le.p (Le.s (Le.s (AI (k+1)))) (Le.refl _))))) λcv Z=>(AN ?_);refine zG 16 _ [(14,(13,41,[.bool false,.slice none 0 0,.slice none 0 0])),(15,(14,41,[.bool false,.slice none 0 0,.slice none 0 0]))] (Ah 0 4 (Ah 5 7 [(4,.c),(12,.c),(13,.c),(14,.a),(15,.a),(16,.t),(17,.t)])) zX (uY.cons I I (vG yQ I I) (uY.cons I I (vG yQ I I) uY.nil)) (xU Ac) (vH I I (vH I I qT)) (λr hr=>hr) (A5 ?_);refine wX I (xB zI (AT (AT pH)) Z) λdw ce=>(wX I (xB zI pH aw) λdv cd=>(A5 ?_));refine wX I (xB zU (AT (AQ pH)) Z) λdt cc=>(A5 ?_);refine wX I (xB zI (AT (AT pH)) Z) λdr cb=>(wX I (xB zI pH ax) λdq ca=>?_);refine AB I (sC (AK I I) call84 (λw hs=>mD hs ce cd O) λdu h1 ek aq=>?_);replace aq:=Rp.Is.le aq (AL (3*l+3*m+12));refine AB I (sC (AK I I) call84 (λw hs=>mD hs cb.up ca.up O) λdp h2 ej ap=>?_);replace ap:=Rp.Is.le ap (AL (3*j+3*m+12));refine AB I (sC (AK I I) call83 (λw hs=>jM hs cc.up ap O) λdn h3 ei ao=>?_);replace ao:=Rp.Is.le ao (AL (3*j+3*m+n+14));refine CA I I (λep=>?_);have ba:(AE (3*m+3*l+9)).R h3 [.bool false,.slice none 0 0,.slice none 0 0] (0:Rat):=(zR O);refine CA I I (λeo=>?_);have az:(AE (n+3*m+3*j+11)).R h3 [.bool false,.slice none 0 0,.slice none 0 0] (0:Rat):=(zR O);have au:=(AL (3*l+3*m+12)).R ba;refine yD (A:=[_]) I (uB sizeOf41 pH au aq) λcu ad=>?_;have ar:=(AL (3*j+3*m+n+14)).R az;refine yD (A:=[]) I (uB sizeOf41 pH ar ao) λct ah=>(AF ?_);refine zG 12 _ [] ((0,.q)::(2,.q)::(1,.c)::(3,.c)::Ah 4 8 []) zX nX (xU Ac) nX (λr hr=>hr) (wX I (xB zU pH ad) λdm bz=>(wX I (xB zU pH ah) λdl bw=>?_));refine AB I (sC (AU I) call85 (λw hs=>kV hs bz O) λbh h4 eh bx=>?_);obtain rfl:bh=vI (yK (wL (((A0 md.1 f BG).1).1) d)):=bx;have ck:=yZ (wL (((A0 md.1 f BG).1).1) d);refine AB I (sC (AU I) call85 (λw hs=>kV hs bw.up O) λbg h5 eg bv=>?_);obtain rfl:bg=vI (yK ((((A0 md.1 f BG).1).2)-(wL (((A0 md.1 f BG).1).1) p))):=bv;have cj:=yZ ((((A0 md.1 f BG).1).2)-(wL (((A0 md.1 f BG).1).1) p));have dz:=fb (wL (A0 md.1 f BG).1.1 d) ((A0 md.1 f BG).1.2-wL (A0 md.1 f BG).1.1 p);refine wK I (λ_ _=>gM I I O O) I (A5 ?_);refine qC (((yK (wL (((A0 md.1 f BG).1).1) d))*(yK ((((A0 md.1 f BG).1).2)-(wL (((A0 md.1 f BG).1).1) p))))<=(0:Int)) (λab=>?_) (λab=>?_)
  ·
   rw[yU ab];refine y7 ?_;refine yE (A:=[]) (yE (A:=[]) (yE (A:=[]) ?_));have C:=ZL (md:=md) (p:=p) (d:=d) (f:=f) (.inl Bl);have U:¬Eh (A0 md.1 f BG) p d:=λe=>e.1 (.inl Bl);refine Ad ((f+1),h5) ?_ ?_ (he:=⟨I,I,AJ (λz:Int=>some (vI z)) (by have H:=AJ Prod.fst C.symm;exact H),AJ (λz:Int=>some (vI z)) (by have H:=AJ Prod.snd C.symm;exact H),I,I,I,AW⟩)
   · exact⟨AM,A3,wZ (Q:=λu=>¬Eh (A0 md.1 u BG) p d) ac U⟩
   omega
  rw[yH ab];refine A7 ?_;refine oX I (xB R5 (AQ (AT pH)) Z) λdk bu=>(yS I I I (λh' L' hh hR=>jK underlying61 I (bu.mono hh)) I (Ca (λai=>?_) λai=>?_))
  ·
   refine AX ?_;refine yE (A:=[]) (yE (A:=[]) (yE (A:=[]) ?_));have C:=ZL (md:=md) (p:=p) (d:=d) (f:=f) (.inr O);have U:¬Eh (A0 md.1 f BG) p d:=λe=>e.1 (.inr O);refine Ad ((f+1),h5) ?_ ?_ (he:=⟨I,I,AJ (λz:Int=>some (vI z)) (by have H:=AJ Prod.fst C.symm;exact H),AJ (λz:Int=>some (vI z)) (by have H:=AJ Prod.snd C.symm;exact H),I,I,I,AW⟩)
   · exact⟨AM,A3,wZ (Q:=λu=>¬Eh (A0 md.1 u BG) p d) ac U⟩
   omega
  have aa:¬HI (A0 md.1 f BG) p d:=λe=>e.elim Bl (λe=>ai O);refine AF ?_;refine lX (xB zU pH ah) λdj bt=>(lX (xB zU pH ad) λdi bs=>(cL (AK I I) call82 (λw hs=>oF hs bt bs O) λdh h6 ee br=>?_));obtain⟨aj,rfl,M⟩:=br
  change (AE ((3*j+3*m+n+14)+(3*l+3*m+12))).Is h6 aj (if(wL (((A0 md.1 f BG).1).1) d)=0 then 0 else((((A0 md.1 f BG).1).2)-(wL (((A0 md.1 f BG).1).1) p))/(wL (((A0 md.1 f BG).1).1) d)) at M
  replace M:=Rp.Is.le M (AL (3*j+3*l+6*m+n+26));refine AN ?_;refine nA (ρ:=(AE (n+6*m+3*j+3*l+30))) (X:=(0:Rat)) yQ (zR O) λen cw ay=>(zP (A:=[]) (uB sizeOf41 pH ay (M.le (AL (n+6*m+3*j+3*l+30)))) λcl ak=>(AF ?_));refine zG 7 _ [] (Ah 0 4 [(4,.c),(5,.c),(6,.c)]) zX nX Ac nX (λr hr=>hr) (wX I (xB IT pH Z) λdf bq=>(wX I (xB zI pH ax) λde bp=>(wX I (xB zU pH ak) λdd bo=>(wX I (xB zI pH aw) λdc bn=>?_))));refine AB I (sC (AK I I) call90 (λw hs=>bJ hs bo bn O) λdb h7 ed an=>?_);replace an:=Rp.Is.le an (AI (3*j+4*l+6*m+n+32));refine AB I (sC (AK I I) call91 (λw hs=>Lx hs bp.up an O) λda h8 ec am=>?_);replace am:=Rp.Is.le am (AI (4*j+4*l+6*m+n+34));refine AB I (sC (AK I I) call200 (λw hs=>UD hs bq.up am O O (by first|omega|exact H5.2.2 f O)) λbf H eb bm=>?_);obtain rfl:bf=vI (I5 (A0 md.1 f BG) (T3.mk (p.x+((if(wL (((A0 md.1 f BG).1).1) d)=0 then 0 else((((A0 md.1 f BG).1).2)-(wL (((A0 md.1 f BG).1).1) p))/(wL (((A0 md.1 f BG).1).1) d))*d.x)) (p.y+((if(wL (((A0 md.1 f BG).1).1) d)=0 then 0 else((((A0 md.1 f BG).1).2)-(wL (((A0 md.1 f BG).1).1) p))/(wL (((A0 md.1 f BG).1).1) d))*d.y)) (p.z+((if(wL (((A0 md.1 f BG).1).1) d)=0 then 0 else((((A0 md.1 f BG).1).2)-(wL (((A0 md.1 f BG).1).1) p))/(wL (((A0 md.1 f BG).1).1) d))*d.z)))):=bm;refine Bj (λD=>?_) λD=>?_
  ·
   rw[Mx aa] at D;obtain⟨e1,e2,e3⟩:=c9 (md:=md) (p:=p) (d:=d) (f:=f) O ⟨aa,D⟩;refine fJ ?_;refine jC I I I I ?_;rw[e1,e2,yH e3]
  rw[Mx aa] at D;refine Ba (λJ=>?_) λJ=>?_
  ·
   rw[Mx aa] at J;refine A5 ?_;refine lX (xB zU pH ad) λcz bl=>(cL (AU I) call85 (λw hs=>kV hs bl O) λbe bd cq bk=>?_);obtain rfl:be=vI (yK (wL (((A0 md.1 f BG).1).1) d)):=bk;have ci:=yZ (wL (((A0 md.1 f BG).1).1) d);refine B4 (λae=>?_) λae=>?_
   ·
    refine uF ?_;refine yE (A:=[]) (yE (A:=[]) (yE (A:=[]) (yE (A:=[]) ?_)));have C:=er aa J (Ve.1 ae);have U:¬Eh (A0 md.1 f BG) p d:=λe=>D e.2;refine Ad ((f+1),bd) ?_ ?_ (he:=⟨I,I,AJ (λz:Int=>some (vI z)) (by have H:=AJ Prod.fst C.symm;exact H),AJ (λz:Int=>some (vI z)) (by have H:=AJ Prod.snd C.symm;exact H),I,I,I,AW⟩)
    · exact⟨AM,A3,wZ (Q:=λu=>¬Eh (A0 md.1 u BG) p d) ac U⟩
    omega
   refine uF ?_;refine yE (A:=[]) (yE (A:=[]) (yE (A:=[]) (yE (A:=[]) ?_)));have C:=pn aa J (λe=>ae (Ve.2 e));have U:¬Eh (A0 md.1 f BG) p d:=λe=>D e.2;refine Ad ((f+1),bd) ?_ ?_ (he:=⟨I,I,AJ (λz:Int=>some (vI z)) (by have H:=AJ Prod.fst C.symm;exact H),AJ (λz:Int=>some (vI z)) (by have H:=AJ Prod.snd C.symm;exact H),I,I,I,AW⟩)
   · exact⟨AM,A3,wZ (Q:=λu=>¬Eh (A0 md.1 u BG) p d) ac U⟩
   omega
  rw[Mx aa] at J;refine AX ?_;refine yE (A:=[]) (yE (A:=[]) (yE (A:=[]) (yE (A:=[]) ?_)));have C:=pC aa J;have U:¬Eh (A0 md.1 f BG) p d:=λe=>D e.2;refine Ad ((f+1),H) ?_ ?_ (he:=⟨I,I,AJ (λz:Int=>some (vI z)) (by have H:=AJ Prod.fst C.symm;exact H),AJ (λz:Int=>some (vI z)) (by have H:=AJ Prod.snd C.symm;exact H),I,I,I,AW⟩)
  · exact⟨AM,A3,wZ (Q:=λu=>¬Eh (A0 md.1 u BG) p d) ac U⟩
  omega
 have ef:f=A1 md.1:=by omega
 obtain⟨e1,e2,e3⟩:=th (md:=md) (p:=p) (d:=d) (λu hu=>ac u O);refine rX ?_;refine jC I I I I ?_;rw[e1,e2,ef,yU e3]
theorem lv{m n k j:Nat}{vmd:A2}{md:((List (Pq×((List (List Tq))×(Int×Int))))×(List (List Tq)))}(rmd:(A6 (AS (A6 (Aj m n) (A6 (C1 k) (A6 A9 A9)))) (AS (BO 2 (AD k)))).Is h0 vmd md){vp:A2}{p:Tq}(rp:(AD j).Is h0 vp p)(H0:k<=10000)(H1:j<=1000000)(H2:m<=4100)(H3:n<=4100)(H4:JF md)(H5:CW md p<=3*A1 md.2+1)(H6:G9 md p (vK ↑(CW md p))):
 Ae 143 #[vmd,vp] w0 h0 (λ_ r=>r=vI (GP md p (vK ↑(CW md p))-GX md p (vK ↑(CW md p)))):=by
 have ak:=W4 md p (vK ↑(CW md p));have ah:=H4.1;refine B0 21 vmd vp func143 hs ?_;refine A5 ?_;refine nB rmd λb2 an D=>(nB rp λb3 am C=>(AF ?_));refine zG 13 _ [] (Ah 0 4 ((4,.c)::(5,.c)::Ah 6 7 [])) zX nX (xU Ac) nX (λr hr=>hr) (wX I (xB HY pH D) λv9 r9=>(wX I (xB zI pH C) λae Z=>(wX I (xB HY pH D) λad U=>(wX I (xB zI pH C) λac M=>?_))));refine AB I (sC (AK I I) call202 (λw hs=>oe hs U M O O (by first|omega|exact H4|exact H5|exact H6) (by first|omega|exact H4|exact H5|exact H6) (by first|omega|exact H4|exact H5|exact H6)) λab h1 aj J=>?_);refine AB I (sC (BM I I I) call201 (λw hs=>d1 hs r9.up Z.up J O O dC O O (by first|omega|exact H4)) λaa h2 ai H=>?_);obtain rfl:=H;refine L7 ?_;refine zC I I ?_
 rfl
theorem TV{m n k j:Nat}{vmd:A2}{md:((List (Pq×((List (List Tq))×(Int×Int))))×(List (List Tq)))}(rmd:(A6 (AS (A6 (Aj m n) (A6 (C1 k) (A6 A9 A9)))) (AS (BO 2 (AD k)))).Is h0 vmd md){vp:A2}{p:Tq}(rp:(AD j).Is h0 vp p)(H0:k<=10000)(H1:j<=1000000)(H2:m<=4100)(H3:n<=4100)(H4:JF md)(H5:CW md p<=3*A1 md.2+1)(H6:G9 md p (vK ↑(CW md p))):
 Ae 71 #[vmd,vp] w0 h0 (λh r=>r=.tuple #[vI (Do md p),vB (¬Dg md p)]):=by
 refine B0 18 vmd vp func71 hs ?_;refine A5 ?_;refine nB rmd λb2 ao J=>(nB rp λb3 an H=>(Af ?_));refine lX (xB HY pH J) λv9 r9=>(lX (xB zI pH H) λaj ac=>(cL (AK I I) call142 (λw hs=>dl hs r9 ac O O O O (by first|omega|exact H4)) λai h1 am ab=>?_));obtain rfl:=ab;refine Fj (λD=>?_) λD=>?_
 ·
  have C:Dg md p:=D;refine AX ?_;refine wS I I I ?_;rw[yH (λe=>e C),show Do md p=0 from AC C]
 have C:¬Dg md p:=D;refine AF ?_;refine lX (xB HY pH J) λah aa=>(lX (xB zI pH H) λae Z=>(cL (AK I I) call143 (λw hs=>lv hs aa Z O O O O (by first|omega|exact H4|exact H5|exact H6) (by first|omega|exact H4|exact H5|exact H6) (by first|omega|exact H4|exact H5|exact H6)) λM h2 ak U=>?_));obtain rfl:M=vI (GP md p (vK ↑(CW md p))-GX md p (vK ↑(CW md p))):=U;have ad:=W4 md p (vK ↑(CW md p));refine AR ?_;refine wS I I I ?_;rw[yU C,show Do md p=_ from A8 C]
theorem uw{k m n j:Nat}{vs:A2}{s:Sq}(rs:(BT k m n j).Is h0 vs s)(H0:CF s)(H1:Dv s)(H2:k<=2)(H3:m<=2)(H4:n<=2)(H5:JL s):
 Ae 26 #[vs] w0 h0 (λ_ r=>r=vB (Lr s)):=by
 have dq:=H0.1.1.1;have dp:=H0.1.1.2;have H:=H1;have Z:=pj (s:=s) H0;refine BI 69 vs func26 hs ?_;refine A5 ?_;refine nB rs λb1 bf U=>(AR ?_);refine lX (xB jG pH U) λdi cd=>(zE (zL (ρ:=(BT (k+1) (m+1) (n+1) (j+1))) (m:=1) (xs:=[s]) (ps':=[(0,_)]) underlying27 qS I I I (zW wC (zW wC wC)) Al (zD I (AO (AA _) ([],([],[])) 0 dC) (cd.le (Le.p (Le.s (AI (k+1))) (Le.p (Le.s (Le.p (Le.p (AI (m+1)) (AL (n+1))) (Le.refl _))) (Le.s (Le.p (Le.refl _) (Le.p (Le.refl _) (AL (j+1)))))))) zO) Yj nP) I I I ?_)
 rintro dh dl ⟨cj,rfl,ax⟩
 refine zQ (A:=[]) (ρ:=(BT (k+1) (m+1) (n+1) (j+1))) ax ?_;intro h1 eb aw;refine cL (AU I) call15 (λw hs=>eY hs aw (by first|omega|exact H5.1) O O) λaq h2 ea ad=>?_;replace ad:=Rp.Is.le ad (Le.s (Le.p (AI (4*m+44)) (AL (m+n+42))));refine AR ?_;refine lX (xB jG pH U) λdf cc=>(cL (AU I) call70 (λw hs=>nk hs cc DK DK O O O) λde h3 dz cb=>(nA (ρ:=(A6 (AS (A6 (Aj 1 1) (A6 (C1 1) (A6 A9 A9)))) (AS (BO 2 (AD 1))))) (X:=([],[])) Sa (zW wC wC) λb4 ef bk=>?_));have av:=(Le.p (Le.s (Le.p (Le.p (AI (m+1)) (AL (n+1))) (Le.p (Le.s (Le.s (AI (k+1)))) (Le.refl _)))) (Le.s (Le.a (AI (k+1))))).R bk;refine zP (A:=[]) (uB sizeOf106 pH av cb) λai ae=>(AZ ?_);refine lX (xB kO (AQ (AT pH)) U) λdd dk=>(AR ?_);refine An (ι:=Nat×A4) (λ(i,ma)=>(MLe h3 ma/\(i<=A1 s.2.1/\∀u,u<i->∀q,q<A1 (fZ (A0 s.2.1 u zA).1 (A0 s.2.1 u zA).2.2 (wG s.1 (A0 s.2.1 u zA).2.1 (A1 (A0 s.2.1 u zA).2.1)) (qE [s] [s].length))->Gx s (qE [s] [s].length) (A0 (fZ (A0 s.2.1 u zA).1 (A0 s.2.1 u zA).2.2 (wG s.1 (A0 s.2.1 u zA).2.1 (A1 (A0 s.2.1 u zA).2.1)) (qE [s] [s].length)) q CN)),[(1,vP b1 0),(3,aq),(4,vP b4 0),(21,vI (↑(A1 (s.2.1)):Int)),(22,vI ↑i)],[.var b4 106 ai,.var b1 32 bf],ma,A1 s.2.1-i)) (0,h3) ?_ ?_
 · exact⟨AM,A3,λu h=>by omega⟩
 rintro⟨i,ma⟩ ⟨cg,dt,bb⟩
 refine yO ?_;refine Ba (λbd=>?_) λbd=>?_
 ·
  have ac:=H0.2.1 i O;have J:=H5.pc H (f:=i) O;refine tQ ?_;refine lX (xB jG pH U) λdc ca=>(A7 ?_);refine cL (AK I I) call59 (λw hs=>Yq hs ca O O DK DK O) λdb h4 dy dj=>(Ca (λah=>?_) λah=>?_)
  · exact absurd ah (by have:=(H5.2 i O).1.some;omega)
  refine AN ?_;refine zG 10 _ [] (Ah 0 7 [(9,.q),(7,.c),(8,.q)]) zX nX Ac nX (λr hr=>hr) (wX I (xB jG pH U) λda bz=>(A7 ?_));refine wX I (xB kO (AQ (AT pH)) U) λcz bx=>(A7 ?_);refine wX I (xI zA i underlying29 tT bx) λcy bw=>(wX I (xA tT bw) λcw bv=>(A7 ?_));refine lV (v:=vI (0)) I I I ?_;refine AB I (sC (BM I I I) call61 (λw hs=>ZY hs bz bv (ad.up.le (Le.s (Le.p (AI 100) (AL 100)))) (by first|omega|exact J|exactλu v D hv=>H i O u D v hv|exactλu D=>Ao (ac.2 u D) dC) (by first|omega|exact J|exactλu v D hv=>H i O u D v hv|exactλu D=>Ao (ac.2 u D) dC) (by first|omega|exact J|exactλu v D hv=>H i O u D v hv|exactλu D=>Ao (ac.2 u D) dC) (by first|omega|exact J|exactλu v D hv=>H i O u D v hv|exactλu D=>Ao (ac.2 u D) dC) O O O (by first|omega|exact J|exactλu v D hv=>H i O u D v hv|exactλu D=>Ao (ac.2 u D) dC)) λbg h5 dx az=>(B3 I (λh' L' hh hR=>jK underlying48 I (az.mono hh)) I (AN ?_)));refine An (ι:=Nat×A4) (λ(q,mb)=>(MLe h5 mb/\(q<=A1 (fZ (A0 s.2.1 i zA).1 (A0 s.2.1 i zA).2.2 (wG s.1 (A0 s.2.1 i zA).2.1 (A1 (A0 s.2.1 i zA).2.1)) (qE [s] [s].length))/\∀q0,q0<q->Gx s (qE [s] [s].length) (A0 (fZ (A0 s.2.1 i zA).1 (A0 s.2.1 i zA).2.2 (wG s.1 (A0 s.2.1 i zA).2.1 (A1 (A0 s.2.1 i zA).2.1)) (qE [s] [s].length)) q0 CN)),[(1,vP b1 0),(3,aq),(4,vP b4 0),(21,vI (↑(A1 (s.2.1)):Int)),(22,vI ↑i),(37,bg),(38,vI (↑(A1 (fZ (A0 s.2.1 i zA).1 (A0 s.2.1 i zA).2.2 (wG s.1 (A0 s.2.1 i zA).2.1 (A1 (A0 s.2.1 i zA).2.1)) (qE [s] [s].length))):Int)),(39,vI ↑q)],[.var b4 106 ai,.var b1 32 bf],mb,A1 (fZ (A0 s.2.1 i zA).1 (A0 s.2.1 i zA).2.2 (wG s.1 (A0 s.2.1 i zA).2.1 (A1 (A0 s.2.1 i zA).2.1)) (qE [s] [s].length))-q)) (0,h5) ?_ ?_
  · exact⟨AM,A3,λu h=>by omega⟩
  rintro⟨q,mb⟩ ⟨cf,dm,ap⟩
  refine yO ?_;have dn:=J.pcn (A0 s.2.1 i zA).2.2;refine Ba (λbc=>?_) λbc=>?_
  ·
   have C:=H5.dr H (f:=i) (q:=q) O O;refine AZ ?_;refine lX (xI CN q underlying48 IN az) λcv bu=>(lX (xA IN bu) λcu bt=>(nA (ρ:=(A6 (Aq 1) (A6 (Aj 1 1) wQ))) (X:=([],((zT,(0:Rat)),([]:List Nat)))) y6 (zW wC (zW (zW (yN (zR dC)) (zR dC)) jQ)) λb7 ee bj=>?_));have au:=(Le.p (Le.s (AI 3010)) (Le.p (Le.p (AI (m+2)) (AL (n+2))) (Le.refl _))).R bj;refine zP (A:=[]) (uB sizeOf57 pH au bt) λci ay=>(AF ?_);refine lX (xB IN pH ay) λct bs=>(A7 ?_);refine cL (AK I I) call35 (λw hs=>fD hs bs ad.up dC O O O O (by first|omega|exact J.prt3 _ _ (bW O))) λcq h6 dw br=>?_;obtain⟨ak,aj,rfl,ab,aa⟩:=br
   change (AD 400000).Is h6 ak ((aQ (A0 (fZ (A0 s.2.1 i zA).1 (A0 s.2.1 i zA).2.2 (wG s.1 (A0 s.2.1 i zA).2.1 (A1 (A0 s.2.1 i zA).2.1)) (qE [s] [s].length)) q CN).1 (A0 (fZ (A0 s.2.1 i zA).1 (A0 s.2.1 i zA).2.2 (wG s.1 (A0 s.2.1 i zA).2.1 (A1 (A0 s.2.1 i zA).2.1)) (qE [s] [s].length)) q CN).2.1 (qE [s] [s].length)).1) at ab
   change (AD 400000).Is h6 aj ((aQ (A0 (fZ (A0 s.2.1 i zA).1 (A0 s.2.1 i zA).2.2 (wG s.1 (A0 s.2.1 i zA).2.1 (A1 (A0 s.2.1 i zA).2.1)) (qE [s] [s].length)) q CN).1 (A0 (fZ (A0 s.2.1 i zA).1 (A0 s.2.1 i zA).2.2 (wG s.1 (A0 s.2.1 i zA).2.1 (A1 (A0 s.2.1 i zA).2.1)) (qE [s] [s].length)) q CN).2.1 (qE [s] [s].length)).2) at aa
   refine AN ?_;refine nA (ρ:=(AD 1)) (X:=zT) yA (yN (zR dC)) λb8 ed bi=>(nA (ρ:=(AD 1)) (X:=zT) yA (yN (zR dC)) λb9 ec bh=>?_);have ar:=(AI 400000).R bi;refine zP (A:=[_]) (uB sizeOf43 pH ar ab) λch ao=>?_;have am:=(AI 400000).R bh;refine zP (A:=[]) (uB sizeOf43 pH am aa) λce an=>(AF ?_);refine lX (xB HY pH ae) λcp bq=>(lX (xB zI pH ao) λco bp=>(cL (AK I I) call71 (λw hs=>TV hs bq bp O dC O O (by first|omega|exact Z|exact C.1.1|exact C.1.2) (by first|omega|exact Z|exact C.1.1|exact C.1.2) (by first|omega|exact Z|exact C.1.1|exact C.1.2)) λcn h7 dv bo=>?_));obtain rfl:=bo;refine Ak ?_;refine lX (xB HY pH ae) λcm bn=>(lX (xB zI pH an) λcl bm=>(cL (AK I I) call71 (λw hs=>TV hs bn bm O dC O O (by first|omega|exact Z|exact C.2.1|exact C.2.2) (by first|omega|exact Z|exact C.2.1|exact C.2.2) (by first|omega|exact Z|exact C.2.1|exact C.2.2)) λck h8 du bl=>?_));obtain rfl:=bl;refine uG ?_;refine gU 4 66 (vB (((Do (aF s) ((aQ (A0 (fZ (A0 s.2.1 i zA).1 (A0 s.2.1 i zA).2.2 (wG s.1 (A0 s.2.1 i zA).2.1 (A1 (A0 s.2.1 i zA).2.1)) (qE [s] [s].length)) q CN).1 (A0 (fZ (A0 s.2.1 i zA).1 (A0 s.2.1 i zA).2.2 (wG s.1 (A0 s.2.1 i zA).2.1 (A1 (A0 s.2.1 i zA).2.1)) (qE [s] [s].length)) q CN).2.1 (qE [s] [s].length)).1))≠(0:Int))\/((Do (aF s) ((aQ (A0 (fZ (A0 s.2.1 i zA).1 (A0 s.2.1 i zA).2.2 (wG s.1 (A0 s.2.1 i zA).2.1 (A1 (A0 s.2.1 i zA).2.1)) (qE [s] [s].length)) q CN).1 (A0 (fZ (A0 s.2.1 i zA).1 (A0 s.2.1 i zA).2.2 (wG s.1 (A0 s.2.1 i zA).2.1 (A1 (A0 s.2.1 i zA).2.1)) (qE [s] [s].length)) q CN).2.1 (qE [s] [s].length)).2))≠(1:Int)))) ?_ ?_
   ·
    refine zY ((Do (aF s) ((aQ (A0 (fZ (A0 s.2.1 i zA).1 (A0 s.2.1 i zA).2.2 (wG s.1 (A0 s.2.1 i zA).2.1 (A1 (A0 s.2.1 i zA).2.1)) (qE [s] [s].length)) q CN).1 (A0 (fZ (A0 s.2.1 i zA).1 (A0 s.2.1 i zA).2.2 (wG s.1 (A0 s.2.1 i zA).2.1 (A1 (A0 s.2.1 i zA).2.1)) (qE [s] [s].length)) q CN).2.1 (qE [s] [s].length)).1))≠(0:Int)) (λhg=>?_) (λhg=>?_)
    ·
     refine gT hg I (AF ?_);refine Ay ?_;exact AV (vN hg)
    refine gF hg I (AZ ?_);refine Ay ?_;exact AV (vO hg)
   refine BB (λM=>?_) λM=>?_
   ·
    have be:¬Gx s (qE [s] [s].length) (A0 (fZ (A0 s.2.1 i zA).1 (A0 s.2.1 i zA).2.2 (wG s.1 (A0 s.2.1 i zA).2.1 (A1 (A0 s.2.1 i zA).2.1)) (qE [s] [s].length)) q CN):=λe=>M.elim (λh=>h e.1) (λh=>h e.2);refine rX ?_;refine zC I I ?_;exact(yH (hc H O O be)).symm
   have ba:Gx s (qE [s] [s].length) (A0 (fZ (A0 s.2.1 i zA).1 (A0 s.2.1 i zA).2.2 (wG s.1 (A0 s.2.1 i zA).2.1 (A1 (A0 s.2.1 i zA).2.1)) (qE [s] [s].length)) q CN):=⟨C7 λe=>M (.inl e),C7 λe=>M (.inr e)⟩;refine Af ?_;refine yE (A:=[]) (yE (A:=[]) (yE (A:=[]) ?_));refine Ad ((q+1),h8) ?_ ?_
   · exact⟨AM,A3,wZ ap ba⟩
   omega
  have eq:q=A1 (fZ (A0 s.2.1 i zA).1 (A0 s.2.1 i zA).2.2 (wG s.1 (A0 s.2.1 i zA).2.1 (A1 (A0 s.2.1 i zA).2.1)) (qE [s] [s].length)):=by omega
  rw[eq] at ap;refine vV ?_;refine Ad ((i+1),mb) ?_ ?_
  · exact⟨AM,A3,wZ bb ap⟩
  omega
 have ei:i=A1 s.2.1:=by omega
 refine uG ?_;refine zC I I ?_;exact(yU (gu H (by rw[<-ei];exact bb))).symm
theorem h5{k m n:Nat}{vx:A2}{x:((List Tq)×(Pq×(List Nat)))}(rx:(A6 (Aq k) (A6 (Aj m n) wQ)).Is h0 vx x)(H0:k<=100000000)(H1:m<=100000000)(H2:n<=100000000)(H3:A1 x.1<=100000):
 Ae 119 #[vx] w0 h0 (λh r=>(A6 (Aq (k+2)) (A6 (Aj (m+2) (n+2)) wQ)).Is h r x):=by
 refine BI 12 vx func119 hs ?_;refine A5 ?_;refine nB rx λb1 am C=>(nA (ρ:=(A6 (Aq 1) (A6 (Aj 1 1) wQ))) (X:=([],((zT,(0:Rat)),([]:List Nat)))) y6 (zW wC (zW (zW (yN (zR dC)) (zR dC)) jQ)) λb2 ak Z=>(AN ?_));refine zG 9 _ [] [(0,.q),(1,.q),(3,.q),(4,.q),(6,.q),(7,.q),(2,.c),(5,.c),(8,.q),(9,.t)] zX nX Ac nX (λr hr=>hr) (A7 ?_);refine wX I (xB uN (AT pH) C) λv4 r4=>(A7 ?_);refine wX I (xB qZ (AQ (AT pH)) C) λv7 r7=>(A7 ?_);refine wX I (xB Hd (AQ (AQ pH)) C) λah ab=>?_;obtain⟨rfl,U⟩:=tJ ab;refine AB I (sC (AU I) call179 (λw hs=>VY hs r4 O O) λv5 h1 aj r5=>?_);refine AB I (sC (AU I) call53 (λw hs=>U5 hs r7.up O O) λv8 h2 ai r8=>(wX I (xV (ρ:=(A6 (Aq (k+2)) (A6 (Aj (m+1) (n+1)) wQ))) (xL (ps':=[(0,_),(1,_),(2,_)]) underlying57 y6 I I (a1 underlying57) e6 I (zW wC (zW (zW (yN (zR O)) (zR O)) jQ)) (zD I (AT (AA _)) r5.up (zD I (AQ (AT (AA _))) r8 (zD I (AQ (AQ (AA _))) (fV U) zO))))) λae aa=>?_));have H:=(Le.p (Le.s (AI (k+2))) (Le.p (Le.p (AI (m+1)) (AL (n+1))) (Le.refl _))).R Z;refine yD (A:=[]) I (uB sizeOf57 pH H aa) λac M=>(AN ?_);refine xW (qV (t:=2) IN Ar I M) ?_;intro ad D J;refine yI (λE S=>zS I D E S) ?_;exact(Rp.Is.le J (Le.p (Le.refl _) (Le.p (Le.p (AI (m+2)) (AL (n+2))) (Le.refl _))))
theorem be{k m n:Nat}{vl:A2}{l:(List ((List Tq)×(Pq×(List Nat))))}(rl:(AS (A6 (Aq k) (A6 (Aj m n) wQ))).Is h0 vl l)(H0:k<=50000000)(H1:m<=50000000)(H2:n<=50000000)(H3:A1 l<=1048576)(H4:∀x,x∈l->A1 x.1<=100000):
 Calls prog 118 #[vl,vF 119 []] w0 (Bh w0 h0 (λh r=>(AS (A6 (Aq (k+3)) (A6 (Aj (m+3) (n+3)) wQ))).Is h r l)):=by
 have bb:=G6 rl;refine B0 28 vl (vF 119 []) func118 hs ?_;refine Ak ?_;refine gv (eM underlying48 I (SA rl)) I (BB (λah=>?_) λah=>?_)
 ·
  have ad:=R2 rl nP ah;refine Af ?_;refine zC I I ?_;exact(Rp.Is.cast (tP _) (by exact ad.symm))
 refine AZ ?_;refine zE (lK (ρ:=(A6 (Aq 1) (A6 (Aj 1 1) wQ))) (X:=([],((zT,(0:Rat)),([]:List Nat)))) (by':=264) (A1 l) underlying48 y6 I I I I (zW wC (zW (zW (yN (zR dC)) (zR dC)) jQ)) I I B5 B5 O O) I I I ?_
 rintro am ba ⟨ak,rfl,ac⟩
 refine uF ?_;refine An (ι:=Nat×List ((List Tq)×(Pq×(List Nat)))×A2×List A2×A4) (λ(i,OU,C,D,ma)=>(MLe h0 ma/\(RL (A6 (Aq (k+3)) (A6 (Aj (m+3) (n+3)) wQ)) ma D OU/\(i<=A1 l/\A1 OU=A1 l)/\∀u,u<i->A0 OU u CN=A0 l u CN),[(1,vF 119 []),(5,C),(13,vl),(14,vI (↑(A1 (l)):Int)),(15,vI ↑i)],[.gs 57 14 C (A1 OU) D],ma,A1 l-i)) (0,(List.replicate (A1 l) CN),am,ak,h0) ?_ ?_
 · exact⟨AM,((Le.p (Le.s (AI (k+3))) (Le.p (Le.p (AI (m+3)) (AL (n+3))) (Le.refl _))).rl ac),⟨A3,Hu⟩,λu h=>by omega⟩
 rintro⟨i,OU,C,D,ma⟩ ⟨av,H,⟨bc,BA⟩,ae⟩
 refine yO ?_;refine Ba (λai=>?_) λai=>?_
 ·
  refine Af ?_;refine lX (xI CN i underlying48 IN rl) λaz aq=>(lX (xA IN aq) λay ap=>(nA (ρ:=(A6 (Aq 1) (A6 (Aj 1 1) wQ))) (X:=([],((zT,(0:Rat)),([]:List Nat)))) y6 (zW wC (zW (zW (yN (zR dC)) (zR dC)) jQ)) λb7 bd an=>(A7 ?_)));have ab:=(Le.p (Le.s (AI (k+1))) (Le.p (Le.p (AI (m+1)) (AL (n+1))) (Le.refl _))).R an;refine zP (A:=[]) (uB sizeOf57 pH ab (ap.le (Le.p (Le.s (AI (k+1))) (Le.p (Le.p (AI (m+1)) (AL (n+1))) (Le.refl _))))) λau U=>(AZ ?_);refine lX (xB IN pH U) λax ao=>(oJ (sH (vs:=[_]) call119 I ⟨I,AW⟩) I I I (λw hs=>h5 hs ao O O O (by first|omega|exact(Ui O Bl)|exact H4 _ (bW O))) ?_);intro aw h1 ar Z;replace Z:=Rp.Is.le Z (Le.p (Le.s (AI (k+3))) (Le.p (Le.p (AI (m+3)) (AL (n+3))) (Le.refl _)));refine gv ((yG i Ax underlying48 sizeOf57 I I I bO nP).cv (show _=zH 1 C ((i*14+0)) from AJ (zH 1 C) B5)) I (kQ (A:=[_]) (F:=λc_=>RL (A6 (Aq (k+3)) (A6 (Aj (m+3) (n+3)) wQ)) h1 c_ (OU.set i (A0 l i CN))) (tD sizeOf57 (AO (AA _) CN i bO) I nP I I H.up Z I) ?_);intro aa M;refine Af ?_;refine yE (A:=[]) ?_;refine Ad ((i+1),(OU.set i (A0 l i CN)),C,aa,h1) ?_ ?_
  · exact⟨AM,M,⟨A3,by rw[lS];exact BA⟩,MI (f:=λu=>A0 l u CN) O ae I⟩
  omega
 have aj:=Re BA (λu hu=>ae u O);refine uF ?_;refine xR (A:=[]) (ρ:=(A6 (Aq (k+3)) (A6 (Aj (m+3) (n+3)) wQ))) H.up ?_;intro h1 ar J;refine zC I I ?_;exact(Rp.Is.cast J (by exact aj))
theorem hE{k m n:Nat}{vl:A2}{l:(List ((List Tq)×(Pq×(List Nat))))}(rl:(AS (A6 (Aq k) (A6 (Aj m n) wQ))).Is h0 vl l)(H0:k<=50000000)(H1:m<=50000000)(H2:n<=50000000)(H3:A1 l<=1048576)(H4:∀x,x∈l->A1 x.1<=100000):
 Ae 60 #[vl] w0 h0 (λh r=>(AS (A6 (Aq (k+3)) (A6 (Aj (m+3) (n+3)) wQ))).Is h r l):=by
 refine BI 5 vl func60 hs ?_;refine AX ?_;refine cL (AK I I) call118 (λw hs=>be hs rl O O O DK DK) λv4 h1 C r4=>(AF ?_);refine zC I I ?_;exact r4
theorem bk{k m n j:Nat}{vs:A2}{s:Sq}(rs:(BT k m n j).Is h0 vs s){f:Int}(hf1:-9223372036854775808<=f)(hf2:f<9223372036854775808){vps:A2}{ps:(List Pq)}(rps:(AS (Aj 100 100)).Is h0 vps ps)(H0:CF s)(H1:Dv s)(H2:k<=2)(H3:m<=2)(H4:n<=2)(H5:Oa s ps f):
 Ae 21 #[vs,vI f,vps] w0 h0 (λh r=>(AS (A6 (Aq 3013) (A6 (Aj (m+5) (n+5)) wQ))).Is h r (KT s ps f)):=by
 have ar:=H0.1.1.1;have aq:=H0.1.1.2;refine Cs 21 vs (vI f) vps func21 hs ?_;refine A5 ?_;refine nB rs λb3 ax U=>(AZ ?_);refine lX (xB jG pH U) λv7 r7=>(A7 ?_);refine cL (AK I I) call59 (λw hs=>Yq hs r7 O O DK DK O) λv9 h1 aw r9=>(Ca (λaa=>?_) λaa=>?_)
 ·
  have hz:A1 (jP s f)=0:=by omega
  refine Af ?_;refine zC I I ?_;exact(Rp.Is.cast (tP _) (by exact rE hz))
 have hz:¬A1 (jP s f)=0:=by omega
 have ai:0<=f/\f<↑(A1 s.2.1):=C7 λe=>hz (by rw[<-RF e];rfl);have H:=H0.2.1 f.toNat O;obtain⟨D,M⟩:=H5.pc H1 (g:=f.toNat) O O;refine AN ?_;refine zG 10 _ [] (Ah 0 7 [(7,.c),(8,.c),(9,.q)]) zX nX Ac nX (λr hr=>hr) (wX I (xB jG pH U) λap ah=>(A7 ?_));refine wX I (xB kO (AQ (AT pH)) U) λao ae=>(A7 ?_);refine wX I (xI zA f.toNat underlying29 tT ae) λan ad=>(wX I (xA tT ad) λam ac=>(A7 ?_));refine AB I (sC (BM I I I) call61 (λw hs=>ZY hs ah ac rps.up (by first|omega|exact D|exactλu v C J=>H1 f.toNat O u C v J|exactλu C=>Ao (H.2 u C) dC) (by first|omega|exact D|exactλu v C J=>H1 f.toNat O u C v J|exactλu C=>Ao (H.2 u C) dC) (by first|omega|exact D|exactλu v C J=>H1 f.toNat O u C v J|exactλu C=>Ao (H.2 u C) dC) (by first|omega|exact D|exactλu v C J=>H1 f.toNat O u C v J|exactλu C=>Ao (H.2 u C) dC) O O O (by first|omega|exact D|exactλu v C J=>H1 f.toNat O u C v J|exactλu C=>Ao (H.2 u C) dC)) λak h2 av ab=>?_);refine AB I (sC (AU I) call60 (λw hs=>hE hs ab dC O O (by first|omega|exact Y7 M _|exact D.prt2 _) (by first|omega|exact Y7 M _|exact D.prt2 _)) λaj h3 au Z=>?_);replace Z:=Rp.Is.le Z (Le.s (Le.p (Le.s (AI 3013)) (Le.p (Le.p (AI (m+5)) (AL (n+5))) (Le.refl _))));refine AF ?_;refine zC I I ?_;exact(Rp.Is.cast Z (by exact ea ai H1 hz))
theorem hb{k l:Nat}{vp:A2}{p:Tq}(rp:(AD k).Is h0 vp p){vq:A2}{q:Tq}(rq:(AD l).Is h0 vq q)(H0:k<=100000000)(H1:l<=100000000):
 Ae 223 #[vp,vq] w0 h0 (λ_ r=>r=vB (Dk p q)):=by
 refine B0 22 vp vq func223 hs ?_;refine A5 ?_;refine nB rp λH ah U=>(nB rq λD ae M=>(vV ?_));refine An (ι:=Nat×A4) (λ(i,ma)=>(MLe h0 ma/\(i<=3/\∀u,u<i->wA (p.at u) (q.at u)=0),[(2,vP H 0),(3,vP D 0),(5,vI ↑i)],[.var D 43 ae,.var H 43 ah],ma,3-i)) (0,h0) ?_ ?_
 · exact⟨AM,A3,λu h=>by omega⟩
 rintro⟨i,ma⟩ ⟨ai,am,BA⟩
 refine yO ?_;refine DV (λad=>?_) λad=>?_
 ·
  refine AR ?_;refine zG 8 _ [] (Ah 0 6 [(6,.c),(7,.q)]) zX nX Ac nX (λr hr=>hr) (A7 ?_);refine wK I (λ_ _=>(zM (sz:=3) i underlying43 sizeOf41 I I I O).cv (show _=vP H ((i*3+0)) from AJ (vP H) O)) I (wX I (xB zU (Pc.ta pH i O) U) λak ab=>(A7 ?_));refine wK I (λ_ _=>(zM (sz:=3) i underlying43 sizeOf41 I I I O).cv (show _=vP D ((i*3+0)) from AJ (vP D) O)) I (wX I (xB zU (Pc.ta pH i O) M) λaj aa=>?_);refine AB I (sC (AK I I) call97 (λw hs=>tL hs ab aa O) λJ h1 an Z=>?_);obtain rfl:J=vI (wA (p.at i) (q.at i)):=Z;have ac:=uJ (p.at i) (q.at i);refine Bj (λC=>?_) λC=>?_
  ·
   refine tQ ?_;refine zC I I ?_;exact qQ (j2 O BA C)
  refine AX ?_;refine Ad ((i+1),h1) ?_ ?_
  · exact⟨AM,A3,wZ (Q:=λu=>wA (p.at u) (q.at u)=0) BA (Br C)⟩
  omega
 have ei:i=3:=by omega
 refine uG ?_;refine zC I I ?_;exact(yH (kx λu hu=>BA u O)).symm
theorem Tr{va:A2}{a:(List Int)}(ra:(AS A9).Is h0 va a){vb:A2}{b:(List Int)}(rb:(AS A9).Is h0 vb b):
 Ae 225 #[va,vb] w0 h0 (λ_ r=>r=vI (cZ a b)):=by
 have bf:=G6 ra;have be:=G6 rb;refine B0 48 va vb func225 hs ?_;refine uF ?_;refine An (ι:=Nat×A4) (λ(i,Z)=>(MLe h0 Z/\((i<=A1 a/\i<=b.length)/\∀u,u<i->A0 a u 0=b.getD u 0),[(0,va),(1,vb),(5,vI ↑i)],[],Z,A1 a-i)) (0,h0) ?_ ?_
 · exact⟨AM,A3,λu h=>by omega⟩
 rintro⟨i,Z⟩ ⟨ap,bg,BA⟩
 refine yO ?_;refine Af ?_;refine gU 6 15 (vB (((↑i:Int)<(↑(A1 (a)):Int))/\((↑i:Int)<(↑(A1 (b)):Int)))) ?_ ?_
 ·
  refine zY ((↑i:Int)<(↑(A1 (a)):Int)) (λH=>?_) (λH=>?_)
  ·
   refine gT H I (vV ?_);refine Ay ?_;exact AV (xE H)
  refine gF H I (AZ ?_);refine Ay ?_;exact AV (xG H)
 refine BB (λU=>?_) λU=>?_
 ·
  refine AR ?_;refine zG 9 _ [] (Ah 0 9 []) zX nX Ac nX (λr hr=>hr) (A5 ?_);refine wX I (xI (0:Int) i underlying22 B8 ra) λbd aj=>(wX I (xA B8 aj) λbc ai=>?_);obtain⟨rfl,av,ao⟩:=jV ai;refine A5 ?_;refine wX I (xI (0:Int) i underlying22 B8 rb) λbb ah=>(wX I (xA B8 ah) λba ae=>?_);obtain⟨rfl,au,an⟩:=jV ae;refine B4 (λC=>?_) λC=>?_
  ·
   refine A5 ?_;refine zG 9 _ [] (Ah 0 9 []) zX nX Ac nX (λr hr=>hr) (A5 ?_);refine wX I (xI (0:Int) i underlying22 B8 ra) λaz ad=>(wX I (xA B8 ad) λay ac=>?_);obtain⟨rfl,ar,am⟩:=jV ac;refine A5 ?_;refine wX I (xI (0:Int) i underlying22 B8 rb) λax ab=>(wX I (xA B8 ab) λaw aa=>?_);obtain⟨rfl,aq,ak⟩:=jV aa;refine B4 (λD=>?_) λD=>?_
   ·
    refine uF ?_;refine zC I I ?_;refine AJ vI ?_;rw[Xn BA O O C,AC D]
   refine tQ ?_;refine zC I I ?_;refine AJ vI ?_;rw[Xn BA O O C,A8 D]
  refine AX ?_;refine Ad ((i+1),Z) ?_ ?_
  · exact⟨AM,A3,wZ (Q:=λu=>A0 a u 0=b.getD u 0) BA (Br C)⟩
  omega
 have ei:i=min (A1 a) b.length:=by omega
 refine nH ?_;refine Bq (λM=>?_) λM=>?_
 ·
  refine AX ?_;refine zC I I ?_;refine AJ vI ?_;rw[RE BA ei,AC O]
 refine iY (λJ=>?_) λJ=>?_
 ·
  refine AX ?_;refine zC I I ?_;refine AJ vI ?_;rw[RE BA ei,A8 O,AC O]
 refine Ak ?_;refine zC I I ?_;refine AJ vI ?_;rw[RE BA ei,A8 O,A8 O]
theorem e1{vx:A2}{x:(List Int)}(rx:(AS A9).Is h0 vx x)(H0:A1 x<=100000):
 Ae 224 #[vx] w0 h0 (λh r=>(AS A9).Is h r (J8 x)):=by
 refine BI 29 vx func224 hs ?_;refine nH ?_;refine An (ι:=Nat×A4) (λ(i,D)=>(MLe h0 D/\(i<=A1 x),[(0,vx),(3,vI ↑(bE x i)),(4,vI ↑i)],[],D,A1 x-i)) (0,h0) ?_ ?_
 · exact⟨AM,O⟩
 rintro⟨i,D⟩ ⟨am,Z⟩
 refine yO ?_;have be:=Z;have bd:=Zt x i;refine Bj (λai=>?_) λai=>?_
 ·
  refine AR ?_;refine zG 9 _ [] (Ah 0 9 []) zX nX Ac nX (λr hr=>hr) (A5 ?_);refine wX I (xI (0:Int) i underlying22 B8 rx) λba ah=>(wX I (xA B8 ah) λaz ae=>?_);obtain⟨rfl,ao,ak⟩:=jV ae;refine A5 ?_;refine wX I (xI (0:Int) (bE x i) underlying22 B8 rx) λay ad=>(wX I (xA B8 ad) λax ac=>?_);obtain⟨rfl,an,aj⟩:=jV ac;refine B4 (λC=>?_) λC=>?_
  ·
   refine uG ?_;refine Ad ((i+1),D) ?_ ?_ (he:=⟨I,AJ (λz:Nat=>some (vI ↑z)) (v7 C),I,AW⟩)
   · exact⟨AM,O⟩
   omega
  refine AX ?_;refine Ad ((i+1),D) ?_ ?_ (he:=⟨I,AJ (λz:Nat=>some (vI ↑z)) (k3 C),I,AW⟩)
  · exact⟨AM,O⟩
  omega
 have ei:i=A1 x:=by omega
 refine AZ ?_;refine zG 9 _ [] [(0,.q),(1,.q),(2,.q),(4,.q),(5,.q),(6,.q),(3,.c),(7,.c),(8,.q)] zX nX Ac nX (λr hr=>hr) (A5 ?_);refine fL (F:=λv_=>(AS A9).Is D v_ (x.drop (bE x i))) I (XB (ρ:=A9) (bE x i) underlying22 sizeOf3 I I rx.up O O) rW I ?_;intro aw ab;refine A5 ?_;refine fL (F:=λv_=>(AS A9).Is D v_ (x.take (bE x i))) I (XZ (ρ:=A9) (bE x i) underlying22 sizeOf3 I I rx.up O O) rW I ?_;intro au aa;refine AB I (dM 3 1 ?_);have J:=RL.nil (ρ:=A9) (h:=D);refine kP (A:=[]) (λX=>zN (ρ:=A9) (bytes:=8) underlying22 kT I I I I nP I I J ab NF NF) I (yP BU) ?_
 rintro av bc ⟨aq,rfl,U⟩
 refine AB I (kP (A:=[]) (λX=>zN (ρ:=A9) (bytes:=8) underlying22 kT I I I I nP I I U aa NF NF) I (yP BU) ?_)
 rintro ar bb ⟨ap,rfl,M⟩
 refine AF ?_;refine xR (A:=[]) (ρ:=A9) M ?_;intro h1 bf H;refine zC I I ?_;exact(Rp.Is.cast H (by rw[ei,Fg];rfl))
theorem ti{m n k l:Nat}{va:A2}{a:(Pq×((List (List Int))×(List Nat)))}(ra:(BP m n).Is h0 va a){vb:A2}{b:(Pq×((List (List Int))×(List Nat)))}(rb:(BP k l).Is h0 vb b)(H0:A1 a.2.1<=100000)(H1:A1 b.2.1<=100000):
 Ae 173 #[va,vb] w0 h0 (λ_ r=>r=vB (Nq a b)):=by
 refine B0 53 va vb func173 hs ?_;refine A5 ?_;refine nB ra λb2 aw D=>(nB rb λb3 av C=>(Af ?_));refine lX (xB Hd (AQ (AQ pH)) D) λv8 r8=>?_;obtain⟨rfl,au⟩:=tJ r8;refine A7 ?_;refine lX (xB Hd (AQ (AQ pH)) C) λbk aq=>?_;obtain⟨rfl,ac⟩:=tJ aq;refine gv (pt (pa:=a.2.2) (pb:=b.2.2) au ac I I) I (BB (λJ=>?_) λJ=>?_)
 ·
  refine AN ?_;refine lX (xB Hd (AQ (AQ pH)) D) λbj ap=>?_;obtain⟨rfl,ab⟩:=tJ ap;refine A7 ?_;refine lX (xB Hd (AQ (AQ pH)) C) λbi ao=>?_;obtain⟨rfl,aa⟩:=tJ ao;refine gv (kz (pa:=a.2.2) (pb:=b.2.2) ab aa I I) I (AR ?_);refine zC I I ?_;exact qQ (Iff.of_eq (A8 J).symm)
 have M:a.2.2=b.2.2:=Br J;refine Ak ?_;refine An (ι:=Nat×A4) (λ(i,ma)=>(MLe h0 ma/\((i<=A1 a.2.1/\i<=A1 b.2.1)/\∀u,u<i->cZ (A0 a.2.1 u []) (A0 b.2.1 u [])=0),[(2,vP b2 0),(3,vP b3 0),(5,vI ↑i)],[.var b3 53 av,.var b2 53 aw],ma,A1 a.2.1-i)) (0,h0) ?_ ?_
 · exact⟨AM,A3,λu h=>by omega⟩
 rintro⟨i,ma⟩ ⟨ax,bp,BA⟩
 refine yO ?_;refine AR ?_;refine lX (xB cM (AQ (AT pH)) D) λbh bo=>(A5 ?_);refine gU 7 28 (vB (((↑i:Int)<(↑(A1 (a.2.1)):Int))/\((↑i:Int)<(↑(A1 (b.2.1)):Int)))) ?_ ?_
 ·
  refine zY ((↑i:Int)<(↑(A1 (a.2.1)):Int)) (λU=>?_) (λU=>?_)
  ·
   refine gT U I (AR ?_);refine lX (xB cM (AQ (AT pH)) C) λbg bn=>(AZ ?_);refine Ay ?_;exact AV (xE U)
  refine gF U I (Af ?_);refine Ay ?_;exact AV (xG U)
 refine BB (λZ=>?_) λZ=>?_
 ·
  refine AR ?_;refine zG 12 _ [] (Ah 0 10 [(10,.c),(11,.q)]) zX nX (xU Ac) nX (λr hr=>hr) (A7 ?_);refine wX I (xB cM (AQ (AT pH)) D) λbf an=>(A7 ?_);refine wX I (xI [] i underlying51 fH an) λbe am=>(wX I (xA fH am) λbd ak=>(A7 ?_));refine wX I (xB cM (AQ (AT pH)) C) λbc aj=>(A7 ?_);refine wX I (xI [] i underlying51 fH aj) λbb ai=>(wX I (xA fH ai) λba ah=>?_);refine AB I (sC (AK I I) call225 (λw hs=>Tr hs ak ah) λad h1 bq ae=>?_);obtain rfl:ad=vI (cZ (A0 a.2.1 i []) (A0 b.2.1 i [])):=ae;have ar:=TN (A0 a.2.1 i []) (A0 b.2.1 i []);refine Bj (λH=>?_) λH=>?_
  ·
   refine tQ ?_;refine zC I I ?_;exact qQ ((dz BA O O H).symm.trans (Iff.of_eq (AC M).symm))
  refine AX ?_;refine Ad ((i+1),h1) ?_ ?_
  · exact⟨AM,A3,wZ (Q:=λu=>cZ (A0 a.2.1 u []) (A0 b.2.1 u [])=0) BA (Br H)⟩
  omega
 have ei:i=min (A1 a.2.1) (A1 b.2.1):=by omega
 refine AX ?_;refine lX (xB cM (AQ (AT pH)) D) λaz bm=>(A5 ?_);refine lX (xB cM (AQ (AT pH)) C) λay bl=>(AZ ?_);refine zC I I ?_;exact qQ (Iff.trans O ((pc BA ei).symm.trans (Iff.of_eq (AC M).symm)))
theorem Vc{m n:Nat}{vs:A2}{s:Pq}(rs:(Aj m n).Is h0 vs s)(H0:m<=10000000)(H1:n<=10000000):
 Ae 111 #[vs] w0 h0 (λh r=>(Aj (4*m+10) (m+n+10)).Is h r (Bc s)):=by
 refine BI 36 vs func111 hs ?_;refine A5 ?_;refine nB rs λb1 bg H=>(nA (ρ:=(Aj 1 1)) (X:=(zT,(0:Rat))) uV (zW (yN (zR dC)) (zR dC)) λb2 bf ak=>(Ak ?_));refine An (ι:=Nat×A4) (λ(i,ma)=>(MLe h0 ma/\(i<=3/\∀u,u<i->yK (s.1.at u)=0),[(1,vP b1 0),(2,vP b2 0),(3,vI ↑i)],[.var b2 45 bf,.var b1 45 bg],ma,3-i)) (0,h0) ?_ ?_
 · exact⟨AM,A3,λu h=>by omega⟩
 rintro⟨i,ma⟩ ⟨bi,ca,BA⟩
 refine yO ?_;refine DV (λbd=>?_) λbd=>?_
 ·
  refine AX ?_;refine gv ((zM (sz:=3) i underlying43 sizeOf41 I I I O).cv (show _=vP b1 ((i*3+0)) from AJ (vP b1) O)) I (lX (xB zU (AT (Pc.ta pH i O)) H) λbz bb=>(cL (AU I) call74 (λw hs=>qA hs bb O) λam h1 cg ba=>?_));obtain rfl:am=vI (yK (s.1.at i)):=ba;have bc:=yZ (s.1.at i);refine B4 (λD=>?_) λD=>?_
  ·
   refine A7 ?_;refine zG 13 _ [(10,(4,41,[.bool false,.slice none 0 0,.slice none 0 0]))] (Ah 1 4 [(0,.c),(5,.c),(6,.c),(7,.q),(8,.q),(9,.q),(10,.a),(11,.c),(12,.q)]) zX (uY.cons I I (vG yQ I I) uY.nil) (xU Ac) (vH I I qT) (λr hr=>hr) (A5 ?_);refine wK I (λ_ _=>(zM (sz:=3) i underlying43 sizeOf41 I I I O).cv (show _=vP b1 ((i*3+0)) from AJ (vP b1) O)) I (wX I (xB zU (AT (Pc.ta pH i O)) H) λbw ay=>?_);refine AB I (sC (vs:=[vI (1)]) ⟨I,AW⟩ call41 (λw hs=>gN hs dC dC) λbx h2 cf az=>?_);refine AB I (sC (AU I) call96 (λw hs=>fc hs ay.up O) λbv h3 ce ax=>?_);refine AB I (sC (AK I I) call94 (λw hs=>p4 hs az.up ax O) λbu h4 cd aw=>?_);obtain⟨U,rfl,C⟩:=aw
   change (AE (2+m)).Is h4 U (if(rJ (s.1.at i))=0 then 0 else(((1:Int):Int):Rat)/(rJ (s.1.at i))) at C
   replace C:=Rp.Is.le C (AL (m+2));refine AN ?_;refine CA I I (λb4=>?_);have an:(AE 1).R h4 [.bool false,.slice none 0 0,.slice none 0 0] (0:Rat):=(zR dC);refine AB I ?_;have ai:=(AL (m+2)).R an;refine kB (A:=[]) (uB sizeOf41 pH ai C) (yP BU) λbk M=>(AF ?_);refine zG 9 _ [] [(0,.q),(1,.q),(2,.q),(4,.q),(5,.q),(6,.q),(3,.c),(7,.c),(8,.q),(9,.t)] zX nX Ac nX (λr hr=>hr) (wX I (xB zU pH M) λbt av=>(A7 ?_));refine wX I (xB zI (AT pH) H) λbs au=>(wX I (xB zU pH M) λbq ar=>(A7 ?_));refine wX I (xB zU (AQ pH) H) λbp aq=>?_;refine AB I (sC (AK I I) call40 (λw hs=>UN hs av au O) λbr h5 cc ad=>?_);replace ad:=Rp.Is.le ad (AI (4*m+7));refine AB I (sC (AK I I) call98 (λw hs=>jH hs ar.up aq.up O) λbo h6 cb ac=>?_);replace ac:=Rp.Is.le ac (AL (m+n+2));refine wX I (xV (ρ:=(Aj (4*m+7) (m+n+2))) (xL (ps':=[(0,_),(1,_)]) underlying45 uV I I (fP underlying45) BR I (zW (yN (zR O)) (zR O)) (zD I (AT (AA _)) ad.up (zD I (AQ (AA _)) ac zO)))) λbn ap=>?_;have ah:=(Le.p (AI (4*m+7)) (AL (m+n+2))).R ak;refine yD (A:=[_]) I (uB sizeOf45 pH ah ap) λbj aj=>(AX ?_);refine xW (qV (t:=2) qZ Ax I aj) ?_;intro bl ae aa;refine yI (λE S=>zS I ae E S) ?_;exact(Rp.Is.cast (Rp.Is.le aa (Le.p (AI (4*m+10)) (AL (m+n+10)))) (by exact YG O BA D))
  refine AX ?_;refine Ad ((i+1),h1) ?_ ?_
  · exact⟨AM,A3,wZ (Q:=λu=>yK (s.1.at u)=0) BA (Br D)⟩
  omega
 have ei:i=3:=by omega
 refine Af ?_;refine lX (xV (ρ:=(Aj 1 1)) (xL (ps':=[]) underlying45 uV I I (fP underlying45) trivial I (zW (yN (zR dC)) (zR dC)) zO)) λbm ao=>(zP (A:=[]) (uB sizeOf45 pH ak ao) λbe ab=>(AN ?_));refine xW (qV (t:=2) qZ Ar I ab) ?_;intro bh J Z;refine yI (λE S=>zS I J E S) ?_;exact(Rp.Is.cast (Rp.Is.le Z (Le.p (AI (4*m+10)) (AL (m+n+10)))) (by exact UE λu hu=>BA u O))
theorem Vl{vx:A2}{x:(List Int)}(rx:(AS A9).Is h0 vx x)(H0:A1 x<=100000):
 Ae 49 #[vx] w0 h0 (λh r=>(AS A9).Is h r (Ev x (A1 x))):=by
 refine BI 20 vx func49 hs ?_;refine qi ?_;refine yX 3 1 ?_;have Z:=RL.nil (ρ:=A9) (h:=h0);refine An (ι:=Nat×List Int×A2×List A2×A4) (λ(i,D,C,H,ma)=>(MLe h0 ma/\(RL A9 ma H D/\i<=A1 x/\D=Ev x i),[(0,vx),(3,C),(4,vI (↑(A1 x)-1-↑i))],[.gs 3 1 C (A1 D) H],ma,A1 x-i)) (0,[],(.slice none 0 0),[],h0) ?_ ?_ (he:=⟨I,I,AJ (λz=>some (vI z)) O,AW⟩)
 · exact⟨AM,Z,A3,I⟩
 rintro⟨i,D,C,H,ma⟩ ⟨am,J,aw,hD⟩
 refine yO ?_;have ax:A1 D=i:=by rw[hD];exact xN _ _
 refine DV (λaj=>?_) λaj=>?_
 ·
  refine AX ?_;refine lX (xI (0:Int) (A1 x-1-i) underlying22 B8 rx) λar ah=>(lX (xA B8 ah) λaq ae=>?_);obtain⟨rfl,an,ak⟩:=jV ae;refine zE (zL (ρ:=A9) (m:=1) (xs:=[(A0 x (A1 x-1-i) (0:Int))]) (ps':=[(0,_)]) underlying22 kT I I I wT Al (zD I (AO (AA _) (0:Int) 0 dC) (vC O O) zO) CO nP) I I I ?_
  rintro ap av ⟨ao,rfl,ab⟩
  refine zQ (A:=[]) (ρ:=A9) ab ?_;intro h1 ai U;refine yY (A:=[]) (zN (ρ:=A9) (bytes:=8) underlying22 kT I I I I nP I I J.up U bO bO) I I I ?_
  rintro ad au ⟨ac,rfl,aa⟩
  refine Ak ?_;refine Ad ((i+1),(D++[(A0 x (A1 x-1-i) (0:Int))]),ad,ac,h1) ?_ ?_ (he:=⟨I,I,AJ (λz=>some (vI z)) O,AW⟩)
  · exact⟨AM,aa,A3,by rw[hD];rfl⟩
  omega
 have ei:i=A1 x:=by omega
 refine uF ?_;refine xR (A:=[]) (ρ:=A9) J.up ?_;intro h1 ai M;refine zC I I ?_;exact(Rp.Is.cast M (by rw[hD,ei]))
theorem s1{k m n j:Nat}{vs:A2}{s:Sq}(rs:(BT k m n j).Is h0 vs s)(H0:k<=1000)(H1:CF s)(H2:Dv s):
 Ae 171 #[vs] w0 h0 (λh r=>(AS A9).Is h r (aY s (A1 s.1))):=by
 have dz:=H1.1.1.1;have dy:=H1.1.1.2;have bg:=rR s;refine BI 80 vs func171 hs ?_;refine A5 ?_;refine nB rs λb1 bc am=>(AZ ?_);refine lX (xB uN (AT pH) am) λdt dv=>(A7 ?_);refine zE (lK (ρ:=DE) (X:=False) (by':=1) (A1 s.1) underlying230 OM I I I I J7 I I B5 B5 bO bO) I I I ?_
 rintro bu dw ⟨bp,rfl,bf⟩
 refine AR ?_;refine lX (xB jG pH am) λdr ck=>(cL (AU I) call139 (λw hs=>Wc hs ck (by first|omega|exact H1.mem) (by first|omega|exact H1.mem)) λdq h1 ed cj=>(cL (AU I) call196 (λw hs=>XI hs cj (by first|omega|exactλf hf=>(by rw[bg] at hf;rw[oG hf];exact H1.2.1 f hf)) (by first|omega|exactλf hf=>(by rw[bg] at hf;rw[oG hf];exact H1.2.1 f hf))) λbt h2 ec ci=>(AZ ?_)));have ee:=ix H1;have hE:∀q,q<A1 (Bg (uM s))->0<=(A0 (Bg (uM s)) q Bx).1/\(A0 (Bg (uM s)) q Bx).1<↑(A1 s.1):=λq hq=>jc H2 hq;refine AF ?_;refine An (ι:=Nat×List Prop×A2×List A2×A4) (λ(i,U,C,aa,ma)=>(MLe h2 ma/\(RL DE ma aa U/\(i<=A1 (Bg (uM s))/\A1 U=A1 s.1)/\∀u,u<A1 s.1->(A0 U u False↔Gk (Bg (uM s)) i u)),[(1,vP b1 0),(3,C),(4,bt),(5,vI ↑i)],[.gs 4 1 C (A1 U) aa,.var b1 32 bc],ma,A1 (Bg (uM s))-i)) (0,(List.replicate (A1 s.1) False),bu,bp,h2) ?_ ?_
 · exact⟨AM,bf.up,⟨A3,Hu⟩,λu h=>by rw[d3 h];exact⟨False.elim,λ⟨q,h,_⟩=>by omega⟩⟩
 rintro⟨i,U,C,aa,ma⟩ ⟨cz,an,⟨ea,bl⟩,bk⟩
 refine yO ?_;refine Bj (λbj=>?_) λbj=>?_
 ·
  refine AX ?_;refine lX (xI Bx i underlying210 GB ci) λdp ch=>(lX (xF underlying214 sizeOf3 (AT pH) ch) λdn cg=>(lX (xA B8 cg) λdm cf=>?_));obtain⟨rfl,db,cu⟩:=jV cf
  let eX0:=((A0 (Bg (uM s)) i Bx).1.toNat)
  refine gv ((yG eX0 Ar underlying230 sizeOf4 I I (by(have:=hE i O;omega)) (by(have:=hE i O;omega)) nP).cv (show _=zH 1 C (((A0 (Bg (uM s)) i Bx).1.toNat*1+0)) from AJ (zH 1 C) B5)) I (kQ (A:=[]) (F:=λc_=>RL DE ma c_ (U.set eX0 True)) (tD sizeOf4 (AO (AA _) False eX0 (by(have:=hE i O;omega))) I nP I I an (qm) I) ?_);intro bm be;refine AX ?_;refine Ad ((i+1),(U.set eX0 True),C,bm,ma) ?_ ?_
  · exact⟨AM,be,⟨A3,by rw[lS];exact bl⟩,ha bl bk (hE i O).1 (hE i O).2⟩
  omega
 have ax:∀u,u<A1 s.1->(A0 U u False↔Gk (Bg (uM s)) (A1 (Bg (uM s))) u):=λu hu=>by rw[show(A1 (Bg (uM s)))=i by omega];exact bk u hu
 refine nH ?_;refine yX 3 1 ?_;have bd:=RL.nil (ρ:=A9) (h:=ma);refine An (ι:=Nat×List Int×A2×List A2×A4) (λ(i,D,J,Z,mb)=>(MLe ma mb/\(RL A9 mb Z D/\i<=A1 s.1/\D=aY s i),[(1,vP b1 0),(3,C),(6,J),(7,vI ↑i)],[.gs 3 1 J (A1 D) Z,.gs 4 1 C (A1 U) aa,.var b1 32 bc],mb,A1 s.1-i)) (0,[],(.slice none 0 0),[],ma) ?_ ?_
 · exact⟨AM,bd,A3,I⟩
 rintro⟨i,D,J,Z,mb⟩ ⟨cy,M,BA,hD⟩
 refine yO ?_;have ef:A1 D<=i:=by rw[hD];exact Rc s i
 refine AR ?_;refine lX (xB uN (AT pH) am) λdl du=>(Ca (λbi=>?_) λbi=>?_)
 ·
  refine Ak ?_;refine gv ((yG i Ax underlying230 sizeOf4 I I I bO nP).cv (show _=zH 1 C ((i*1+0)) from AJ (zH 1 C) B5)) I (nT (F:=λv_=>DE.Is mb v_ (A0 U i False)) (xO QB (AO (AA _) False i bO) I nP I an.up I) (gH Ax) I ?_);intro dk ce;obtain rfl:=Qg ce;refine B4 (λai=>?_) λai=>?_
  ·
   refine Ak ?_;refine Ad ((i+1),D,J,Z,mb) ?_ ?_
   · exact⟨AM,M,A3,by rw[hD];exact(A8 (λe=>ai ((ax i O).2 e))).symm⟩
   omega
  refine AR ?_;refine gv (qR Ar underlying22 I) I (AR ?_);refine An (ι:=Nat×A4) (λ(H,mk)=>(MLe mb mk/\(H<=A1 D/\lE (Jf s D i) (A1 D)=lE (Jf s D i) H),[(1,vP b1 0),(3,C),(6,J),(7,vI ↑i),(8,vI ↑H)],[.gs 3 1 J (A1 D) Z,.gs 4 1 C (A1 U) aa,.var b1 32 bc],mk,H)) (A1 D,mb) ?_ ?_ (he:=e5)
  · exact⟨AM,A3,I⟩
  rintro⟨H,mk⟩ ⟨cw,dx,az⟩
  refine yO ?_;refine A5 ?_;refine zG 19 _ [] (Ah 0 17 [(17,.c),(18,.q)]) zX nX (xU Ac) nX (λr hr=>hr) (AN ?_);refine qC ((0:Int)<(↑H:Int)) (λae=>?_) (λae=>?_)
  ·
   rw[yU ae];refine A7 ?_;refine oX I (xB uN (AT pH) am) λdj cd=>(yS I I I (λh' L' hh hR=>xK I) I (oX I (xI zT i underlying28 zI cd) λdi cc=>(oX I (xA zI cc) λdh cb=>(A7 ?_))));refine oX I (xB uN (AT pH) am) λdf ca=>(yS I I I (λh' L' hh hR=>xK I) I (yS I I I (λh' L' hh hR=>xK I) I (A7 ?_)));refine yS I I I (λh' L' hh hR=>(yG (H-1) (hR _ Ar) underlying22 sizeOf3 I I O O nP).cv (show _=zH 1 J (((H-1)*1+0)) from AJ (zH 1 J) B5)) I (nY (F:=λv_=>A9.Is mk v_ (A0 D (H-1) (0:Int))) I I I (xO B8 (AO (AA _) (0:Int) (H-1) O) I nP I M.up I) (gH Ar) I ?_);intro de bz;obtain⟨rfl,da,ct⟩:=jV bz;refine nY (F:=λv_=>C4 (AD k) mk v_ (A0 s.1 ((A0 D (H-1) 0).toNat) zT)) I I I (kW zT ((A0 D (H-1) 0).toNat) underlying28 zI I I ca (by(have:=eP (s:=s) (i:=i) (k:=H-1) (by rw[<-hD];omega);rw[<-hD] at this;omega)) (by(have:=eP (s:=s) (i:=i) (k:=H-1) (by rw[<-hD];omega);rw[<-hD] at this;omega)) nP) rW I ?_;intro dd bx;refine oX I (xA zI bx) λdc bw=>?_;refine AB I (ES I I (sC (AK I I) call223 (λw hs=>hb hs cb bw O O) λbs h3 bh bv=>?_));obtain rfl:bs=vB (Dk (A0 s.1 i zT) (A0 s.1 ((A0 D (H-1) 0).toNat) zT)):=bv;refine B4 (λah=>?_) λah=>?_
   ·
    refine Ak ?_;refine Ad ((H-1),h3) ?_ ?_ (he:=⟨I,I,I,I,AJ (λz=>some (vI z)) O,AW⟩)
    · exact⟨AM,A3,by rw[az];exact Sv O ah⟩
    omega
   refine AX ?_;refine zE (zL (ρ:=A9) (m:=1) (xs:=[(0:Int)]) (ps':=[(0,_)]) underlying22 kT I I I wT Al (zD I (AO (AA _) (0:Int) 0 dC) (vC dC dC) zO) CO nP) I I I ?_
   rintro br cn ⟨bo,rfl,ak⟩
   refine zQ (A:=[]) (ρ:=A9) ak ?_;intro h4 eb aq;refine yY (A:=[]) (zN (ρ:=A9) (bytes:=8) underlying22 kT I I I I nP I I M.up aq bO bO) I I I ?_
   rintro ab cm ⟨bn,rfl,aj⟩
   refine AF ?_;refine nI (A:=[]) (by rw[BJ];exact M1 _) (λob cq ac ad=>?_);refine qM (A:=[]) 8 [] (Ah 0 7 [(7,.c)]) zX nX Ac nX (AN ?_);refine wK I (λ_ _=>jU (H+1) underlying22 sizeOf3 I I ⟨_,_,ac,ad⟩ O Cx) I (A5 ?_);refine wK I (λ_ _=>jU H underlying22 sizeOf3 I I ⟨_,_,ac,ad⟩ O Cx) I ?_;refine AB I (kP (A:=[]) (λX=>mW (ρ:=A9) H ac ad underlying22 sizeOf3 I I Cx aj) I (yP BU) ?_)
   rintro bq cl ⟨cp,rfl,aw⟩
   refine AZ ?_;refine gv ((yG H Ar underlying22 sizeOf3 I I O (by rw[fO Cx];simp only[BJ,lC,lN];omega) nP).cv (show _=zH 1 ab ((H*1+0)) from AJ (zH 1 ab) B5)) I (kQ (A:=[]) (F:=λc_=>RL A9 h4 c_ ((sU (D++[(0:Int)]) H).set H (↑i:Int))) (tD sizeOf3 (AO (AA _) (0:Int) H (by rw[fO Cx];simp only[BJ,lC,lN];omega)) I nP I I aw (vC O O) I) ?_);intro bb av;refine AX ?_;refine Ad ((i+1),((sU (D++[(0:Int)]) H).set H (↑i:Int)),ab,bb,h4) ?_ ?_
   · exact⟨AM,av,A3,by rw[mU O];have ay:lE (Jf s D i) (A1 D)=H:=by{rw[az];exact LI (λe=>by first|omega|exact ah e.2)};rw[<-ay,hD];exact(AC ((ax i O).1 (Br ai))).symm⟩
   omega
  rw[yH ae];refine fJ ?_;refine AB I (bD I I I I (uF ?_));refine zE (zL (ρ:=A9) (m:=1) (xs:=[(0:Int)]) (ps':=[(0,_)]) underlying22 kT I I I wT Al (zD I (AO (AA _) (0:Int) 0 dC) (vC dC dC) zO) CO nP) I I I ?_
  rintro br cn ⟨bo,rfl,ak⟩
  refine zQ (A:=[]) (ρ:=A9) ak ?_;intro h3 bh ap;refine yY (A:=[]) (zN (ρ:=A9) (bytes:=8) underlying22 kT I I I I nP I I M.up ap bO bO) I I I ?_
  rintro ab cm ⟨bn,rfl,aj⟩
  refine AF ?_;refine nI (A:=[]) (by rw[BJ];exact M1 _) (λob cq ac ad=>?_);refine qM (A:=[]) 8 [] (Ah 0 7 [(7,.c)]) zX nX Ac nX (AN ?_);refine wK I (λ_ _=>jU (H+1) underlying22 sizeOf3 I I ⟨_,_,ac,ad⟩ O Cx) I (A5 ?_);refine wK I (λ_ _=>jU H underlying22 sizeOf3 I I ⟨_,_,ac,ad⟩ O Cx) I ?_;refine AB I (kP (A:=[]) (λX=>mW (ρ:=A9) H ac ad underlying22 sizeOf3 I I Cx aj) I (yP BU) ?_)
  rintro bq cl ⟨co,rfl,au⟩
  refine AZ ?_;refine gv ((yG H Ar underlying22 sizeOf3 I I O (by rw[fO Cx];simp only[BJ,lC,lN];omega) nP).cv (show _=zH 1 ab ((H*1+0)) from AJ (zH 1 ab) B5)) I (kQ (A:=[]) (F:=λc_=>RL A9 h3 c_ ((sU (D++[(0:Int)]) H).set H (↑i:Int))) (tD sizeOf3 (AO (AA _) (0:Int) H (by rw[fO Cx];simp only[BJ,lC,lN];omega)) I nP I I au (vC O O) I) ?_);intro ba ar;refine AX ?_;refine Ad ((i+1),((sU (D++[(0:Int)]) H).set H (↑i:Int)),ab,ba,h3) ?_ ?_
  · exact⟨AM,ar,A3,by rw[mU O];have ay:lE (Jf s D i) (A1 D)=H:=by{rw[az];exact LI (λe=>by first|omega|exact ah e.2)};rw[<-ay,hD];exact(AC ((ax i O).1 (Br ai))).symm⟩
  omega
 have ei:i=A1 s.1:=by omega
 refine uF ?_;refine xR (A:=[]) (ρ:=A9) M.up ?_;intro h3 bh ao;refine zC I I ?_;exact(Rp.Is.cast ao (by rw[hD,ei]))
theorem d0{k m n j:Nat}{vs:A2}{s:Sq}(rs:(BT k m n j).Is h0 vs s){f:Nat}{vix:A2}{ix:(List Int)}(rix:(AS A9).Is h0 vix ix)(H0:k<=1000)(H1:m<=100000)(H2:n<=100000)(H3:CF s)(H4:f<A1 s.2.1)(H5:DB s f)(H6:A1 ix=A1 s.1):
 Ae 172 #[vs,vI ↑f,vix] w0 h0 (λh r=>(BP (4*m+11) (m+n+11)).Is h r (CI s ix f)):=by
 have id:=H3.1.1.1;have ic:=H3.1.1.2;have ev:=On s f;have ik:=hY H4 H5;have ck:=H3.2.1 f H4;have ey:=oO (s:=s) (f:=↑f) H3.2.1;refine Cs 121 vs (vI ↑f) vix func172 hs ?_;refine A5 ?_;refine nB rs λb3 av am=>(nA (ρ:=(BP 1 1)) (X:=((zT,(0:Rat)),([],([]:List Nat)))) jR (zW (zW (yN (zR dC)) (zR dC)) (zW wC jQ)) λb6 au dd=>(AF ?_));refine lX (xB jG pH am) λhp ep=>(A7 ?_);refine cL (AK I I) call65 (λw hs=>WR (f:=f) hs ep O O O (by first|omega|exact H3.big) (by first|omega|exact H3.big) (by first|omega|exact H3.big) (by first|omega|exact H3.big)) λap h1 ij eo=>(AF ?_);refine zG 15 _ [(14,(8,53,[.bool false,.slice none 0 0,.slice none 0 0,.bool false,.slice none 0 0,.slice none 0 0,.bool false,.slice none 0 0,.slice none 0 0,.bool false,.slice none 0 0,.slice none 0 0,.slice none 0 0,.string ⟨#[]⟩]))] (Ah 0 6 (Ah 7 6 [(6,.c),(13,.q),(14,.a),(15,.t)])) zX (uY.cons I I (vG jR I I) uY.nil) (xU Ac) (vH I I qT) (λr hr=>hr) (A7 ?_);refine wX I (xB kO (AQ (AT pH)) am) λho en=>(A7 ?_);refine wX I (xI zA f underlying29 tT en) λhn em=>(wX I (xF underlying53 sizeOf45 (AT pH) em) λhm el=>(wX I (xA qZ el) λhl ek=>(A7 ?_)));refine wX I (xB kO (AQ (AT pH)) am) λhj eh=>(A7 ?_);refine wX I (xI zA f underlying29 tT eh) λhf eg=>(wX I (xF underlying53 sizeOf9 (AQ (AQ pH)) eg) λhd ef=>(wX I (xA Hd ef) λhc ee=>?_));obtain⟨rfl,cq⟩:=tJ ee;refine AB I (sC (AU I) call111 (λw hs=>Vc hs ek O O) λhk h2 ii ej=>(wX I (xV (ρ:=(A6 (Aj (4*m+10) (m+n+10)) (A6 Az wQ))) (xL (ps':=[(0,_),(2,_)]) underlying53 jR I I (aC underlying53) BR I (zW (zW (yN (zR O)) (zR O)) (zW fG jQ)) (zD I (AT (AA _)) ej (zD I (AQ (AQ (AA _))) (fV cq) zO)))) λhb ed=>?_));refine CA I I (λb8=>?_);have dc:(A6 (Aj 1 1) (A6 Az wQ)).R h2 [.bool false,.slice none 0 0,.slice none 0 0,.bool false,.slice none 0 0,.slice none 0 0,.bool false,.slice none 0 0,.slice none 0 0,.bool false,.slice none 0 0,.slice none 0 0,.slice none 0 0,.string ⟨#[]⟩] ((zT,(0:Rat)),((A2.slice none 0 0),([]:List Nat))):=(zW (zW (yN (zR dC)) (zR dC)) (zW fG jQ));have bz:=(Le.p (Le.p (AI (4*m+10)) (AL (m+n+10))) (Le.refl _)).R dc;refine yD (A:=[]) I (uB sizeOf53 pH bz ed) λct cg=>(fJ ?_);refine yX 22 1 ?_;have cb:=RL.nil (ρ:=AS A9) (h:=h2);refine yX 22 1 ?_;have ca:=RL.nil (ρ:=AS A9) (h:=h2);refine An (ι:=Nat×List (List Int)×List (List Int)×List A2×A2×List A2×A2×List A2×A4) (λ(i,D,G,Z,C,M,H,J,ma)=>(MLe h2 ma/\((A6 (Aj (4*m+11) (m+n+11)) (A6 Az wQ)).R ma Z (Bc (A0 s.2.1 f zA).1,(H,(A0 s.2.1 f zA).2.2))/\RL (AS A9) ma M D/\RL (AS A9) ma J G/\H.oneCell'=true/\i<=A1 (A0 s.2.1 f zA).2.1/\D=EM s ix f i/\G=FW s ix f i),[(1,vI ↑f),(2,vix),(3,vP b3 0),(6,vP b6 0),(7,ap),(8,vP b8 0),(9,C),(10,vI ↑i)],[.gs 22 1 H (A1 G) J,.gs 22 1 C (A1 D) M,.var b8 53 Z,.var b6 53 au,.var b3 32 av],ma,A1 (A0 s.2.1 f zA).2.1-i)) (0,[],[],ct,(.slice none 0 0),[],(.slice none 0 0),[],h2) ?_ ?_
 · exact⟨AM,((Le.p (Le.p (AI (4*m+11)) (AL (m+n+11))) (Le.refl _)).R cg),cb,ca,I,A3,I,I⟩
 rintro⟨i,D,G,Z,C,M,H,J,ma⟩ ⟨fu,ac,ab,ae,bq,ie,hD,hG⟩
 refine yO ?_;have io:A1 D<=i:=by rw[hD];exact R8 s ix f i
 have il:A1 G<=i:=by rw[hG];exact cS _ _ i
 refine Bj (λcp=>?_) λcp=>?_
 ·
  refine y7 ?_;refine yX 3 1 ?_;have bh:=RL.nil (ρ:=A9) (h:=ma);refine An (ι:=Nat×List Int×A2×List A2×A4) (λ(q,EL,aa,ai,mb)=>(MLe ma mb/\(RL A9 mb ai EL/\q<=A1 (A0 (A0 s.2.1 f zA).2.1 i [])/\EL=Ni s ix f i q),[(1,vI ↑f),(2,vix),(3,vP b3 0),(6,vP b6 0),(7,ap),(8,vP b8 0),(9,C),(10,vI ↑i),(11,aa),(12,vI ↑q)],[.gs 3 1 aa (A1 EL) ai,.gs 22 1 H (A1 G) J,.gs 22 1 C (A1 D) M,.var b8 53 Z,.var b6 53 au,.var b3 32 av],mb,A1 (A0 (A0 s.2.1 f zA).2.1 i [])-q)) (0,[],(.slice none 0 0),[],ma) ?_ ?_
  · exact⟨AM,bh,A3,I⟩
  rintro⟨q,EL,aa,ai,mb⟩ ⟨ft,ak,ia,hE⟩
  refine yO ?_;have im:A1 EL=q:=by rw[hE];exact xN _ _
  have cj:=ck.2 i O;refine AR ?_;refine lX (xB kO (AQ (AT pH)) am) λha ec=>(A7 ?_);refine lX (xI zA f underlying29 tT ec) λgz eb=>(lX (xF underlying53 sizeOf51 (AQ (AT pH)) eb) λgy ea=>(lX (xA cM ea) λgx dz=>(A7 ?_)));refine lX (xI [] i underlying51 fH dz) λgw dy=>(lX (xA fH dy) λgu hq=>(Ca (λco=>?_) λco=>?_))
  ·
   refine AX ?_;refine lX (xB kO (AQ (AT pH)) am) λgt dx=>(A7 ?_);refine lX (xI zA f underlying29 tT dx) λgr dw=>(lX (xF underlying53 sizeOf51 (AQ (AT pH)) dw) λgq dv=>(lX (xA cM dv) λgo du=>(A7 ?_)));refine lX (xI [] i underlying51 fH du) λgn dt=>(lX (xA fH dt) λgm dr=>(A7 ?_));refine lX (xI (0:Int) q underlying22 B8 dr) λgk dq=>(lX (xA B8 dq) λgj dp=>?_);obtain⟨rfl,fw,fq⟩:=jV dp;refine nT (F:=λv_=>C4 A9 mb v_ (A0 ix ((A0 (A0 (A0 s.2.1 f zA).2.1 i []) q 0).toNat) (0:Int))) (kW (0:Int) ((A0 (A0 (A0 s.2.1 f zA).2.1 i []) q 0).toNat) underlying22 B8 I I rix.up (by(have:=H5 i O q O;omega)) (by(have:=H5 i O q O;omega)) nP) rW I ?_;intro gi dn;refine lX (xA B8 dn) λgh dm=>?_;obtain⟨rfl,fv,fp⟩:=jV dm;refine zE (zL (ρ:=A9) (m:=1) (xs:=[(A0 ix ((A0 (A0 (A0 s.2.1 f zA).2.1 i []) q 0).toNat) (0:Int))]) (ps':=[(0,_)]) underlying22 kT I I I wT Al (zD I (AO (AA _) (0:Int) 0 dC) (vC O O) zO) CO nP) I I I ?_
   rintro gg hw ⟨fy,rfl,cf⟩
   refine zQ (A:=[]) (ρ:=A9) cf ?_;intro h3 cn bd;refine yY (A:=[]) (uD (zN (ρ:=A9) (bytes:=8) underlying22 kT I I I I nP I I ak.up bd bO bO)) I I I ?_
   rintro db hv ⟨fr,cw,rfl,ce⟩
   refine Ak ?_;refine Ad ((q+1),(EL++[(A0 ix ((A0 (A0 (A0 s.2.1 f zA).2.1 i []) q 0).toNat) (0:Int))]),db,cw,h3) ?_ ?_
   · exact⟨AM,ce,A3,by rw[hE];rfl⟩
   omega
  have eq:q=A1 (A0 (A0 s.2.1 f zA).2.1 i []):=by omega
  have cj:=ck.2 i O;refine AX ?_;refine zQ (A:=[]) (ρ:=A9) ak.up ?_;intro h3 cn bc;refine cL (AU I) call224 (λw hs=>e1 hs bc O) λbx h4 cm an=>?_;replace an:=Rp.Is.cast (y:=(D8 s ix f i)) an (by rw[hE,eq];rfl);refine AX ?_;refine lX (xI [] i underlying61 uN eo) λgf dl=>(lX (xA uN dl) λge dk=>(cL (AU I) call220 (λw hs=>bN hs dk O (by first|omega|(have:=ey.2 i;rw[<-ev.2 i] at this;omega))) λgc h5 ih dj=>(cL (AU I) call74 (λw hs=>qA hs dj dC) λda h6 ig di=>?_)));obtain rfl:da=vI (yK (qN (A0 (sS s f) i []) 0 1 (A1 (A0 (sS s f) i [])))):=di;have er:=yZ (qN (A0 (sS s f) i []) 0 1 (A1 (A0 (sS s f) i [])));refine B4 (λad=>?_) λad=>?_
  ·
   refine AN ?_;refine lX (sR (xB cM (AQ (AT pH)) ac)) λgb dh=>?_;subst dh;refine A7 ?_;refine zE (zL (ρ:=(AS A9)) (m:=1) (xs:=[(D8 s ix f i)]) (ps':=[(0,_)]) underlying51 sL I I I wC Al (zD I (AO (AA _) [] 0 dC) an.up zO) CO nP) I I I ?_
   rintro ga hu ⟨fx,rfl,cd⟩
   refine zQ (A:=[]) (ρ:=(AS A9)) cd ?_;intro h7 bs bb;refine yY (A:=[]) (uD (zN (ρ:=(AS A9)) (bytes:=24) underlying51 sL I I I I nP I I ae.up bb bO bO)) I I I ?_
   rintro cz ht ⟨aw,cu,rfl,cc⟩
   refine A7 ?_;refine zP (A:=[_,_]) (uB sizeOf51 (AQ (AT pH)) ac (oH aw)) λbv bn=>(uG ?_);refine Ad ((i+1),D,(G++[(D8 s ix f i)]),bv,C,M,cz,cu,h7) ?_ ?_
   · exact⟨AM,bn,ab.up,cc,aw,A3,by rw[hD];exact(AC ad).symm,by rw[hG];exact HO (p:=FG s f) ad⟩
   omega
  refine AR ?_;refine gv (qR Ax underlying51 I) I (AR ?_);refine An (ι:=Nat×A4) (λ(U,mk)=>(MLe h6 mk/\(U<=A1 D/\lE (M2 (D8 s ix f i) D) (A1 D)=lE (M2 (D8 s ix f i) D) U),[(1,vI ↑f),(2,vix),(3,vP b3 0),(6,vP b6 0),(7,ap),(8,vP b8 0),(9,C),(10,vI ↑i),(11,bx),(13,vI ↑U)],[.gs 22 1 H (A1 G) J,.gs 22 1 C (A1 D) M,.var b8 53 Z,.var b6 53 au,.var b3 32 av],mk,U)) (A1 D,h6) ?_ ?_
  · exact⟨AM,A3,I⟩
  rintro⟨U,mk⟩ ⟨fs,ib,cl⟩
  refine yO ?_;refine AR ?_;refine uH (ι:=A4) 10 (λm_=>MLe mk m_) (λ_=>[(97,vB (((0:Int)<(↑U:Int))/\((cZ (D8 s ix f i) (A0 D (U-1) []))<(0:Int)))),(1,vI ↑f),(2,vix),(3,vP b3 0),(6,vP b6 0),(7,ap),(8,vP b8 0),(9,C),(10,vI ↑i),(11,bx),(13,vI ↑U)]) (λ_=>[.gs 22 1 H (A1 G) J,.gs 22 1 C (A1 D) M,.var b8 53 Z,.var b6 53 au,.var b3 32 av]) (λm_=>m_) ?_ ?_
  ·
   refine zY ((0:Int)<(↑U:Int)) (λhg=>?_) (λhg=>?_)
   ·
    refine gT hg I (Ak ?_);refine gv ((yG (U-1) Ax underlying51 sizeOf22 I I O O nP).cv (show _=zH 1 C (((U-1)*1+0)) from AJ (zH 1 C) B5)) I (A7 ?_);refine nT (F:=λv_=>(AS A9).Is mk v_ (A0 D (U-1) [])) (xO fH (AO (AA _) [] (U-1) O) I nP I ab.up I) (gH Ax) I ?_;intro fz df;refine A7 ?_;refine cL (AK I I) call225 (λw hs=>Tr hs an.up df) λcy h7 bs de=>?_;obtain rfl:cy=vI (cZ (D8 s ix f i) (A0 D (U-1) [])):=de;have ew:=TN (D8 s ix f i) (A0 D (U-1) []);refine AF ?_;refine zV h7 bs ⟨?_,I,I,I,I,I,I,I,I,I,I,AW⟩ I I;exact AV (xE hg)
   refine gF hg I (vV ?_);refine zV mk (MLe.refl _) ⟨?_,I,I,I,I,I,I,I,I,I,I,AW⟩ I I;exact AV (xG hg)
  intro aq bw;refine fM ?_;refine BB (λao=>?_) λao=>?_
  ·
   refine Ak ?_;refine Ad ((U-1),aq) ?_ ?_ (he:=⟨I,I,I,I,I,I,I,I,I,AJ (λz=>some (vI z)) O,AW⟩)
   · exact⟨AM,A3,by rw[cl];exact Sv O ao.2⟩
   omega
  refine AX ?_;refine zE (zL (ρ:=(AS A9)) (m:=1) (xs:=[[]]) (ps':=[(0,_)]) underlying51 sL I I I wC Al (zD I (AO (AA _) [] 0 dC) (tP _) zO) CO nP) I I I ?_
  rintro fj fo ⟨fd,rfl,bk⟩
  refine zQ (A:=[]) (ρ:=(AS A9)) bk ?_;intro h7 bs ba;refine yY (A:=[_]) (uD (zN (ρ:=(AS A9)) (bytes:=24) underlying51 sL I I I I nP I I ab.up ba bO bO)) I I I ?_
  rintro aj fm ⟨es,fc,rfl,bj⟩
  refine AF ?_;refine nI (A:=[_]) (by rw[BJ];exact M1 _) (λob ip bo bp=>?_);refine qM (A:=[_]) 8 [] (Ah 0 7 [(7,.c)]) zX nX Ac nX (AN ?_);refine wK I (λ_ _=>jU (U+1) underlying51 sizeOf22 I I ⟨_,_,bo,bp⟩ O Cx) I (A5 ?_);refine wK I (λ_ _=>jU U underlying51 sizeOf22 I I ⟨_,_,bo,bp⟩ O Cx) I ?_;refine AB I (kP (A:=[_]) (λX=>mW (ρ:=(AS A9)) U bo bp underlying51 sizeOf22 I I Cx bj) I (yP BU) ?_)
  rintro fi fl ⟨fa,rfl,bg⟩
  refine AZ ?_;refine gv ((yG U Ax underlying51 sizeOf22 I I O (by rw[fO Cx];simp only[BJ,lC,lN];omega) nP).cv (show _=zH 1 aj ((U*1+0)) from AJ (zH 1 aj) B5)) I (kQ (A:=[_]) (F:=λc_=>RL (AS A9) h7 c_ ((sU (D++[[]]) U).set U (D8 s ix f i))) (tD sizeOf22 (AO (AA _) [] U (by rw[fO Cx];simp only[BJ,lC,lN];omega)) I nP I I bg an.up I) ?_);intro bu bf;refine AX ?_;refine Ad ((i+1),((sU (D++[[]]) U).set U (D8 s ix f i)),G,Z,aj,bu,H,J,h7) ?_ ?_
  · exact⟨AM,ac.up,bf,ae.up,bq,A3,by rw[mU O];have eu:lE (M2 (D8 s ix f i) D) (A1 D)=U:=by{rw[cl];exact LI (λe=>ao ⟨A3,e.2⟩)};rw[<-eu,hD];exact(A8 ad).symm,by rw[hG];exact H8 (p:=FG s f) ad⟩
  omega
 have ei:i=A1 (A0 s.2.1 f zA).2.1:=by omega
 refine AX ?_;refine lX (sR (xB cM (AQ (AT pH)) ac)) λfh ci=>?_;subst ci;refine A7 ?_;refine zQ (A:=[_]) (ρ:=(AS A9)) ab.up ?_;intro h3 cn az;refine yY (A:=[]) (uD (zN (ρ:=(AS A9)) (bytes:=24) underlying51 sL I I I I nP I I ae.up az bO bO)) I I I ?_
 rintro fg fk ⟨br,fb,rfl,bi⟩
 refine A7 ?_;refine zP (A:=[_]) (uB sizeOf51 (AQ (AT pH)) ac (oH br)) λbt ah=>(AF ?_);refine zQ (A:=[]) (ρ:=(AS A9)) bi ?_;intro h4 cm ay;replace ah:=ah.mono cm;have bm:(BP (4*m+11) (m+n+11)).R h4 bt ((Bc (A0 s.2.1 f zA).1,(H,(A0 s.2.1 f zA).2.2)).1,((G++D),((Bc (A0 s.2.1 f zA).1,(H,(A0 s.2.1 f zA).2.2)).2).2)):=Fr ah ay;refine lX (xB tT pH bm) λff ch=>?_;have ax:=(Le.p (Le.p (AI (4*m+11)) (AL (m+n+11))) (Le.refl _)).R dd;refine zP (A:=[_]) (uB sizeOf53 pH ax ch) λez bl=>(AN ?_);refine xW (qV (t:=6) tT Ax I bl) ?_;intro fe ar be;refine yI (λE S=>zS I ar E S) ?_;exact(Rp.Is.cast be (by rw[hD,hG,ei];rfl))
theorem c0{k m n j:Nat}{vs:A2}{s:Sq}(rs:(BT k m n j).Is h0 vs s)(H0:A1 s.2.1<=100000):
 Ae 134 #[vs] w0 h0 (λh r=>(AS BS).Is h r (FJ s)):=by
 refine BI 52 vs func134 hs ?_;refine A5 ?_;refine nB rs λb1 aw U=>(rX ?_);refine yX 207 5 ?_;have ak:=RL.nil (ρ:=A6 A9 (A6 A9 (A6 A9 (A6 A9 A9)))) (h:=h0);refine An (ι:=Nat×List (Int×Int×Int×Int×Int)×A2×List A2×A4) (λ(f,D,C,J,mf)=>(MLe h0 mf/\(RL BS mf J D/\f<=A1 s.2.1/\D=Qe s f),[(1,vP b1 0),(3,C),(4,vI ↑f)],[.gs 207 5 C (A1 D) J,.var b1 32 aw],mf,A1 s.2.1-f)) (0,[],(.slice none 0 0),[],h0) ?_ ?_
 · exact⟨AM,ak,A3,I⟩
 rintro⟨f,D,C,J,mf⟩ ⟨bl,M,ck,hD⟩
 refine yO ?_;have cl:A1 D<=f:=by rw[hD];exact cS _ _ f
 refine AR ?_;refine lX (xB kO (AQ (AT pH)) U) λv7 r7=>(Ca (λbk=>?_) λbk=>?_)
 ·
  refine Af ?_;refine lX (xB kO (AQ (AT pH)) U) λcc bi=>(A7 ?_);refine lX (xI zA f underlying29 tT bi) λcb bh=>(lX (xF underlying53 sizeOf51 (AQ (AT pH)) bh) λca bg=>(lX (xA cM bg) λbz bf=>(cL (AU I) call193 (λw hs=>dX hs bf) λaz h1 ar be=>?_)));obtain rfl:az=vB (CB (((A0 s.2.1 f zA).2).1)):=be;refine A7 ?_;refine uH (ι:=A4) 6 (λm_=>MLe h1 m_) (λ_=>[(25,vB ((¬(CB (((A0 s.2.1 f zA).2).1)))\/(¬(DB s (↑f:Int).toNat)))),(1,vP b1 0),(3,C),(4,vI ↑f)]) (λ_=>[.gs 207 5 C (A1 D) J,.var b1 32 aw]) (λm_=>m_) ?_ ?_
  ·
   refine zY (¬(CB (((A0 s.2.1 f zA).2).1))) (λH=>?_) (λH=>?_)
   ·
    refine gT H I (AZ ?_);refine zV h1 (MLe.refl _) ⟨?_,I,I,I,AW⟩ I I;exact AV (vN H)
   refine gF H I (A7 ?_);refine lX (xB jG pH U) λbx bd=>(AN ?_)
   let eX1:=(Br H)
   refine cL (AK I I) call80 (λw hs=>UP hs bd O O O (by first|omega|exact Ao eX1.1.2 dC|exactλl hl=>Ao (eX1.2 l hl).1.2 dC) (by first|omega|exact Ao eX1.1.2 dC|exactλl hl=>Ao (eX1.2 l hl).1.2 dC) (by first|omega|exact Ao eX1.1.2 dC|exactλl hl=>Ao (eX1.2 l hl).1.2 dC)) λay h2 ac bc=>?_;obtain rfl:ay=vB (DB s (↑f:Int).toNat):=bc;refine AF ?_;refine zV h2 ac ⟨?_,I,I,I,AW⟩ I I;exact AV (vO H)
  intro aa aq;refine fM ?_;refine BB (λZ=>?_) λZ=>?_
  ·
   have ab:Lj s f:=Z;refine AN ?_;refine cL (vs:=[vI (1),_,vI (-1),vI (-1)]) BR call194 (λw hs=>In hs dC dC O O dC dC dC dC) λbw h2 ac bb=>(zE (zL (ρ:=BS) (m:=1) (xs:=[dg (1:Int) (↑f:Int) (-1:Int) (-1:Int)]) (ps':=[(0,_)]) underlying101 kJ I I I (zW wT (zW wT (zW wT (zW wT wT)))) Al (zD I (AO (AA _) Bx 0 dC) bb zO) G3 nP) I I I ?_)
   rintro bv cj ⟨bo,rfl,ap⟩
   refine zQ (A:=[]) (ρ:=BS) ap ?_;intro h3 bj aj;refine yY (A:=[]) (zN (ρ:=BS) (bytes:=40) underlying101 kJ I I I I nP I I M.up aj bO bO) I I I ?_
   rintro ax ci ⟨av,rfl,ao⟩
   refine Ak ?_;refine Ad ((f+1),(D++[dg (1:Int) (↑f:Int) (-1:Int) (-1:Int)]),ax,av,h3) ?_ ?_
   · exact⟨AM,ao,A3,by rw[hD];exact HO ab⟩
   omega
  have ab:¬Lj s f:=Z;refine AX ?_;refine Ad ((f+1),D,C,J,aa) ?_ ?_
  · exact⟨AM,M.up,A3,by rw[hD];exact H8 ab⟩
  omega
 have ef:f=A1 s.2.1:=by omega
 refine Ak ?_;refine lX (xB uN (AT pH) U) λbu cf=>(A5 ?_)
 let eX0:=(((512:Int)<(↑(A1 (s.1)):Int))\/((256:Int)<(↑(A1 (s.2.1)):Int)))
 refine gU 6 40 (vB eX0) ?_ ?_
 ·
  refine zY ((512:Int)<(↑(A1 (s.1)):Int)) (λH=>?_) (λH=>?_)
  ·
   refine gT H I (AZ ?_);refine Ay ?_;exact AV (vN H)
  refine gF H I (AN ?_);refine lX (xB kO (AQ (AT pH)) U) λbt ce=>(AZ ?_);refine Ay ?_;exact AV (vO H)
 refine gU 6 46 (vB (eX0\/((1024:Int)<(↑(A1 (s.2.2)):Int)))) ?_ ?_
 ·
  refine zY eX0 (λH=>?_) (λH=>?_)
  ·
   refine gT H I (AZ ?_);refine Ay ?_;exact AV (vN H)
  refine gF H I (AN ?_);refine lX (xB SV (AQ (AQ pH)) U) λbs cd=>(AZ ?_);refine Ay ?_;exact AV (vO H)
 refine BB (λau=>?_) λau=>?_
 ·
  have ad:Hz s:=by unfold Hz;omega
  refine A5 ?_;refine cL (vs:=[vI (2),vI (-1),vI (-1),vI (-1)]) BR call194 (λw hs=>In hs dC dC dC dC dC dC dC dC) λbr h1 ar ba=>(zE (zL (ρ:=BS) (m:=1) (xs:=[dg (2:Int) (-1:Int) (-1:Int) (-1:Int)]) (ps':=[(0,_)]) underlying101 kJ I I I (zW wT (zW wT (zW wT (zW wT wT)))) Al (zD I (AO (AA _) Bx 0 dC) ba zO) G3 nP) I I I ?_)
  rintro bq ch ⟨bn,rfl,an⟩
  refine zQ (A:=[]) (ρ:=BS) an ?_;intro h2 ac ai;refine yY (A:=[]) (zN (ρ:=BS) (bytes:=40) underlying101 kJ I I I I nP I I M.up ai bO bO) I I I ?_
  rintro bp cg ⟨bm,rfl,am⟩
  refine vV ?_;refine xR (A:=[]) (ρ:=BS) am ?_;intro h3 bj ah;refine zC I I ?_;exact(Rp.Is.cast ah (by rw[hD,ef];exact(AC ad).symm))
 have ad:¬Hz s:=by unfold Hz;omega
 refine Ak ?_;refine xR (A:=[]) (ρ:=BS) M.up ?_;intro h1 ar ae;refine zC I I ?_;exact(Rp.Is.cast ae (by rw[hD,ef];exact(A8 ad).symm))
theorem q6{k m n j:Nat}{vs:A2}{s:Sq}(rs:(BT k m n j).Is h0 vs s)(H0:A1 s.1<=100000)(H1:k<=100000000):
 Ae 135 #[vs] w0 h0 (λh r=>(AS BS).Is h r (HV s (A1 s.1))):=by
 refine BI 35 vs func135 hs ?_;refine A5 ?_;refine nB rs λb1 am aa=>(rX ?_);refine yX 207 5 ?_;have ac:=RL.nil (ρ:=A6 A9 (A6 A9 (A6 A9 (A6 A9 A9)))) (h:=h0);refine An (ι:=Nat×List (Int×Int×Int×Int×Int)×A2×List A2×A4) (λ(f,D,C,H,mf)=>(MLe h0 mf/\(RL BS mf H D/\f<=A1 s.1/\D=HV s f),[(1,vP b1 0),(3,C),(4,vI ↑f)],[.gs 207 5 C (A1 D) H,.var b1 32 am],mf,A1 s.1-f)) (0,[],(.slice none 0 0),[],h0) ?_ ?_
 · exact⟨AM,ac,A3,I⟩
 rintro⟨f,D,C,H,mf⟩ ⟨ba,J,bq,hD⟩
 refine yO ?_;have br:A1 D<=f:=by rw[hD];exact cS _ _ f
 refine AR ?_;refine lX (xB uN (AT pH) aa) λv8 r8=>(Ca (λaj=>?_) λaj=>?_)
 ·
  refine vV ?_;refine An (ι:=Nat×A4) (λ(q,mb)=>(MLe mf mb/\(q<=f/\∀u,u<q->¬gp s.1 f=gp s.1 u),[(1,vP b1 0),(3,C),(4,vI ↑f),(5,vI ↑q)],[.gs 207 5 C (A1 D) H,.var b1 32 am],mb,f-q)) (0,mf) ?_ ?_
  · exact⟨AM,A3,λu h=>by omega⟩
  rintro⟨q,mb⟩ ⟨bb,bn,ah⟩
  refine yO ?_;refine DU (λai=>?_) λai=>?_
  ·
   refine AR ?_;refine zG 11 _ [] (Ah 0 10 [(10,.c)]) zX nX Ac nX (λr hr=>hr) (A7 ?_);refine wX I (xB uN (AT pH) aa) λbk ay=>(A7 ?_);refine wX I (xI zT f underlying28 zI ay) λbj ax=>(wX I (xA zI ax) λbi aw=>(A7 ?_));refine wX I (xB uN (AT pH) aa) λbh av=>(A7 ?_);refine wX I (xI zT q underlying28 zI av) λbg au=>(wX I (xA zI au) λbf ar=>?_);refine AB I (sC (AK I I) call34 (λw hs=>j3 hs aw ar O) λao h1 az aq=>?_);obtain rfl:ao=vB ((A0 s.1 f zT)=(A0 s.1 q zT)):=aq;refine BB (λM=>?_) λM=>?_
   ·
    have ab:PJ s f:=⟨q,A3,M⟩;refine AF ?_;refine cL (vs:=[vI (37),vI (-1),vI (-1),_]) BR call194 (λw hs=>In hs dC dC dC dC dC dC O O) λbe h2 bp ap=>(zE (zL (ρ:=BS) (m:=1) (xs:=[dg (37:Int) (-1:Int) (-1:Int) (↑f:Int)]) (ps':=[(0,_)]) underlying101 kJ I I I (zW wT (zW wT (zW wT (zW wT wT)))) Al (zD I (AO (AA _) Bx 0 dC) ap zO) G3 nP) I I I ?_)
    rintro bd bm ⟨bc,rfl,ae⟩
    refine zQ (A:=[]) (ρ:=BS) ae ?_;intro h3 bo Z;refine yY (A:=[]) (zN (ρ:=BS) (bytes:=40) underlying101 kJ I I I I nP I I J.up Z bO bO) I I I ?_
    rintro an bl ⟨ak,rfl,ad⟩
    refine rX ?_;refine Ad ((f+1),(D++[dg (37:Int) (-1:Int) (-1:Int) (↑f:Int)]),an,ak,h3) ?_ ?_
    · exact⟨AM,ad,A3,by rw[hD];exact HO ab⟩
    omega
   refine AX ?_;refine Ad ((q+1),h1) ?_ ?_
   · exact⟨AM,A3,wZ (Q:=λu=>¬gp s.1 f=gp s.1 u) ah M⟩
   omega
  have ab:¬PJ s f:=λ⟨u,h1,h2⟩=>ah u O h2;refine uG ?_;refine Ad ((f+1),D,C,H,mb) ?_ ?_
  · exact⟨AM,J.up,A3,by rw[hD];exact H8 ab⟩
  omega
 have ef:f=A1 s.1:=by omega
 refine uF ?_;refine xR (A:=[]) (ρ:=BS) J.up ?_;intro h1 az U;refine zC I I ?_;exact(Rp.Is.cast U (by rw[hD,ef]))
theorem eq{k m n j:Nat}{vs:A2}{s:Sq}(rs:(BT k m n j).Is h0 vs s)(H0:k<=1000)(H1:m<=100000)(H2:n<=100000)(H3:A1 s.1<=100000)(H4:∀f,f<A1 s.2.1->A1 (A0 s.2.1 f zA).2.1<=10000/\∀l,l<A1 (A0 s.2.1 f zA).2.1->A1 (A0 (A0 s.2.1 f zA).2.1 l [])<=10000)(H5:A1 s.2.1<=1000)(H6:A1 s.1<=100000)(H7:∀f,f<A1 s.2.1->A1 (A0 s.2.1 f zA).2.1<=16/\∀l,l<A1 (A0 s.2.1 f zA).2.1->A1 (A0 (A0 s.2.1 f zA).2.1 l [])<=64):
 Ae 136 #[vs] w0 h0 (λh r=>(AS BS).Is h r (I6 s)):=by
 refine BI 74 vs func136 hs ?_;refine A5 ?_;refine nB rs λb1 ar ao=>(y7 ?_);refine yX 207 5 ?_;have ba:=RL.nil (ρ:=A6 A9 (A6 A9 (A6 A9 (A6 A9 A9)))) (h:=h0);refine yX 207 5 ?_;have az:=RL.nil (ρ:=A6 A9 (A6 A9 (A6 A9 (A6 A9 A9)))) (h:=h0)
 let eX0:=(Int×Int×Int×Int×Int)
 refine An (ι:=Nat×List eX0×List eX0×A2×List A2×A2×List A2×A4) (λ(f,D,G,ac,ad,J,ab,ma)=>(MLe h0 ma/\(RL BS ma ad D/\RL BS ma ab G/\f<=A1 s.2.1/\D=Lp s f/\G=Ig s f),[(1,vP b1 0),(3,ac),(4,J),(5,vI ↑f)],[.gs 207 5 J (A1 G) ab,.gs 207 5 ac (A1 D) ad,.var b1 32 ar],ma,A1 s.2.1-f)) (0,[],[],(.slice none 0 0),[],(.slice none 0 0),[],h0) ?_ ?_
 · exact⟨AM,ba,az,A3,I,I⟩
 rintro⟨f,D,G,ac,ad,J,ab,ma⟩ ⟨cw,ah,aj,en,hD,hG⟩
 refine yO ?_;have ep:A1 D<=f:=by rw[hD];exact cS _ _ f
 have eo:A1 G<=1024*f:=by rw[hG];exact Zx H7 f O
 have bj:=oO (s:=s) (f:=↑f) H7;refine AR ?_;refine lX (xB kO (AQ (AT pH)) ao) λea ec=>(Ca (λbn=>?_) λbn=>?_)
 ·
  refine AF ?_;refine jD (ι:=List eX0×A2×List A2×A4) (λ(ZR,C,H,mz)=>MLe ma mz/\(RL BS mz H ZR/\ZR=Lp s (f+1))) (λ(ZR,C,H,mz)=>[(1,vP b1 0),(3,C),(4,J),(5,vI ↑f)]) (λ(ZR,C,H,mz)=>[.gs 207 5 J (A1 G) ab,.gs 207 5 C (A1 ZR) H,.var b1 32 ar]) (λ(ZR,C,H,mz)=>mz) ?_ ?_
  ·
   refine AN ?_;refine lX (xB kO (AQ (AT pH)) ao) λdz cn=>(A7 ?_);refine lX (xI zA f underlying29 tT cn) λdy cm=>(lX (xF underlying53 sizeOf45 (AT pH) cm) λdx cl=>(lX (xF underlying45 sizeOf43 (AT pH) cl) λdw ck=>(lX (xA zI ck) λdv cj=>(cL (AU I) call72 (λw hs=>Q3 hs cj O) λbt h1 ak ci=>?_))));obtain rfl:bt=vB ((((A0 s.2.1 f zA).1).1)=zT):=ci;refine BB (λan=>?_) λan=>?_
   ·
    refine AN ?_;refine cL (vs:=[vI (9),_,vI (-1),vI (-1)]) BR call194 (λw hs=>In hs dC dC O O dC dC dC dC) λdu h2 bi ch=>(zE (zL (ρ:=BS) (m:=1) (xs:=[dg (9:Int) (↑f:Int) (-1:Int) (-1:Int)]) (ps':=[(0,_)]) underlying101 kJ I I I (zW wT (zW wT (zW wT (zW wT wT)))) Al (zD I (AO (AA _) Bx 0 dC) ch zO) G3 nP) I I I ?_)
    rintro dt eh ⟨dc,rfl,bf⟩
    refine zQ (A:=[]) (ρ:=BS) bf ?_;intro h3 bh ax;refine yY (A:=[_]) (zN (ρ:=BS) (bytes:=40) underlying101 kJ I I I I nP I I ah.up ax bO bO) I I I ?_
    rintro bs eg ⟨bp,rfl,be⟩
    refine A5 ?_;refine zV ((D++[dg (9:Int) (↑f:Int) (-1:Int) (-1:Int)]),bs,bp,h3) ?_ BR I I;refine⟨((ak.trans bi).trans bh),?_⟩;refine⟨be,?_⟩;exact(by rw[hD];exact HO an)
   refine A7 ?_;refine zV (D,ac,ad,h1) ?_ BR I I;refine⟨ak,?_⟩;refine⟨ah.up,?_⟩;exact(by rw[hD];exact H8 an)
  rintro⟨ZR,C,H,mz⟩ ⟨ct,hZ⟩
  refine yO ?_;obtain⟨ay,hZ⟩:=hZ;refine A5 ?_;refine lX (xB jG pH ao) λdr cg=>(A7 ?_);refine cL (AK I I) call33 (λw hs=>a4 hs cg O O (by first|omega|exact H4) (by first|omega|exact H4)) λbb h1 ak bg=>(Ak ?_);refine An (ι:=Nat×List eX0×A2×List A2×A4) (λ(l,G1,U,aa,mb)=>(MLe h1 mb/\(RL BS mb aa G1/\l<=A1 (jP s ↑f)/\G1=Ig s f++Jx s f l),[(1,vP b1 0),(3,C),(4,U),(5,vI ↑f),(6,bb),(7,vI ↑l)],[.gs 207 5 U (A1 G1) aa,.gs 207 5 C (A1 ZR) H,.var b1 32 ar],mb,A1 (jP s ↑f)-l)) (0,G,J,ab,h1) ?_ ?_
  · exact⟨AM,aj.up,A3,by rw[hG];exact(Ce _).symm⟩
  rintro⟨l,G1,U,aa,mb⟩ ⟨cv,ai,ej,aq⟩
  refine yO ?_;have cq:=PN (s:=s) H7 f l;have da:A1 G1<=1024*f+1024:=by rw[aq,BJ,<-hG];have:=bj.1;omega
  refine Bj (λbm=>?_) λbm=>?_
  ·
   refine vV ?_;refine An (ι:=Nat×List eX0×A2×List A2×A4) (λ(i,G2,M,Z,mc)=>(MLe mb mc/\(RL BS mc Z G2/\i<=A1 (A0 (jP s ↑f) l [])/\G2=Ig s f++Jx s f l++Iz s f l i),[(1,vP b1 0),(3,C),(4,M),(5,vI ↑f),(6,bb),(7,vI ↑l),(8,vI ↑i)],[.gs 207 5 M (A1 G2) Z,.gs 207 5 C (A1 ZR) H,.var b1 32 ar],mc,A1 (A0 (jP s ↑f) l [])-i)) (0,G1,U,aa,mb) ?_ ?_
   · exact⟨AM,ai,A3,by rw[aq];exact(Ce _).symm⟩
   rintro⟨i,G2,M,Z,mc⟩ ⟨cu,ae,ek,ap⟩
   refine yO ?_;have cy:=bj.2 l;have cp:A1 (Iz s f l i)<=i:=cS _ _ i;have cz:A1 G2<=1024*f+2048:=by rw[ap,BJ,<-aq];omega
   refine AZ ?_;refine lX (xI [] l underlying61 uN bg) λdq cf=>(lX (xA uN cf) λdp eb=>(Ca (λbl=>?_) λbl=>?_))
   ·
    refine AR ?_;refine zG 15 _ [] (Ah 0 13 [(13,.c),(14,.q)]) zX nX (xU Ac) nX (λr hr=>hr) (A7 ?_);refine wX I (xB kO (AQ (AT pH)) ao) λdn ce=>(A7 ?_);refine wX I (xI zA f underlying29 tT ce) λdm cd=>(wX I (xF underlying53 sizeOf45 (AT pH) cd) λdl cc=>(wX I (xA qZ cc) λdk cb=>(A5 ?_)));refine wX I (xI [] l underlying61 uN bg) λdj ca=>(wX I (xA uN ca) λdi bz=>(A7 ?_));refine wX I (xI zT i underlying28 zI bz) λdh bx=>(wX I (xA zI bx) λdf bw=>?_);refine AB I (sC (AK I I) call73 (λw hs=>me hs cb bw O O O) λbr h2 bi bv=>?_)
    let eX1:=(wL ((A0 s.2.1 f zA).1).1 (A0 (A0 (jP s (↑f:Int)) l []) i zT)-((A0 s.2.1 f zA).1).2)
    obtain rfl:br=vI (yK eX1):=bv;have co:=yZ eX1;refine B4 (λam=>?_) λam=>?_
    ·
     refine AR ?_;refine cL (vs:=[vI (31),_,_,_]) BR call194 (λw hs=>In hs dC dC O O O O O O) λde h3 bh bu=>(zE (zL (ρ:=BS) (m:=1) (xs:=[dg (31:Int) (↑f:Int) (↑l:Int) (↑i:Int)]) (ps':=[(0,_)]) underlying101 kJ I I I (zW wT (zW wT (zW wT (zW wT wT)))) Al (zD I (AO (AA _) Bx 0 dC) bu zO) G3 nP) I I I ?_)
     rintro dd ee ⟨db,rfl,bd⟩
     refine zQ (A:=[]) (ρ:=BS) bd ?_;intro h4 em aw;refine yY (A:=[]) (zN (ρ:=BS) (bytes:=40) underlying101 kJ I I I I nP I I ae.up aw bO bO) I I I ?_
     rintro bq ed ⟨bo,rfl,bc⟩
     refine Ak ?_;refine Ad ((i+1),(G2++[dg (31:Int) (↑f:Int) (↑l:Int) (↑i:Int)]),bq,bo,h4) ?_ ?_
     · exact⟨AM,bc,A3,by rw[ap,Ck,show Iz s f l i++_=_ from HO (p:=Rg s f l) am];rfl⟩
     omega
    refine AX ?_;refine Ad ((i+1),G2,M,Z,h2) ?_ ?_
    · exact⟨AM,ae.up,A3,by rw[ap,show Iz s f l i=_ from H8 (p:=Rg s f l) am];rfl⟩
    omega
   have ei:i=A1 (A0 (jP s ↑f) l []):=by omega
   refine uG ?_;refine Ad ((l+1),G2,M,Z,mc) ?_ ?_
   · exact⟨AM,ae.up,A3,by rw[ap,ei,Ck];rfl⟩
   omega
  have el:l=A1 (jP s ↑f):=by omega
  refine uG ?_;refine Ad ((f+1),ZR,G1,C,H,U,aa,mb) ?_ ?_
  · exact⟨AM,ay.up,ai,A3,hZ,by rw[aq,el];rfl⟩
  omega
 have ef:f=A1 s.2.1:=by omega
 refine Ak ?_;refine gv (qR Ax underlying101 I) I (B4 (λbk=>?_) λbk=>?_)
 ·
  refine AX ?_;refine xR (A:=[_]) (ρ:=BS) ah.up ?_;intro h1 ak av;refine zC I I ?_;exact(Rp.Is.cast av (by rw[hD,ef];exact(AC (by rw[<-ef,<-hD];omega)).symm))
 refine Ak ?_;refine xR (A:=[]) (ρ:=BS) aj.up ?_;intro h1 ak au;refine zC I I ?_;exact(Rp.Is.cast au (by rw[hG,ef];exact(A8 (by rw[<-ef,<-hD];omega)).symm))
theorem Vg{k:Nat}{vL:A2}{L:(List (List Tq))}(rL:(C1 k).Is h0 vL L)(H0:k<=100000)(H1:∀l,l<A1 L->A1 (A0 L l [])<=1000)(H2:A1 L<=100000):
 Ae 170 #[vL] w0 h0 (λ_ r=>r=vI (E4 L)):=by
 refine BI 21 vL func170 hs ?_;refine nH ?_;refine An (ι:=Nat×A4) (λ(m,Z)=>(MLe h0 Z/\(m<=A1 L),[(0,vL),(3,vI (EX L m)),(4,vI ↑m)],[],Z,A1 L-m)) (0,h0) ?_ ?_
 · exact⟨AM,O⟩
 rintro⟨m,Z⟩ ⟨ac,ai⟩
 refine yO ?_;have DQ:=Om L m;have aj:=H1 m;refine Bj (λab=>?_) λab=>?_
 ·
  refine AX ?_;refine lX (xI [] m underlying61 uN rL) λah U=>(lX (xA uN U) λae M=>(cL (AU I) call220 (λw hs=>bN hs M O O) λad h1 am J=>(cL (AU I) call74 (λw hs=>qA hs J dC) λD h2 ak H=>?_)));obtain rfl:D=vI (yK (qN (A0 L m []) 0 1 (A1 (A0 L m [])))):=H;have aa:=yZ (qN (A0 L m []) 0 1 (A1 (A0 L m [])));refine B4 (λC=>?_) λC=>?_
  ·
   refine uF ?_;refine Ad ((m+1),h2) ?_ ?_ (he:=⟨I,AJ (λz=>some (vI z)) (ev C),I,AW⟩)
   · exact⟨AM,O⟩
   omega
  refine AX ?_;refine Ad ((m+1),h2) ?_ ?_ (he:=⟨I,AJ (λz=>some (vI z)) (iy C),I,AW⟩)
  · exact⟨AM,O⟩
  omega
 refine uF ?_;refine zC I I ?_;have em:m=A1 L:=by omega
 subst em
 rfl
theorem df{k m n j:Nat}{vs:A2}{s:Sq}(rs:(BT k m n j).Is h0 vs s)(H0:k<=1000)(H1:m<=100000)(H2:n<=100000)(H3:CF s):
 Ae 137 #[vs] w0 h0 (λh r=>(AS BS).Is h r (HZ s)):=by
 have cm:=H3.1.1.1;have cl:=H3.1.1.2;refine BI 45 vs func137 hs ?_;refine A5 ?_;refine nB rs λb1 bi ax=>(y7 ?_);refine yX 207 5 ?_;have aq:=RL.nil (ρ:=A6 A9 (A6 A9 (A6 A9 (A6 A9 A9)))) (h:=h0);refine yX 207 5 ?_;have ap:=RL.nil (ρ:=A6 A9 (A6 A9 (A6 A9 (A6 A9 A9)))) (h:=h0);refine An (ι:=Nat×List (Int×Int×Int×Int×Int)×List (Int×Int×Int×Int×Int)×A2×List A2×A2×List A2×A4) (λ(f,D,G,U,Z,J,M,ma)=>(MLe h0 ma/\(RL BS ma Z D/\RL BS ma M G/\f<=A1 s.2.1/\D=Kb s f/\G=QP s f),[(1,vP b1 0),(3,U),(4,J),(5,vI ↑f)],[.gs 207 5 J (A1 G) M,.gs 207 5 U (A1 D) Z,.var b1 32 bi],ma,A1 s.2.1-f)) (0,[],[],(.slice none 0 0),[],(.slice none 0 0),[],h0) ?_ ?_
 · exact⟨AM,aq,ap,A3,I,I⟩
 rintro⟨f,D,G,U,Z,J,M,ma⟩ ⟨bu,ab,aa,cn,hD,hG⟩
 refine yO ?_;have cp:A1 D<=f:=by rw[hD];exact cS _ _ f
 have co:A1 G<=f:=by rw[hG];exact cS _ _ f
 have bc:=On s f;have bd:=oO (s:=s) (f:=↑f) H3.2.1;have ck:=ij (sS s f) 0 1;refine AR ?_;refine lX (xB kO (AQ (AT pH)) ax) λce cf=>(Ca (λbf=>?_) λbf=>?_)
 ·
  refine AZ ?_;refine lX (xB jG pH ax) λcd br=>(A7 ?_);refine cL (AK I I) call65 (λw hs=>WR (f:=f) hs br O O O (by first|omega|exact H3.big) (by first|omega|exact H3.big) (by first|omega|exact H3.big) (by first|omega|exact H3.big)) λbm h1 bb ay=>(AN ?_);refine jD (ι:=List (Int×Int×Int×Int×Int)×A2×List A2×A4) (λ(ZR,H,C,mz)=>MLe h1 mz/\(RL BS mz C ZR/\ZR=Kb s (f+1))) (λ(ZR,H,C,mz)=>[(1,vP b1 0),(3,H),(4,J),(5,vI ↑f),(6,bm)]) (λ(ZR,H,C,mz)=>[.gs 207 5 J (A1 G) M,.gs 207 5 H (A1 ZR) C,.var b1 32 bi]) (λ(ZR,H,C,mz)=>mz) ?_ ?_
  ·
   refine AN ?_;refine cL (AU I) call169 (λw hs=>XE hs ay O (by first|omega|exact H3.2.2 f O)) λcc h2 ao bq=>?_;obtain⟨ah,rfl,an⟩:=bq
   change (AS A9).Is h2 ah (rC (sS s f) 0 1) at an
   refine tQ ?_;refine Bq (λae=>?_) λae=>?_
   ·
    refine AF ?_;refine cL (vs:=[_,_,vI (-1),vI (-1)]) BR call194 (λw hs=>In hs O O O O dC dC dC dC) λcb h3 ba bp=>(zE (zL (ρ:=BS) (m:=1) (xs:=[dg (uK (sS s f) 0 1) (↑f:Int) (-1:Int) (-1:Int)]) (ps':=[(0,_)]) underlying101 kJ I I I (zW wT (zW wT (zW wT (zW wT wT)))) Al (zD I (AO (AA _) Bx 0 dC) bp zO) G3 nP) I I I ?_)
    rintro ca cj ⟨bw,rfl,aw⟩
    refine zQ (A:=[]) (ρ:=BS) aw ?_;intro h4 az am;refine yY (A:=[_]) (zN (ρ:=BS) (bytes:=40) underlying101 kJ I I I I nP I I ab.up am bO bO) I I I ?_
    rintro bl ci ⟨bh,rfl,av⟩
    refine A5 ?_;refine zV ((D++[dg (uK (sS s f) 0 1) (↑f:Int) (-1:Int) (-1:Int)]),bl,bh,h4) ?_ e5 I I;refine⟨((ao.trans ba).trans az),?_⟩;refine⟨av,?_⟩;exact(by rw[hD];exact HO ae)
   refine A7 ?_;refine zV (D,U,Z,h2) ?_ e5 I I;refine⟨ao,?_⟩;refine⟨ab.up,?_⟩;exact(by rw[hD];exact H8 ae)
  rintro⟨ZR,H,C,mz⟩ ⟨bt,hZ⟩
  refine yO ?_;obtain⟨ac,hZ⟩:=hZ;refine AN ?_;refine cL (AU I) call170 (λw hs=>Vg hs ay.up O (by first|omega|exactλl hl=>(by rw[bc.2 l];exact Ao (bd.2 l) dC)) (by first|omega|exactλl hl=>(by rw[bc.2 l];exact Ao (bd.2 l) dC))) λbk h2 ao bo=>?_;obtain rfl:bk=vI (E4 (sS s f)):=bo;have bs:=Om (sS s f) (A1 (sS s f));refine B4 (λad=>?_) λad=>?_
  ·
   refine AN ?_;refine cL (vs:=[vI (33),_,vI (-1),vI (-1)]) BR call194 (λw hs=>In hs dC dC O O dC dC dC dC) λbz h3 ba bn=>(zE (zL (ρ:=BS) (m:=1) (xs:=[dg (33:Int) (↑f:Int) (-1:Int) (-1:Int)]) (ps':=[(0,_)]) underlying101 kJ I I I (zW wT (zW wT (zW wT (zW wT wT)))) Al (zD I (AO (AA _) Bx 0 dC) bn zO) G3 nP) I I I ?_)
   rintro bx ch ⟨bv,rfl,au⟩
   refine zQ (A:=[]) (ρ:=BS) au ?_;intro h4 az ak;refine yY (A:=[]) (zN (ρ:=BS) (bytes:=40) underlying101 kJ I I I I nP I I aa.up ak bO bO) I I I ?_
   rintro bj cg ⟨bg,rfl,ar⟩
   refine Ak ?_;refine Ad ((f+1),ZR,(G++[dg (33:Int) (↑f:Int) (-1:Int) (-1:Int)]),H,C,bj,bg,h4) ?_ ?_
   · exact⟨AM,ac.up,ar,A3,hZ,by rw[hG];exact HO ad⟩
   omega
  refine AX ?_;refine Ad ((f+1),ZR,G,H,C,J,M,h2) ?_ ?_
  · exact⟨AM,ac.up,aa.up,A3,hZ,by rw[hG];exact H8 ad⟩
  omega
 have ef:f=A1 s.2.1:=by omega
 refine Ak ?_;refine gv (qR Ax underlying101 I) I (B4 (λbe=>?_) λbe=>?_)
 ·
  refine AX ?_;refine xR (A:=[_]) (ρ:=BS) ab.up ?_;intro h1 bb aj;refine zC I I ?_;exact(Rp.Is.cast aj (by rw[hD,ef];exact(AC (by rw[<-ef,<-hD];omega)).symm))
 refine Ak ?_;refine xR (A:=[]) (ρ:=BS) aa.up ?_;intro h1 bb ai;refine zC I I ?_;exact(Rp.Is.cast ai (by rw[hG,ef];exact(A8 (by rw[<-ef,<-hD];omega)).symm))
theorem bv{k m n j:Nat}{vs:A2}{s:Sq}(rs:(BT k m n j).Is h0 vs s)(H0:k<=1000)(H1:m<=100000)(H2:n<=100000)(H3:CF s):
 Ae 69 #[vs] w0 h0 (λh r=>(AS BS).Is h r (KV s)):=by
 have aw:=H3.1.1.1;have av:=H3.1.1.2;refine BI 34 vs func69 hs ?_;refine A5 ?_;refine nB rs λb1 bd C=>(AZ ?_);refine lX (xB jG pH C) λv7 r7=>(cL (AU I) call134 (λw hs=>c0 hs r7 (by first|omega|exact H3|exact H3.big|exact H3.mem|exact H3.2.1)) λv8 h1 bc r8=>(iY (λM=>?_) λM=>?_))
 ·
  refine AX ?_;refine zC I I ?_;exact(Rp.Is.cast r8 (by exact(AC O).symm))
 refine AR ?_;refine lX (xB jG pH C) λau ai=>(cL (AU I) call135 (λw hs=>q6 hs ai (by first|omega|exact H3|exact H3.big|exact H3.mem|exact H3.2.1) O) λar h2 bb ah=>(iY (λJ=>?_) λJ=>?_))
 ·
  refine AX ?_;refine zC I I ?_;exact(Rp.Is.cast ah (by exact((A8 O).trans (AC O)).symm))
 refine AR ?_;refine lX (xB jG pH C) λaq ae=>(cL (AU I) call136 (λw hs=>eq hs ae O O O (by first|omega|exact H3|exact H3.big|exact H3.mem|exact H3.2.1) (by first|omega|exact H3|exact H3.big|exact H3.mem|exact H3.2.1) (by first|omega|exact H3|exact H3.big|exact H3.mem|exact H3.2.1) (by first|omega|exact H3|exact H3.big|exact H3.mem|exact H3.2.1) (by first|omega|exact H3|exact H3.big|exact H3.mem|exact H3.2.1)) λap h3 ba ad=>(iY (λH=>?_) λH=>?_))
 ·
  refine AX ?_;refine zC I I ?_;exact(Rp.Is.cast ad (by exact((A8 O).trans ((A8 O).trans (AC O))).symm))
 refine AR ?_;refine lX (xB jG pH C) λao ac=>(cL (AU I) call137 (λw hs=>df hs ac O O O (by first|omega|exact H3|exact H3.big|exact H3.mem|exact H3.2.1)) λan h4 az ab=>(iY (λD=>?_) λD=>?_))
 ·
  refine AX ?_;refine zC I I ?_;exact(Rp.Is.cast ab (by exact((A8 O).trans ((A8 O).trans ((A8 O).trans (AC O)))).symm))
 refine AF ?_;refine lX (xB jG pH C) λam aa=>(cL (AU I) call139 (λw hs=>Wc hs aa (by first|omega|exact H3|exact H3.big|exact H3.mem|exact H3.2.1) (by first|omega|exact H3|exact H3.big|exact H3.mem|exact H3.2.1)) λak h5 ay Z=>(cL (AU I) call138 (λw hs=>qg hs Z) λaj h6 ax U=>(AF ?_)));refine zC I I ?_;exact(Rp.Is.cast U (by exact((A8 O).trans ((A8 O).trans ((A8 O).trans (A8 O)))).symm))
theorem kb{k m n j:Nat}{vs:A2}{s:Sq}(rs:(BT k m n j).Is h0 vs s)(H0:k<=1000)(H1:m<=100000)(H2:n<=100000)(H3:CF s):
 Ae 25 #[vs] w0 h0 (λ_ r=>r=vB (aP s)):=by
 refine BI 7 vs func25 hs ?_;refine A5 ?_;refine nB rs λJ H C=>(AR ?_);refine lX (xB jG pH C) λv3 r3=>(cL (AU I) call69 (λw hs=>bv hs r3 O O O (by first|omega|exact H3)) λv4 h1 D r4=>(AZ ?_));refine zC I I ?_;exact qQ (by unfold aP;omega)
theorem Pk{k m n j:Nat}{vs:A2}{s:Sq}(rs:(BT k m n j).Is h0 vs s)(H0:k<=1000)(H1:m<=100000)(H2:n<=100000)(H3:CF s):
 Calls prog 103 #[vs] w0 (gV w0 h0 (λh r L_=>∃vF cs,(A6 (Aq (k+1)) (A6 Az (AS (A6 A9 (A6 A9 (AE (j+1))))))).Is h r (Di s,(vF,E7 s))/\L_=[.gs 53 14 vF (A1 (Cb s)) cs]/\vF.oneCell'=true/\RL (BP (4*m+12) (m+n+12)) h cs (Cb s))):=by
 have ie:=H3.1.1.1;have id:=H3.1.1.2;have ic:=H3.1.2;refine BI 100 vs func103 hs ?_;refine A5 ?_;refine nB rs λb1 cw ao=>(nA (ρ:=(A6 (Aq 1) (A6 Az (AS (A6 A9 (A6 A9 (AE 1))))))) (X:=([],((A2.slice none 0 0),[]))) qS (zW wC (zW fG wC)) λb2 cu dj=>(AR ?_));refine lX (xB jG pH ao) λho fi=>(cL (AU I) call25 (λw hs=>kb hs fi O O O (by first|omega|exact H3)) λeh h1 im fh=>?_);obtain rfl:eh=vB (aP s):=fh;refine B4 (λaj=>?_) λaj=>?_
 ·
  refine A5 ?_;refine lX (xV (ρ:=(A6 (Aq 1) (A6 Az (AS (A6 A9 (A6 A9 (AE 1))))))) (xL (ps':=[]) underlying32 qS I I (pJ underlying32) trivial I (zW wC (zW fG wC)) zO)) λhn fg=>(zP (A:=[]) (uB sizeOf32 pH dj fg) λgg di=>(AF ?_));rw[show Cb s=[] from A8 aj];refine lM 53 14 ?_;have dc:=RL.nil (ρ:=A6 (Aj (4*m+12) (m+n+12)) (A6 Cv wQ)) (h:=h1);refine xW (qV (t:=2) jG Ax I di) ?_;intro gj cg da;refine kE (.cons_cons _ (E3 _)) (λE S=>zS I cg E S) ?_;exact⟨_,_,(Rp.Is.cast (Rp.Is.le da (Le.p (Le.s (AI (k+1))) (Le.p (Le.refl _) (Le.s (Le.p (Le.refl _) (Le.p (Le.refl _) (AL (j+1)))))))) (by rw[show Di s=[] from A8 aj,show E7 s=[] from A8 aj])),I,I,dc⟩
 refine AF ?_;refine lX (xB jG pH ao) λhm ff=>?_;have be:aP s:=Br aj;have ax:=hW be;have ia:A1 (fU s)<=A1 s.1:=Rc s (A1 s.1);refine cL (AU I) call171 (λw hs=>s1 hs ff O (by first|omega|exact H3|exact ax) (by first|omega|exact H3|exact ax)) λeg h2 il bc=>?_;replace bc:=Rp.Is.cast (y:=(fU s)) bc B5;refine AZ ?_;refine lX (xB uN (AT pH) ao) λhl hq=>(A7 ?_);refine zE (lK (ρ:=A9) (X:=(0:Int)) (by':=8) (A1 s.1) underlying22 kT I I I I wT I I B5 B5 bO bO) I I I ?_
 rintro ee hw ⟨dt,rfl,dh⟩
 refine AZ ?_;refine lX (xB SV (AQ (AQ pH)) ao) λhk fe=>(So 271 5 ?_);have db:=RL.nil (ρ:=A6 A9 (A6 A9 (AE j))) (h:=h2);refine yY (A:=[]) (uD (zN (ρ:=(A6 A9 (A6 A9 (AE j)))) (bytes:=72) underlying30 XU I I I I nP I I db fe bO bO)) I I I ?_
 rintro hj hv ⟨fz,gi,rfl,df⟩
 refine zQ (A:=[]) (ρ:=(A6 A9 (A6 A9 (AE j)))) df ?_;intro h3 ik cz;refine lX (xV (ρ:=(A6 Az (A6 Az (AS (A6 A9 (A6 A9 (AE (j+1)))))))) (xL (ps':=[(2,_)]) underlying32 qS I I (pJ underlying32) Al I (zW fG (zW fG wC)) (zD I (AQ (AQ (AA _))) (cz.le (Le.s (Le.p (Le.refl _) (Le.p (Le.refl _) (AL (j+1)))))) zO))) λhg fd=>(nA (ρ:=(A6 Az (A6 Az (AS (A6 A9 (A6 A9 (AE 1))))))) (X:=((A2.slice none 0 0),((A2.slice none 0 0),[]))) qS (zW fG (zW fG wC)) λb5 iu ek=>?_);have cy:=(Le.p (Le.refl _) (Le.p (Le.refl _) (Le.s (Le.p (Le.refl _) (Le.p (Le.refl _) (AL (j+1))))))).R ek;refine zP (A:=[]) (uB sizeOf32 pH cy fd) λdn bz=>(Ak ?_);refine yX 43 9 ?_;have bu:=RL.nil (ρ:=Bd (AE (k+1))) (h:=h3);refine An (ι:=Nat×List Int×List Tq×List A2×A2×List A2×A2×List A2×A4) (λ(i,IX,PS,aa,H,av,Z,au,ma)=>(MLe h3 ma/\((A6 Az (A6 Az (AS (A6 A9 (A6 A9 (AE (j+1))))))).R ma aa (Z,(A2.slice none 0 0,s.2.2))/\RL A9 ma av IX/\RL (AD (k+1)) ma au PS/\Z.oneCell'=true/\i<=A1 (fU s)/\IX=GG s i/\PS=KW s i),[(1,vP b1 0),(2,vP b2 0),(3,eg),(4,H),(5,vP b5 0),(6,vI ↑i)],[.gs 43 9 Z (A1 PS) au,.var b5 32 aa,.gs 3 1 H (A1 IX) av,.var b2 32 cu,.var b1 32 cw],ma,A1 (fU s)-i)) (0,(List.replicate (A1 s.1) (0:Int)),[],dn,ee,dt,(.slice none 0 0),[],h3) ?_ ?_
 · exact⟨AM,bz,dh.up,bu,I,A3,I,I⟩
 rintro⟨i,IX,PS,aa,H,av,Z,au,ma⟩ ⟨gc,M,az,ay,fm,ig,hI,hP⟩
 refine yO ?_;have ip:A1 IX=A1 s.1:=by rw[hI];exact JM s i
 have io:A1 PS=i:=by rw[hP];exact xN _ _
 refine Bj (λdl=>?_) λdl=>?_
 ·
  refine Ak ?_;refine lX (xI (0:Int) i underlying22 B8 bc) λhf fc=>(lX (xA B8 fc) λhd fb=>?_);obtain⟨rfl,gf,fy⟩:=jV fb;refine A7 ?_;refine gv ((yG ((A0 (fU s) i 0).toNat) C6 underlying22 sizeOf3 I I (by(have:=eP (s:=s) (i:=A1 s.1) (k:=i) (show i<A1 (aY s (A1 s.1)) by show i<A1 (fU s);omega);show _;have h2:0<=A0 (fU s) i 0/\A0 (fU s) i 0<↑(A1 s.1):=this;omega)) (by(have:=eP (s:=s) (i:=A1 s.1) (k:=i) (show i<A1 (aY s (A1 s.1)) by show i<A1 (fU s);omega);show _;have h2:0<=A0 (fU s) i 0/\A0 (fU s) i 0<↑(A1 s.1):=this;omega)) nP).cv (show _=zH 1 H (((A0 (fU s) i 0).toNat*1+0)) from AJ (zH 1 H) B5)) I (kQ (A:=[_,_]) (F:=λc_=>RL A9 ma c_ (IX.set ((A0 (fU s) i 0).toNat) (↑i:Int))) (tD sizeOf3 (AO (AA _) (0:Int) ((A0 (fU s) i 0).toNat) (by(have:=eP (s:=s) (i:=A1 s.1) (k:=i) (show i<A1 (aY s (A1 s.1)) by show i<A1 (fU s);omega);show _;have h2:0<=A0 (fU s) i 0/\A0 (fU s) i 0<↑(A1 s.1):=this;omega))) I nP I I az (vC O O) I) ?_);intro ct bt;refine A5 ?_;refine qM (A:=[]) 13 [] (Ah 0 10 [(10,.c),(11,.c),(12,.q),(13,.t)]) zX nX (xU Ac) nX (A7 ?_);refine wX I (sR (xB uN (AT pH) M)) λhc fa=>?_;subst fa;refine A7 ?_;refine wX I (xB uN (AT pH) ao) λhb ez=>(A5 ?_);refine wX I (xI (0:Int) i underlying22 B8 bc) λha ey=>(wX I (xA B8 ey) λgz ew=>?_);obtain⟨rfl,ge,fx⟩:=jV ew;refine fL (F:=λv_=>C4 (AD k) ma v_ (A0 s.1 ((A0 (fU s) i 0).toNat) zT)) I (kW zT ((A0 (fU s) i 0).toNat) underlying28 zI I I ez (by(have:=eP (s:=s) (i:=A1 s.1) (k:=i) (show i<A1 (aY s (A1 s.1)) by show i<A1 (fU s);omega);show _;have h2:0<=A0 (fU s) i 0/\A0 (fU s) i 0<↑(A1 s.1):=this;omega)) (by(have:=eP (s:=s) (i:=A1 s.1) (k:=i) (show i<A1 (aY s (A1 s.1)) by show i<A1 (fU s);omega);show _;have h2:0<=A0 (fU s) i 0/\A0 (fU s) i 0<↑(A1 s.1):=this;omega)) nP) rW I ?_;intro gy ev;refine wX I (xA zI ev) λgx eu=>?_;refine AB I (tV (λX=>zL (ρ:=(AD (k+1))) (m:=1) (xs:=[(A0 s.1 ((A0 (fU s) i 0).toNat) zT)]) (ps':=[(0,_)]) underlying28 yA I I I (yN (zR O)) Al (zD I (AO (AA _) zT 0 dC) (eu.le (AI (k+1))) zO) Dm nP) I ?_)
  rintro gw hu ⟨gh,rfl,de⟩
  refine AB I (vX (A:=[]) (ρ:=(AD (k+1))) de dK ?_);intro h4 ck bm;refine kP (A:=[]) (λX=>uD (zN (ρ:=(AD (k+1))) (bytes:=168) underlying28 yA I I I I nP I I ay.up bm bO bO)) I (yP BU) ?_
  rintro ed ht ⟨bf,dr,rfl,dd⟩
  refine A7 ?_;replace M:=M.mono ck;refine yD (A:=[_]) I (uB sizeOf28 (AT pH) M (oH bf)) λcq bx=>(AX ?_);refine Ad ((i+1),(IX.set ((A0 (fU s) i 0).toNat) (↑i:Int)),(PS++[(A0 s.1 ((A0 (fU s) i 0).toNat) zT)]),cq,H,ct,ed,dr,h4) ?_ ?_
  · exact⟨AM,bx,bt.up,dd,bf,A3,by rw[hI];rfl,by rw[hP];rfl⟩
  omega
 have ei:i=A1 (fU s):=by omega
 refine AX ?_;refine zQ (A:=[]) (ρ:=(AD (k+1))) ay.up ?_;intro h4 ck bl;replace M:=M.mono ck;have bw:(A6 (Aq (k+1)) (A6 Az (AS (A6 A9 (A6 A9 (AE (j+1))))))).R h4 aa (PS,(Z,(A2.slice none 0 0,s.2.2)).2):=Me M bl;refine AF ?_;refine yX 53 14 ?_;have bs:=RL.nil (ρ:=A6 (Aj (4*m+12) (m+n+12)) (A6 Cv wQ)) (h:=h4);refine UO (A:=[_,_]) (ρ:=A9) az.up ?_;intro h5 ij bk;refine An (ι:=Nat×List Fc×A2×List A2×A2×List A2×A4) (λ(f,FS,U,ah,D,ae,mb)=>(MLe h5 mb/\((AS A9).Is mb U (CC s)/\(A6 (Aq (k+1)) (A6 Az (AS (A6 A9 (A6 A9 (AE (j+1))))))).R mb ah (PS,(D,s.2.2))/\RL (BP (4*m+12) (m+n+12)) mb ae FS/\D.oneCell'=true/\f<=A1 s.2.1/\FS=EJ s f),[(1,vP b1 0),(2,vP b2 0),(4,U),(5,vP b5 0),(7,vI ↑f)],[.gs 53 14 D (A1 FS) ae,.var b5 32 ah,.var b2 32 cu,.var b1 32 cw],mb,A1 s.2.1-f)) (0,[],H,aa,(.slice none 0 0),[],h5) ?_ ?_
 · exact⟨AM,(Rp.Is.cast bk (by rw[hI,ei];rfl)),bw.up,bs.up,I,A3,I⟩
 rintro⟨f,FS,U,ah,D,ae,mb⟩ ⟨gb,am,J,ab,ch,fp,hF⟩
 refine yO ?_;have iq:A1 FS=f:=by rw[hF];exact TI s f
 have dm:=Yv H3 f fp;refine AR ?_;refine lX (xB kO (AQ (AT pH)) ao) λgu hp=>(Ca (λdk=>?_) λdk=>?_)
 ·
  refine AZ ?_;refine lX (xB jG pH ao) λgt es=>(A5 ?_);refine cL (BM I I I) call172 (λw hs=>d0 (f:=f) hs es am O O O (by first|omega|exact H3|exact ax f O|exact JM s _) (by first|omega|exact H3|exact ax f O|exact JM s _) (by first|omega|exact H3|exact ax f O|exact JM s _) (by first|omega|exact H3|exact ax f O|exact JM s _)) λgr h6 ii er=>(nA (ρ:=(BP 1 1)) (X:=((zT,(0:Rat)),([],([]:List Nat)))) jR (zW (zW (yN (zR dC)) (zR dC)) (zW wC jQ)) λb8 ir ej=>?_);have bh:=(Le.p (Le.p (AI (4*m+11)) (AL (m+n+11))) (Le.refl _)).R ej;refine zP (A:=[]) (uB sizeOf53 pH bh er) λcp an=>(AR ?_);refine lX (sR (xB kO (AQ (AT pH)) J)) λgq eq=>?_;subst eq;refine gv (qR Ax underlying29 I) I (AR ?_);refine An (ι:=Nat×A4) (λ(C,mk)=>(MLe h6 mk/\(C<=A1 FS/\lE (Ii (CI s (CC s) f) FS) (A1 FS)=lE (Ii (CI s (CC s) f) FS) C),[(1,vP b1 0),(2,vP b2 0),(4,U),(5,vP b5 0),(7,vI ↑f),(8,vP b8 0),(9,vI ↑C)],[.var b8 53 cp,.gs 53 14 D (A1 FS) ae,.var b5 32 ah,.var b2 32 cu,.var b1 32 cw],mk,C)) (A1 FS,h6) ?_ ?_
  · exact⟨AM,A3,I⟩
  rintro⟨C,mk⟩ ⟨ga,ib,cj⟩
  refine yO ?_;refine A5 ?_;refine zG 12 _ [] (Ah 0 10 [(10,.c),(11,.q)]) zX nX (xU Ac) nX (λr hr=>hr) (AN ?_);refine qC ((0:Int)<(↑C:Int)) (λar=>?_) (λar=>?_)
  ·
   rw[yU ar];refine oX I (xB tT pH an) λgo ep=>(A7 ?_);refine oX I (sR (xB kO (AQ (AT pH)) J)) λgn eo=>?_;subst eo;refine yS I I I (λh' L' hh hR=>xK I) I (A7 ?_);refine yS I I I (λh' L' hh hR=>(yG (C-1) (hR _ Ax) underlying29 sizeOf53 I I O O nP).cv (show _=zH 1 D (((C-1)*14+0)) from AJ (zH 1 D) B5)) I (nY (F:=λv_=>(BP (4*m+12) (m+n+12)).Is mk v_ (A0 FS (C-1) zA)) I I I (xO tT (AO (AA _) zA (C-1) O) I nP I ab.up I) (gH Ax) I ?_);intro gm en;refine AB I (ES I I (sC (AK I I) call173 (λw hs=>ti hs ep en (by first|omega|exact Ao (PX H3 O) dC|exact Ao (dm _ (by rw[hF];exact kX (by rw[<-hF];omega))) dC) (by first|omega|exact Ao (PX H3 O) dC|exact Ao (dm _ (by rw[hF];exact kX (by rw[<-hF];omega))) dC)) λec h7 fo em=>?_));obtain rfl:ec=vB (Nq (CI s (CC s) f) (A0 FS (C-1) zA)):=em;refine B4 (λaw=>?_) λaw=>?_
   ·
    refine Ak ?_;refine Ad ((C-1),h7) ?_ ?_ (he:=⟨I,I,I,I,I,I,AJ (λz=>some (vI z)) O,AW⟩)
    · exact⟨AM,A3,by rw[cj];exact Sv O aw⟩
    omega
   refine AX ?_;refine lX (sR (xB kO (AQ (AT pH)) J)) λeb cf=>?_;subst cf;refine lX (xV (ρ:=(BP 1 1)) (xL (ps':=[]) underlying53 jR I I (aC underlying53) trivial I (zW (zW (yN (zR dC)) (zR dC)) (zW wC jQ)) zO)) λea ce=>(zE (zL (ρ:=(BP 1 1)) (m:=1) (xs:=[((zT,(0:Rat)),([],([]:List Nat)))]) (ps':=[(0,_)]) underlying29 jR I I I (zW (zW (yN (zR dC)) (zR dC)) (zW wC jQ)) Al (zD I (AO (AA _) zA 0 dC) ce zO) IY nP) I I I ?_)
   rintro dz fl ⟨dq,rfl,bb⟩
   refine zQ (A:=[]) (ρ:=(BP 1 1)) bb ?_;intro h8 ih bj;refine yY (A:=[_]) (uD (zN (ρ:=(BP (4*m+12) (m+n+12))) (bytes:=264) underlying29 jR I I I I nP I I ab.up (bj.le (Le.s (Le.p (Le.p (AI (4*m+12)) (AL (m+n+12))) (Le.refl _)))) bO bO)) I I I ?_
   rintro ak fk ⟨ai,dp,rfl,ba⟩
   refine A7 ?_;refine zP (A:=[_,_]) (uB sizeOf29 (AQ (AT pH)) J (oH ai)) λco ad=>(AN ?_);refine nI (A:=[_]) (by rw[BJ];exact M1 _) (λob fv ap aq=>?_);refine qM (A:=[_]) 10 [] (Ah 0 9 [(9,.c)]) zX nX Ac nX (A7 ?_);refine wX I (sR (xB kO (AQ (AT pH)) ad)) λdy cd=>?_;subst cd;refine A5 ?_;refine wK I (λ_ _=>jU (C+1) underlying29 sizeOf53 I I ⟨_,_,ap,aq⟩ O Cx) I (A7 ?_);refine wX I (sR (xB kO (AQ (AT pH)) ad)) λdx cc=>?_;subst cc;refine A7 ?_;refine wK I (λ_ _=>jU C underlying29 sizeOf53 I I ⟨_,_,ap,aq⟩ O Cx) I ?_;refine AB I (kP (A:=[_]) (λX=>mW (ρ:=(BP (4*m+12) (m+n+12))) C ap aq underlying29 sizeOf53 I I Cx ba) I (yP BU) ?_)
   rintro dw fj ⟨fu,rfl,br⟩
   refine AF ?_;refine lX (sR (xB kO (AQ (AT pH)) ad)) λdv cb=>?_;subst cb;refine A7 ?_;refine lX (xB tT pH an) λdu ca=>(gv ((yG C Ax underlying29 sizeOf53 I I O (by rw[fO Cx];simp only[BJ,lC,lN];omega) nP).cv (show _=zH 1 ak ((C*14+0)) from AJ (zH 1 ak) B5)) I (kQ (A:=[_]) (F:=λc_=>RL (BP (4*m+12) (m+n+12)) h8 c_ ((sU (FS++[((zT,(0:Rat)),([],([]:List Nat)))]) C).set C (CI s (CC s) f))) (tD sizeOf53 (AO (AA _) zA C (by rw[fO Cx];simp only[BJ,lC,lN];omega)) I nP I I br (ca.le (Le.p (Le.p (AI (4*m+12)) (AL (m+n+12))) (Le.refl _))) I) ?_));intro cn bq;refine AX ?_;refine yE (A:=[]) ?_;refine Ad ((f+1),((sU (FS++[((zT,(0:Rat)),([],([]:List Nat)))]) C).set C (CI s (CC s) f)),U,co,ak,cn,h8) ?_ ?_
   · exact⟨AM,am.up,ad,bq,ai,A3,by rw[mU O];have ci:lE (Ii (CI s (CC s) f) FS) (A1 FS)=C:=by{rw[cj];exact LI (λe=>by first|omega|exact aw e.2)};rw[<-ci,hF];rfl⟩
   omega
  rw[yH ar];refine Af ?_;refine AB I (bD I I I I (uF ?_));refine lX (sR (xB kO (AQ (AT pH)) J)) λeb cf=>?_;subst cf;refine lX (xV (ρ:=(BP 1 1)) (xL (ps':=[]) underlying53 jR I I (aC underlying53) trivial I (zW (zW (yN (zR dC)) (zR dC)) (zW wC jQ)) zO)) λea ce=>(zE (zL (ρ:=(BP 1 1)) (m:=1) (xs:=[((zT,(0:Rat)),([],([]:List Nat)))]) (ps':=[(0,_)]) underlying29 jR I I I (zW (zW (yN (zR dC)) (zR dC)) (zW wC jQ)) Al (zD I (AO (AA _) zA 0 dC) ce zO) IY nP) I I I ?_)
  rintro dz fl ⟨dq,rfl,bb⟩
  refine zQ (A:=[]) (ρ:=(BP 1 1)) bb ?_;intro h7 fo bi;refine yY (A:=[_]) (uD (zN (ρ:=(BP (4*m+12) (m+n+12))) (bytes:=264) underlying29 jR I I I I nP I I ab.up (bi.le (Le.s (Le.p (Le.p (AI (4*m+12)) (AL (m+n+12))) (Le.refl _)))) bO bO)) I I I ?_
  rintro ak fk ⟨ai,dp,rfl,ba⟩
  refine A7 ?_;refine zP (A:=[_,_]) (uB sizeOf29 (AQ (AT pH)) J (oH ai)) λcm ac=>(AN ?_);refine nI (A:=[_]) (by rw[BJ];exact M1 _) (λob fv ap aq=>?_);refine qM (A:=[_]) 10 [] (Ah 0 9 [(9,.c)]) zX nX Ac nX (A7 ?_);refine wX I (sR (xB kO (AQ (AT pH)) ac)) λdy cd=>?_;subst cd;refine A5 ?_;refine wK I (λ_ _=>jU (C+1) underlying29 sizeOf53 I I ⟨_,_,ap,aq⟩ O Cx) I (A7 ?_);refine wX I (sR (xB kO (AQ (AT pH)) ac)) λdx cc=>?_;subst cc;refine A7 ?_;refine wK I (λ_ _=>jU C underlying29 sizeOf53 I I ⟨_,_,ap,aq⟩ O Cx) I ?_;refine AB I (kP (A:=[_]) (λX=>mW (ρ:=(BP (4*m+12) (m+n+12))) C ap aq underlying29 sizeOf53 I I Cx ba) I (yP BU) ?_)
  rintro dw fj ⟨ft,rfl,bp⟩
  refine AF ?_;refine lX (sR (xB kO (AQ (AT pH)) ac)) λdv cb=>?_;subst cb;refine A7 ?_;refine lX (xB tT pH an) λdu ca=>(gv ((yG C Ax underlying29 sizeOf53 I I O (by rw[fO Cx];simp only[BJ,lC,lN];omega) nP).cv (show _=zH 1 ak ((C*14+0)) from AJ (zH 1 ak) B5)) I (kQ (A:=[_]) (F:=λc_=>RL (BP (4*m+12) (m+n+12)) h7 c_ ((sU (FS++[((zT,(0:Rat)),([],([]:List Nat)))]) C).set C (CI s (CC s) f))) (tD sizeOf53 (AO (AA _) zA C (by rw[fO Cx];simp only[BJ,lC,lN];omega)) I nP I I bp (ca.le (Le.p (Le.p (AI (4*m+12)) (AL (m+n+12))) (Le.refl _))) I) ?_));intro cl bo;refine AX ?_;refine yE (A:=[]) ?_;refine Ad ((f+1),((sU (FS++[((zT,(0:Rat)),([],([]:List Nat)))]) C).set C (CI s (CC s) f)),U,cm,ak,cl,h7) ?_ ?_
  · exact⟨AM,am.up,ac,bo,ai,A3,by rw[mU O];have ci:lE (Ii (CI s (CC s) f) FS) (A1 FS)=C:=by{rw[cj];exact LI (λe=>by first|omega|exact aw e.2)};rw[<-ci,hF];rfl⟩
  omega
 have ef:f=A1 s.2.1:=by omega
 refine Af ?_;refine lX (xB jG pH J) λgk el=>?_;have bg:=(Le.p (Le.s (AI (k+1))) (Le.p (Le.refl _) (Le.s (Le.p (Le.refl _) (Le.p (Le.refl _) (AL (j+1))))))).R dj;refine zP (A:=[_,_]) (uB sizeOf32 pH bg el) λfs bv=>(AN ?_);have fr:FS=Cb s:=by rw[hF,ef];exact(AC be).symm
 have fq:PS=Di s:=by rw[hP,ei];exact(AC be).symm
 subst fr;subst fq;refine xW (qV (t:=2) jG C6 I bv) ?_;intro fw bd bn;refine kE (.cons_cons _ (E3 _)) (λE S=>zS I bd E S) ?_;exact⟨_,_,(Rp.Is.cast bn (by rw[show E7 s=s.2.2 from AC be])),I,ch,ab.up⟩
end
end Go.Proofs.YtlpflnindligbaaGreat
namespace Bk
open Go Go.RowKit
section
variable {P:D}{n:Nat}{w0:AP}{h0:A4}{e:List (Nat×A2)}{L:List AG}{h:A4}{Q:BH->Av->AP->Prop}{ds:Option Tmp}{ty:Ab}{ps:String}{af:Array Edge}{gd:Option (Nat×Bool)}{α β:Type}
variable {E:Ab}{cs:List A2}{v:A2}{ρ:Rp α}{σ:Rp β}{g:List α->β}{s:List α->β->List α}{xs:List α}{off k:Nat}
theorem RS{w:AP}{h':A4}(hm:.gs E ρ.n v (A1 xs) cs∈L)(pc:Pc (BO (A1 xs) ρ) off σ g s)(hp:0<σ.n)(r:RL ρ h cs xs)(S:St w0 h0 L h' w):
 ∃b o',∀d,zH 1 v (off+d)=vP b (o'+off+d):=by
 have H:off+σ.n<=A1 xs*ρ.n:=pc.fits;have D:=r.len;obtain⟨b,o',J,C,_⟩:=Xh (l:=1) (Ms hm S) Aa (show off+1<=A1 cs by omega);refine⟨b,o',λd=>?_⟩;rw[C];simp[zH,kD,FP]
theorem pX{x:Ag}(pc:Pc (BO (A1 xs) ρ) off σ g s)(hk:k=off)(hp:0<σ.n)(r:RL ρ h cs xs)(hm:.gs E ρ.n v (A1 xs) cs∈L)(hx:zK e x=some (zH 1 v k)):
 OpV P n w0 h0 ⟨ds,.nilCheck x,ty,ps,af,gd⟩ e L h (zH 1 v k):=by
 subst hk;intro a w D S;obtain⟨b,o',H⟩:=RS hm pc hp r S;have C:=H 0;rw[Cq,Cq] at C;rw[C] at hx ⊢;exact gX hx a w D S
theorem jE{t:Ab}{x:Ag}{f:Nat}{fs:Array Field}{fl:Field}{m:Nat}(pc:Pc (BO (A1 xs) ρ) off σ g s)(hk:k=off)(hp:0<σ.n)(r:RL ρ h cs xs)(hm:.gs E ρ.n v (A1 xs) cs∈L)(ht:P.underlying t=some (.struct fs))(hf:fs[f]?=some fl)(hsz:∀w,(Go.sizeOf fl.type).run P w=.ok (m+1) w)(hx:zK e x=some (zH 1 v k)):
 OpV P n w0 h0 ⟨ds,.fieldAddr t x f,ty,ps,af,gd⟩ e L h (zH 1 v (k+fl.offset)):=by
 subst hk;intro a w D S;obtain⟨b,o',H⟩:=RS hm pc hp r S;have C:=H 0;rw[Cq,Cq] at C;rw[H];rw[C] at hx;exact fI ht hf hsz hx a w D S
theorem rM{t E':Ab}{x y:Ag}{m sz:Nat}{q:Int}(i:Nat)(pc:Pc (BO (A1 xs) ρ) off σ g s)(hk:k=off)(hp:0<σ.n)(r:RL ρ h cs xs)(hm:.gs E ρ.n v (A1 xs) cs∈L)(ht:P.underlying t=some (.array m E'))(hsz:∀w,(Go.sizeOf E').run P w=.ok sz w)(hx:zK e x=some (zH 1 v k))(hy:zK e y=some (vI q))(hq:q=(i:Int))(hi:i<m):
 OpV P n w0 h0 ⟨ds,.indexAddr t x y,ty,ps,af,gd⟩ e L h (zH 1 v (k+i*sz)):=by
 subst hk;intro a w D S;obtain⟨b,o',H⟩:=RS hm pc hp r S;have C:=H 0;rw[Cq,Cq] at C;rw[H];rw[C] at hx;exact zM i ht hsz hx hy hq hi a w D S
end
section
variable {P:D}{n:Nat}{w0:AP}{h0:A4}{ops:Array AY}{Q:BH->Av->AP->Prop}{R:List AG}
variable {c e:List (Nat×A2)}{L:List AG}{h h':A4}{o:AY}{v:A2}
abbrev Kp:=List (Nat×A2)->List AG->A4->Prop
def lF(c e:List (Nat×A2)):Prop:=∀t v,c.lookup t=some v->e.lookup t=some v
theorem lF.env(h:lF c e){a:Av}(E:Bp n e a):Bp n c a:=⟨E.defers,E.size,λt v ht=>E.get t v (h t v ht)⟩
theorem lF.cons(h:lF c e)(d:Nat)(v:A2):lF ((d,v)::c) ((d,v)::e):=λt w=>by
 simp only[List.lookup]
 split
 · exact id
 · exact h t w
theorem lF.put(h:lF c e)(d:Option Nat)(v:A2):lF (Ef c d v) (Ef e d v):=by
 cases d with
 |none=>exact h
 |some d=>exact h.cons d v
def Mo(K:Kp):Prop:=∀c e L h,lF c e->K c L h->K e L h
theorem pE{K K':Kp}(hs:lF c e)(hk:∀v L h,K (Ef c o.dst v) L h->K' (Ef e o.dst v) L h)(s:qP P n w0 h0 ops R o c L h K):qP P n w0 h0 ops R o e L h K':=by
 intro X a w E S;refine(s X a w (hs.env E) S).mono ?_
 rintro v H ⟨C,L',h',h1,h2,h3,D⟩
 exact⟨C,L',h',h1,h2,h3,hk v L' h' D⟩
theorem sO{K:Kp}(hK:Mo K)(hs:lF c e)(s:qP P n w0 h0 ops R o c L h K):qP P n w0 h0 ops R o e L h K:=pE hs (λv L h=>hK _ _ L h (hs.put _ v)) s
theorem MA(hs:lF c e)(hh:MLe h h')(q:Kg P n w0 h0 ops R o c h v):Kg P n w0 h0 ops R o e h' v:=⟨q.1,λg L' a w hg hr E S=>q.2 g L' a w (hh.trans hg) hr (hs.env E) S⟩
theorem LF{K:Kp}{i:Nat}(hK:Mo K)(hs:lF c e)(s:SQ P n w0 h0 ops R i c L h K):SQ P n w0 h0 ops R i e L h K:=by
 obtain⟨v,C,k⟩:=s;exact⟨v,MA hs (MLe.refl _) C,hK _ _ L h (hs.put _ v) k⟩
theorem Lm{K:Kp}(hK:Mo K):∀(k:Nat) (A B:List Nat),Mo (WM P n w0 h0 ops R K k A B)
  |0,[],[]|_+1,[],[]=>hK
  |0,_::_,[]|0,[],_::_|0,_::_,_::_=>λc e L h _ f=>f
  |k+1,i::A,[]=>λc e L h hs s=>sO (Lm hK k A []) hs s
  |k+1,[],j::B=>λc e L h hs s=>sO (Lm hK k [] B) hs s
  |k+1,i::A,j::B=>λc e L h hs s=>⟨sO (Lm hK k A (j::B)) hs s.1,sO (Lm hK k (i::A) B) hs s.2⟩
theorem H0{K:Kp}{Qs:List Nat}(hK:Mo K):∀(k:Nat) (A B:List Nat),Mo (WX P n w0 h0 ops R Qs K k A B)
  |0,[],[]|_+1,[],[]=>hK
  |0,_::_,[]|0,[],_::_|0,_::_,_::_=>λc e L h _ f=>f
  |k+1,i::A,[]=>λc e L h hs s=>by
   simp only[WX] at s ⊢
   cases hq:Qs.contains i<;>simp only[hq,cond_true,cond_false] at s ⊢
   · exact sO (H0 hK k A []) hs s
   · exact LF (H0 hK k A []) hs s
  |k+1,[],j::B=>λc e L h hs s=>by
   simp only[WX] at s ⊢
   cases hq:Qs.contains j<;>simp only[hq,cond_true,cond_false] at s ⊢
   · exact sO (H0 hK k [] B) hs s
   · exact LF (H0 hK k [] B) hs s
  |k+1,i::A,j::B=>λc e L h hs s=>by
   simp only[WX] at s ⊢
   cases hq:Qs.contains i<;>simp only[hq,cond_true,cond_false] at s ⊢
   · cases hr:Qs.contains j<;>simp only[hr,cond_true,cond_false] at s ⊢
     · exact⟨sO (H0 hK k A (j::B)) hs s.1,sO (H0 hK k (i::A) B) hs s.2⟩
     · exact LF (H0 hK k (i::A) B) hs s
   · exact LF (H0 hK k A (j::B)) hs s
theorem Ei(al:Co):∀r,Mo (W P n w0 h0 ops Q R al r)
  |[]=>λc e L h hs k a w E S=>k a w (hs.env E) S
  |(i,.q)::r=>λc e L h hs s=>LF (Ei al r) hs s
  |(i,.a)::r=>λc e L h hs s d E cs b hl=>by
   have s1:=s d E cs b hl
   revert s1
   cases I9 (ops.getD i default).op with
   |none=>exactλs1=>Ei al r _ _ _ h (hs.cons d _) s1
   |some len=>exactλs1 h' hh hsl=>Ei al r _ _ L h' (hs.cons d _) (s1 h' hh hsl)
  |(i,.c)::r=>λc e L h hs s=>sO (Ei al r) hs s
  |(i,.b j)::r=>λc e L h hs s=>⟨pE hs (λv L h=>sO (Ei al r) (hs.put _ v)) s.1,pE hs (λv L h=>sO (Ei al r) (hs.put _ v)) s.2⟩
  |(i,.t)::r=>λc e L h hs s a w E S=>(s a w (hs.env E) S).mono λv w' ⟨hd,L',h',hS,k⟩=>⟨hd,L',h',hS,Ei al r _ _ L' h' (hs.put _ v) k⟩
  |(i,.p)::r=>λc e L h hs ⟨v,hq,k⟩=>⟨v,⟨hq.1,λa w E=>hq.2 a w (hs.env E)⟩,Ei al r _ _ L h (hs.put _ v) k⟩
  |(i,.d i2 j)::r=>λc e L h hs s=>⟨pE hs (λv L h s1=>⟨pE (hs.put _ v) (λu L h=>sO (Ei al r) ((hs.put _ v).put _ u)) s1.1,pE (hs.put _ v) (λu L h=>sO (Ei al r) ((hs.put _ v).put _ u)) s1.2⟩) s.1,
   pE hs (λv L h s1=>pE (hs.put _ v) (λu L h=>sO (Ei al r) ((hs.put _ v).put _ u)) s1) s.2⟩
  |(i,.m A B)::r=>λc e L h hs s=>Lm (Ei al r) _ _ _ _ _ _ _ hs s
  |(i,.x Qs A B)::r=>λc e L h hs s=>H0 (Ei al r) _ _ _ _ _ _ _ hs s
end
section
variable (P:D)(n:Nat)(w0:AP)(h0:A4)(ops:Array AY)(R:List AG)(Qs:List Nat)(e:List (Nat×A2))(L:List AG)(F:List (Nat×A2)->A4->Prop)
def DN:List Nat->List (Nat×A2)->A4->Prop
  |[],p,h=>∀h',MLe h h'->F p h'
  |i::A,p,h=>bif Qs.contains i then ∃d v,(ops.getD i default).dst=some d/\Kg P n w0 h0 ops R (ops.getD i default) (p++e) h v/\DN A ((d,v)::p) h
    else ∀h',MLe h h'->qP P n w0 h0 ops R (ops.getD i default) (p++e) L h' λc L' g=>L'=L/\MLe h' g/\∃d v,(ops.getD i default).dst=some d/\c=(d,v)::(p++e)/\DN A ((d,v)::p) g
end
section
variable {P:D}{n:Nat}{w0:AP}{h0:A4}{ops:Array AY}{Q:BH->Av->AP->Prop}{R:List AG}{Qs:List Nat}{e:List (Nat×A2)}{L:List AG}{F G:List (Nat×A2)->A4->Prop}
theorem DN.mono:∀{A:List Nat} {p:List (Nat×A2)} {h h':A4},MLe h h'->DN P n w0 h0 ops R Qs e L F A p h->DN P n w0 h0 ops R Qs e L F A p h'
  |[],p,h,h',hh,k=>λg hg=>k g (hh.trans hg)
  |i::A,p,h,h',hh,k=>by
   simp only[DN] at k ⊢
   cases hq:Qs.contains i<;>simp only[hq,cond_true,cond_false] at k ⊢
   · exactλg hg=>k g (hh.trans hg)
   · obtain⟨d,v,h1,h2,h3⟩:=k
     exact⟨d,v,h1,MA (λ_ _ x=>x) hh h2,h3.mono hh⟩
theorem Ql{p e:List (Nat×A2)}{t:Nat}(h:p.lookup t=none):(p++e).lookup t=e.lookup t:=by
 induction p with
 |nil=>rfl
 |cons x p ih=>
  obtain⟨k,v⟩:=x;simp only[Fs,List.lookup] at h ⊢
  split at h
  · cases h
  · exact ih h
theorem Vu{p:List (Nat×A2)}{d:Nat}(h:∀x,x∈p->x.1≠d):p.lookup d=none:=by
 induction p with
 |nil=>rfl
 |cons x p ih=>
  obtain⟨k,v⟩:=x;have h1:(d==k)=false:=beq_eq_false_iff_ne.2 λe=>h _ (.head _) e.symm;simp only[List.lookup,h1];exact ih λy hy=>h y (.tail _ hy)
theorem cp{p e:List (Nat×A2)}{d:Nat}{v:A2}(h:p.lookup d=none){E:List (Nat×A2)}(hs:lF (p++e) E):lF (p++(d,v)::e) ((d,v)::E):=by
 induction p generalizing E with
 |nil=>exact hs.cons d v
 |cons x p ih=>
  obtain⟨k,u⟩:=x;intro t w ht;simp only[Fs,List.lookup] at h ht ⊢
  split at h
  · cases h
  · rename_i hdk
    split at ht
    · rename_i htk
      have:t≠d:=λe=>by rw[e] at htk;rw[htk] at hdk;cases hdk
      rw[beq_eq_false_iff_ne.2 this];exact hs t w (by simp only[Fs,List.lookup,htk];exact ht)
    · rename_i htk
      by_cases htd:t=d
      · subst htd
        rw[Ql h] at ht;simp only[List.lookup,beq_self_eq_true] at ht ⊢;exact ht
      · rw[beq_eq_false_iff_ne.2 htd]
        refine hs t w ?_;simp only[Fs,List.lookup,htk];have:(p++(d,v)::e).lookup t=(p++e).lookup t:=by
         clear ih hs ht h
         induction p with
         |nil=>simp only[Fg,List.lookup,beq_eq_false_iff_ne.2 htd]
         |cons y p ih=>obtain⟨a,b⟩:=y;simp only[Fs,List.lookup];split;rfl;exact ih
        rw[<-this];exact ht
theorem LY{K:Kp}(hK:Mo K){dA dB:Nat->Prop}(hd:∀d,dA d->¬dB d)(hA0:∀d,dA d->e.lookup d=none)(hB0:∀d,dB d->e.lookup d=none):∀(N:Nat) (A B:List Nat) (pA pB E:List (Nat×A2)) (h:A4),
 (A1 A)+A1 B<=N->(∀i,i∈A->∀d,(ops.getD i default).dst=some d->dA d)->(∀i,i∈B->∀d,(ops.getD i default).dst=some d->dB d)->(∀x,x∈pA->dA x.1)->(∀x,x∈pB->dB x.1)->
 lF (pA++e) E->lF (pB++e) E->lF (pA++(pB++e)) E->DN P n w0 h0 ops R Qs e L F A pA h->DN P n w0 h0 ops R Qs e L G B pB h->
 (∀pA pB g,MLe h g->F pA g->G pB g->K (pA++(pB++e)) L g)->WX P n w0 h0 ops R Qs K N A B E L h
 |N,[],[],pA,pB,E,h,_,_,_,_,_,_,_,s3,cA,cB,k=>by
  have:=hK _ _ L h s3 (k pA pB h (MLe.refl _) (cA h (MLe.refl _)) (cB h (MLe.refl _)))
  cases N<;>exact this
 |0,_::_,_,_,_,_,_,hN,_,_,_,_,_,_,_,_,_,_=>absurd hN (by simp only[lC];omega)
 |0,[],_::_,_,_,_,_,hN,_,_,_,_,_,_,_,_,_,_=>absurd hN (by simp only[lC];omega)
 |N+1,A,B,pA,pB,E,h,hN,hA,hB,hpA,hpB,s1,s2,s3,cA,cB,k=>by
  -- a step of the first chain, of the second one
  have nA:∀d,dA d->pB.lookup d=none:=λd hd'=>Vu λx hx e'=>hd d hd' (e'▸hpB x hx);have nB:∀d,dB d->pA.lookup d=none:=λd hd'=>Vu λx hx e'=>hd _ (hpA x hx) (e'▸hd');have addA:∀{d v},dA d->lF ((d,v)::pA++e) ((d,v)::E)/\lF (pB++e) ((d,v)::E)/\lF ((d,v)::pA++(pB++e)) ((d,v)::E):=λ{d v} hd'=>⟨s1.cons d v,λt w ht=>by
   have:t≠d:=λe'=>by rw[e',Ql (nA d hd'),hA0 d hd'] at ht;cases ht
   simp only[List.lookup,beq_eq_false_iff_ne.2 this];exact s2 t w ht,s3.cons d v⟩
  have addB:∀{d v},dB d->lF (pA++e) ((d,v)::E)/\lF ((d,v)::pB++e) ((d,v)::E)/\lF (pA++((d,v)::pB++e)) ((d,v)::E):=λ{d v} hd'=>⟨λt w ht=>by
   have:t≠d:=λe'=>by rw[e',Ql (nB d hd'),hB0 d hd'] at ht;cases ht
   simp only[List.lookup,beq_eq_false_iff_ne.2 this];exact s1 t w ht,s2.cons d v,cp (nB d hd') s3⟩
  have stA:∀{i A'},A=i::A'->Qs.contains i=false->qP P n w0 h0 ops R (ops.getD i default) E L h (WX P n w0 h0 ops R Qs K N A' B):=λ{i A'} eA hq=>by
   subst eA;simp only[DN,hq,cond_false] at cA;refine pE s1 ?_ (cA h (MLe.refl _))
   rintro u L' g ⟨hL,hg,d,v,h1,h2,h3⟩
   rw[hL];have hdA:=hA i (.head _) d h1;rw[h1] at h2 ⊢;have ev:u=v:=by unfold Ef at h2;simp only[List.cons.injEq,Prod.mk.injEq] at h2;exact h2.1.2
   subst ev;have:=addA (v:=u) hdA;exact LY hK hd hA0 hB0 N A' B ((d,u)::pA) pB _ g (by simp only[lC] at hN;omega) (λj D=>hA j (.tail _ D)) hB (Oi.2 ⟨hdA,hpA⟩) hpB this.1 this.2.1 this.2.2 h3 (cB.mono hg) λpA pB Z H=>k pA pB Z (hg.trans H)
  have J:∀{i B'},B=i::B'->Qs.contains i=false->qP P n w0 h0 ops R (ops.getD i default) E L h (WX P n w0 h0 ops R Qs K N A B'):=λ{i B'} eB hq=>by
   subst eB;simp only[DN,hq,cond_false] at cB;refine pE s2 ?_ (cB h (MLe.refl _))
   rintro u L' g ⟨hL,hg,d,v,h1,h2,h3⟩
   rw[hL];have C:=hB i (.head _) d h1;rw[h1] at h2 ⊢;have ev:u=v:=by unfold Ef at h2;simp only[List.cons.injEq,Prod.mk.injEq] at h2;exact h2.1.2
   subst ev;have:=addB (v:=u) C;exact LY hK hd hA0 hB0 N A B' pA ((d,u)::pB) _ g (by simp only[lC] at hN;omega) hA (λj D=>hB j (.tail _ D)) hpA (Oi.2 ⟨C,hpB⟩) this.1 this.2.1 this.2.2 (cA.mono hg) h3 λpA pB Z H=>k pA pB Z (hg.trans H)
  have U:∀{i A'},A=i::A'->Qs.contains i=true->SQ P n w0 h0 ops R i E L h (WX P n w0 h0 ops R Qs K N A' B):=λ{i A'} eA hq=>by
   subst eA;simp only[DN,hq,cond_true] at cA;obtain⟨d,v,h1,h2,h3⟩:=cA;have hdA:=hA i (.head _) d h1;have:=addA (v:=v) hdA;refine⟨v,MA s1 (MLe.refl _) h2,?_⟩;rw[h1];exact LY hK hd hA0 hB0 N A' B ((d,v)::pA) pB _ h (by simp only[lC] at hN;omega) (λj D=>hA j (.tail _ D)) hB (Oi.2 ⟨hdA,hpA⟩) hpB this.1 this.2.1 this.2.2 h3 cB k
  have M:∀{i B'},B=i::B'->Qs.contains i=true->SQ P n w0 h0 ops R i E L h (WX P n w0 h0 ops R Qs K N A B'):=λ{i B'} eB hq=>by
   subst eB;simp only[DN,hq,cond_true] at cB;obtain⟨d,v,h1,h2,h3⟩:=cB;have C:=hB i (.head _) d h1;have:=addB (v:=v) C;refine⟨v,MA s2 (MLe.refl _) h2,?_⟩;rw[h1];exact LY hK hd hA0 hB0 N A B' pA ((d,v)::pB) _ h (by simp only[lC] at hN;omega) hA (λj D=>hB j (.tail _ D)) hpA (Oi.2 ⟨C,hpB⟩) this.1 this.2.1 this.2.2 cA h3 k
  match A,B with
  |[],[]=>exact hK _ _ L h s3 (k pA pB h (MLe.refl _) (cA h (MLe.refl _)) (cB h (MLe.refl _)))
  |i::A',[]=>
   simp only[WX]
   cases hq:Qs.contains i
   · exact stA I hq
   · exact U I hq
  |[],j::B'=>
   simp only[WX]
   cases hq:Qs.contains j
   · exact J I hq
   · exact M I hq
  |i::A',j::B'=>
   simp only[WX]
   cases hq:Qs.contains i
   · cases hr:Qs.contains j
     · exact⟨stA I hq,J I hr⟩
     · exact M I hr
   · exact U I hq
theorem Pz{al:Co}{i:Nat}{r:List (Nat×Kd)}{A B:List Nat}{h:A4}(dA dB:List Nat)(F G:List (Nat×A2)->A4->Prop)(hA:A.map (λi=>(ops.getD i default).dst)=dA.map some)(hB:B.map (λi=>(ops.getD i default).dst)=dB.map some)
    (hd:(dA.all λd=>!dB.contains d)=true)(he:((dA++dB).all λd=>(e.lookup d).isNone)=true)(cA:DN P n w0 h0 ops R Qs e L F A [] h)(cB:DN P n w0 h0 ops R Qs e L G B [] h)
    (k:∀pA pB g,MLe h g->F pA g->G pB g->W P n w0 h0 ops Q R al r (pA++(pB++e)) L g):W P n w0 h0 ops Q R al ((i,.x Qs A B)::r) e L h:=by
 have D:∀{A dA:List Nat},A.map (λi=>(ops.getD i default).dst)=dA.map some->∀i,i∈A->∀d,(ops.getD i default).dst=some d->d∈dA:=λ{A dA} h i hi d hd=>by
  have h1:=Ls (f:=λi=>(ops.getD i default).dst) hi;rw[h] at h1;obtain⟨x,hx,H⟩:=Cp.1 h1;simp only[hd,Option.some.injEq] at H;exact H▸hx
 have C:∀d,d∈dA++dB->e.lookup d=none:=λd hd=>Option.isNone_iff_eq_none.1 (Bb.1 he d hd);refine LY (dA:=(· ∈dA)) (dB:=(· ∈dB)) (Ei al r) (λd h1 h2=>?_) (λd hd=>C d (I8 _ hd)) (λd hd=>C d (PP _ hd)) _ A B [] [] e h (B1 _) (D hA) (D hB) (λx hx=>absurd hx Bv) (λx hx=>absurd hx Bv) (λ_ _ x=>x) (λ_ _ x=>x) (λ_ _ x=>x) cA cB k;have:=Bb.1 hd d h1;rw[List.contains_iff_mem.2 h2] at this
 cases this
section
variable {A:List Nat}{p:List (Nat×A2)}{h:A4}{i:Nat}{o:AY}
theorem GD(hq:Qs.contains i=false)(ho:ops.getD i default=o)(k:∀h',MLe h h'->qP P n w0 h0 ops R o (p++e) L h' λc L' g=>L'=L/\MLe h' g/\∃d v,o.dst=some d/\c=(d,v)::(p++e)/\DN P n w0 h0 ops R Qs e L F A ((d,v)::p) g):DN P n w0 h0 ops R Qs e L F (i::A) p h:=by
 subst ho;simp only[DN,hq,cond_false];exact k
theorem Ld(hq:Qs.contains i=true)(k:SQ P n w0 h0 ops R i (p++e) L h λc L' g=>∃d v,(ops.getD i default).dst=some d/\c=(d,v)::(p++e)/\DN P n w0 h0 ops R Qs e L F A ((d,v)::p) h):DN P n w0 h0 ops R Qs e L F (i::A) p h:=by
 simp only[DN,hq,cond_true];obtain⟨u,h1,d,v,h2,h3,C⟩:=k;rw[h2] at h3;have D:u=v:=by unfold Ef at h3;simp only[List.cons.injEq,Prod.mk.injEq] at h3;exact h3.1.2
 subst D;exact⟨d,u,h2,h1,C⟩
end
theorem Ka{α:Type}{d:Nat}{op:Op}{ty:Ab}{ps:String}{af:Array Edge}{e:List (Nat×A2)}{L:List AG}{h:A4}{W':Kp}{ρ:Rp α}{xs:List α}{E:Nat}(hv:∀X,aU P n w0 h0 ⟨some d,op,ty,ps,af,none⟩ e (L++X) h λv r=>∃cs,r=.gs E ρ.n v (A1 xs) cs/\RL ρ h cs xs)
    (hn:Nat.ble (d+1) n=true)(k:∀v g,MLe h g->(AS ρ).Is g v xs->W' ((d,v)::e) L g):qP P n w0 h0 ops R ⟨some d,op,ty,ps,af,none⟩ e L h W':=by
 intro X a w Ev S;refine(tV (ops:=ops) (R:=R) (W':=λc L' g=>∃v cs,c=(d,v)::e/\L'=.gs E ρ.n v (A1 xs) cs::L/\g=h/\RL ρ h cs xs) hv hn (λv r H=>by obtain⟨cs,D,Z⟩:=H;exact⟨v,cs,I,by rw[D],I,Z⟩) X a w Ev S).mono ?_
 rintro u w' ⟨U,L',g,H,hk,S',v,cs,D,rfl,rfl,M⟩
 obtain⟨J,C,hi,S2⟩:=St.freezex (A:=[]) (B:=L++X) M (by simpa using S');refine⟨U,L,J,C,λhh=>hh,by simpa using S2,?_⟩;rw[D];exact k v J C hi
end
end Bk
namespace Go.Proofs.YtlpflnindligbaaGreat
open Bk Go Tryz
attribute [local irreducible] GL GC GQ W OpV
theorem dZ{w0:AP}{h0:A4}(hs:MLe h0 (BE w0)){n:Int}(hn1:-9223372036854775808<=n)(hn2:n<9223372036854775808):
 Ae 114 #[vI n] w0 h0 (λh r=>wQ.Is h r (qF ((n:Int):Rat))):=by
 refine BI 6 (vI n) func114 hs ?_;refine AX ?_;refine cL (AU I) call41 (λw hs=>gN hs O O) λv4 h1 ac r4=>?_;obtain⟨M,U,C,D,H,J⟩:=uL r4;subst C;refine cL (AU I) call177 (λw hs=>dq hs D H O) λv5 h2 ab Z=>?_;subst Z;have aa:=cR ((n:Int):Rat);refine AF ?_;refine zC I I ?_;exact(fV (XK ((n:Int):Rat)))
set_option maxHeartbeats 40000000 in
theorem Wb{w0:AP}{h0:A4}(hs:MLe h0 (BE w0)){k l1 l2:Nat}{vL:A2}{L:(List (List Tq))}(rL:(C1 k).Is h0 vL L){vlo:A2}{lo:Rat}(rlo:(AE l1).Is h0 vlo lo){vhi:A2}{hi:Rat}(rhi:(AE l2).Is h0 vhi hi)(H0:k<=20)(H1:l1<=20)(H2:l2<=20)(H3:∀x,x∈L->bG x)(H4:Ct L lo hi=0->CF (Dt L lo hi)):
 Calls prog 102 #[vL,vlo,vhi] w0 (gV w0 h0 (λh r L_=>∃u0 vF cs,r=.tuple #[u0,vI (Ct L lo hi)]/\(A6 (Aq (k+l1+l2+20)) (A6 Az (AS (A6 A9 (A6 A9 (AE 5)))))).Is h u0 (Df L lo hi,(vF,[]))/\L_=[.gs 53 14 vF (A1 (Cg L lo hi)) cs]/\vF.oneCell'=true/\RL (BP (1000*k+1000*l1+1000*l2+2000) (1000*k+1000*l1+1000*l2+2000)) h cs (Cg L lo hi))):=by
 refine Cs 341 vL vlo vhi func102 hs ?_;refine A5 ?_;refine nB rlo λb4 cb jv=>(nB rhi λb5 ca ju=>(nA (ρ:=(A6 (Aq 1) (A6 Az (AS (A6 A9 (A6 A9 (AE 1))))))) (X:=([],((A2.slice none 0 0),[]))) qS (zW wC (zW fG wC)) λb6 bz eg=>(Af ?_)));refine cL (AU I) call169 (λw hs=>XE hs rL O (by first|omega|exact H3)) λzq h1 hh1 rr=>?_;obtain⟨hk,rfl,jw⟩:=rr
 change (AS A9).Is h1 hk (rC L 0 1) at jw
 refine tQ ?_;refine Bq (λfe=>?_) λfe=>?_
 ·
  refine A5 ?_;refine lX (xV (ρ:=(A6 (Aq 1) (A6 Az (AS (A6 A9 (A6 A9 (AE 1))))))) (xL (ps':=[]) underlying32 qS I I (pJ underlying32) trivial I (zW wC (zW fG wC)) zO)) λzp rq=>(A7 ?_);refine zP (A:=[]) (uB sizeOf32 pH eg rq) λyr mg=>(AR ?_);obtain⟨e1,e2,e3⟩:=c4 (lo:=lo) (hi:=hi) fe;rw[e1,e2,e3];refine lM 53 14 ?_;have lz:=RL.nil (ρ:=A6 (Aj (1000*k+1000*l1+1000*l2+2000) (1000*k+1000*l1+1000*l2+2000)) (A6 Cv wQ)) (h:=h1);refine xW (qV (t:=6) jG Ax I mg) ?_;intro yw jx lw;refine kE (.cons_cons _ (E3 _)) (λE S=>qG I jx (gA I) E S) ?_;exact⟨_,_,_,I,(Rp.Is.le lw (Le.p (Le.s (AI (k+l1+l2+20))) (Le.p (Le.refl _) (Le.s (Le.p (Le.refl _) (Le.p (Le.refl _) (AL 5))))))),I,I,lz⟩
 refine AZ ?_;have ew:uK L 0 1=0:=Br fe;have bu:=hG ew;have kf:=Q0 bu.2;refine cL (AU I) call170 (λw hs=>Vg hs rL.up O (by first|omega|exactλl hl=>Ao (bu.2 l hl) dC) (by first|omega|exactλl hl=>Ao (bu.2 l hl) dC)) λqv h2 hh2 rp=>?_;obtain rfl:qv=vI (E4 L):=rp;have sa:=Om L (A1 L);refine B4 (λbx=>?_) λbx=>?_
 ·
  refine A5 ?_;refine lX (xV (ρ:=(A6 (Aq 1) (A6 Az (AS (A6 A9 (A6 A9 (AE 1))))))) (xL (ps':=[]) underlying32 qS I I (pJ underlying32) trivial I (zW wC (zW fG wC)) zO)) λzo ro=>(zP (A:=[]) (uB sizeOf32 pH eg ro) λyq mc=>(AR ?_));obtain⟨e1,e2,e3⟩:=n0 (lo:=lo) (hi:=hi) ew bx;rw[e1,e2,e3];refine lM 53 14 ?_;have ly:=RL.nil (ρ:=A6 (Aj (1000*k+1000*l1+1000*l2+2000) (1000*k+1000*l1+1000*l2+2000)) (A6 Cv wQ)) (h:=h2);refine xW (qV (t:=6) jG Ax I mc) ?_;intro tv gn ih;refine kE (.cons_cons _ (E3 _)) (λE S=>qG I gn (gA I) E S) ?_;exact⟨_,_,_,I,(Rp.Is.le ih (Le.p (Le.s (AI (k+l1+l2+20))) (Le.p (Le.refl _) (Le.s (Le.p (Le.refl _) (Le.p (Le.refl _) (AL 5))))))),I,I,ly⟩
 refine AR ?_;refine lX (xB zU pH jv) λzn rn=>(lX (xB zU pH ju) λzm rm=>(cL (AK I I) call97 (λw hs=>tL hs rn rm O) λqu h3 hh3 rk=>?_));obtain rfl:qu=vI (wA lo hi):=rk;have ss:=uJ lo hi;refine B4 (λdj=>?_) λdj=>?_
 ·
  refine A5 ?_;refine lX (xV (ρ:=(A6 (Aq 1) (A6 Az (AS (A6 A9 (A6 A9 (AE 1))))))) (xL (ps':=[]) underlying32 qS I I (pJ underlying32) trivial I (zW wC (zW fG wC)) zO)) λzl rj=>(zP (A:=[]) (uB sizeOf32 pH eg rj) λtj jt=>(AR ?_));obtain⟨e1,e2,e3⟩:=k0 ew (Br bx) dj;rw[e1,e2,e3];refine lM 53 14 ?_;have iv:=RL.nil (ρ:=A6 (Aj (1000*k+1000*l1+1000*l2+2000) (1000*k+1000*l1+1000*l2+2000)) (A6 Cv wQ)) (h:=h3);refine xW (qV (t:=6) jG Ax I jt) ?_;intro tu gm ig;refine kE (.cons_cons _ (E3 _)) (λE S=>qG I gm (gA I) E S) ?_;exact⟨_,_,_,I,(Rp.Is.le ig (Le.p (Le.s (AI (k+l1+l2+20))) (Le.p (Le.refl _) (Le.s (Le.p (Le.refl _) (Le.p (Le.refl _) (AL 5))))))),I,I,iv⟩
 refine AF ?_;refine nA (ρ:=(A6 Az (A6 Az (AS (A6 A9 (A6 A9 (AE 1))))))) (X:=((A2.slice none 0 0),((A2.slice none 0 0),[]))) qS (zW fG (zW fG wC)) λap cc ms=>(k1 ?_);refine yX 187 2 ?_;have iu:=RL.nil (ρ:=BO 2 A9) (h:=h3);refine yX 43 9 ?_;have ir:=RL.nil (ρ:=Bd (AE (k+1))) (h:=h3);refine yX 22 1 ?_;have iq:=RL.nil (ρ:=AS A9) (h:=h3);refine An (ι:=Nat×List (List Int)×List Tq×List (List Int)×A2×List A2×A2×List A2×A2×List A2×A4) (λ(i,ED,M,U,Z,ad,D,am,C,ai,ma)=>(MLe h3 ma/\(RL (BO 2 A9) ma ad ED/\RL (AD (k+1)) ma am M/\RL (AS A9) ma ai U/\i<=A1 L/\A1 ED=iZ L i/\M=Cj L i/\U=ZJ L i),[(0,vL),(4,vP b4 0),(5,vP b5 0),(6,vP b6 0),(10,vP ap 0),(11,Z),(12,D),(13,C),(14,vI ↑i)],[.gs 22 1 C (A1 U) ai,.gs 43 9 D (A1 M) am,.gs 187 2 Z (A1 ED) ad,.var ap 32 cc,.var b6 32 bz,.var b5 41 ca,.var b4 41 cb],ma,A1 L-i)) (0,[],[],[],(.slice none 0 0),[],(.slice none 0 0),[],(.slice none 0 0),[],h3) ?_ ?_
 · exact⟨AM,iu,ir,iq,A3,I,I,I⟩
 rintro⟨i,ED,M,U,Z,ad,D,am,C,ai,ma⟩ ⟨yl,ip,ae,ak,so,ql,au,be⟩
 refine yO ?_;have su:=PL L i;have qf:=kf i so;have hIl:A1 U=i:=by rw[be];exact xN _ _
 rw[<-au] at su;refine Bj (λqk=>?_) λqk=>?_
 ·
  refine y7 ?_;refine yX 3 1 ?_;have io:=RL.nil (ρ:=A9) (h:=ma);refine An (ι:=Nat×List Tq×List Int×A2×List A2×A2×List A2×A4) (λ(q,B2,LN,H,av,an,bp,mb)=>(MLe ma mb/\(RL (AD (k+1)) mb av B2/\RL A9 mb bp LN/\q<=A1 (A0 L i [])/\B2=DM (Cj L i) (A0 L i []) q/\LN=IW (Cj L i) (A0 L i []) q),[(0,vL),(4,vP b4 0),(5,vP b5 0),(6,vP b6 0),(10,vP ap 0),(11,Z),(12,H),(13,C),(14,vI ↑i),(15,an),(16,vI ↑q)],[.gs 3 1 an (A1 LN) bp,.gs 22 1 C (A1 U) ai,.gs 43 9 H (A1 B2) av,.gs 187 2 Z (A1 ED) ad,.var ap 32 cc,.var b6 32 bz,.var b5 41 ca,.var b4 41 cb],mb,A1 (A0 L i [])-q)) (0,M,[],D,am,(.slice none 0 0),[],ma) ?_ ?_
  · exact⟨AM,ae,io,A3,by rw[au];rfl,I⟩
  rintro⟨q,B2,LN,H,av,an,bp,mb⟩ ⟨yk,aq,ce,zz,dm,gw⟩
  refine yO ?_;have sw:=QF (Cj L i) (A0 L i []) q;rw[<-dm,<-au] at sw;have sx:A1 LN=q:=by rw[gw];exact xN _ _
  have gj:=bu.2 i O;refine AZ ?_;refine lX (xI [] i underlying61 uN rL) λzk ri=>(lX (xA uN ri) λzj zr=>(Ca (λqj=>?_) λqj=>?_))
  ·
   refine y7 ?_;refine An (ι:=Nat×A4) (λ(j,mj)=>(MLe mb mj/\(j<=A1 B2),[(0,vL),(4,vP b4 0),(5,vP b5 0),(6,vP b6 0),(10,vP ap 0),(11,Z),(12,H),(13,C),(14,vI ↑i),(15,an),(16,vI ↑q),(17,vI (s9 B2 (A0 (A0 L i []) q zT) j)),(18,vI ↑j)],[.gs 3 1 an (A1 LN) bp,.gs 22 1 C (A1 U) ai,.gs 43 9 H (A1 B2) av,.gs 187 2 Z (A1 ED) ad,.var ap 32 cc,.var b6 32 bz,.var b5 41 ca,.var b4 41 cb],mj,A1 B2-j)) (0,mb) ?_ ?_
   · exact⟨AM,O⟩
   rintro⟨j,mj⟩ ⟨yh,qd⟩
   refine yO ?_;have hj1:=qd;have hfr:=PY B2 (A0 (A0 L i []) q zT) j;refine AR ?_;refine gv (qR C6 underlying28 I) I (B4 (λqi=>?_) λqi=>?_)
   ·
    refine AR ?_;refine zG 30 _ [] (Ah 0 13 ((13,.c)::Ah 14 14 [(28,.c),(29,.q)])) zX nX (xU Ac) nX (λr hr=>hr) (A5 ?_);refine B3 I (λh' L' hh hR=>(yG j (hR _ C6) underlying28 sizeOf43 I I I bO nP).cv (show _=zH 1 H ((j*9+0)) from AJ (zH 1 H) B5)) I (B3 I (λh' L' hh hR=>(rM (sz:=3) (q:=0) 0 (AO (AA _) zT j bO) I nP (aq.up.mono hh) (hR _ C6) underlying43 sizeOf41 I I I dC).cv (show _=zH 1 H ((j*9+0)) from AJ (zH 1 H) (by show(j*9+0)+0*3=(j*9+0);omega))) I (fL (F:=λv_=>(AE (k+1)).Is mj v_ ((A0 B2 j zT).x)) I (xO zU (AO (BL (AA _)) zT j bO) I nP I aq.up I) (gH C6) I ?_));intro zi rh;refine A5 ?_;refine wX I (xI [] i underlying61 uN rL) λzh rg=>(wX I (xA uN rg) λzg rf=>(A7 ?_));refine wX I (xI zT q underlying28 zI rf) λzf re=>(fL (F:=λv_=>C4 (AE k) mj v_ ((A0 (A0 L i []) q zT).x)) I (cI (q:=0) 0 underlying43 sizeOf41 (BL (AA _)) I I I re I dC I) rW I ?_);intro ze rd;refine wX I (xA zU rd) λzd rc=>?_;refine AB I (sC (AK I I) call56 (λw hs=>gZ hs rh rc O) λqt h4 bl rb=>?_);obtain rfl:qt=vB (((A0 B2 j zT).x)=((A0 (A0 L i []) q zT).x)):=rb;refine A7 ?_;refine qC (((A0 B2 j zT).x)=((A0 (A0 L i []) q zT).x)) (λck=>?_) (λck=>?_)
    ·
     rw[yU ck];refine yS I I I (λh' L' hh hR=>xK I) I (yS I I I (λh' L' hh hR=>xK I) I (yS I I I (λh' L' hh hR=>(yG j (hR _ C6) underlying28 sizeOf43 I I I bO nP).cv (show _=zH 1 H ((j*9+0)) from AJ (zH 1 H) B5)) I (yS I I I (λh' L' hh hR=>(rM (sz:=3) (q:=1) 1 (AO (AA _) zT j bO) I nP (aq.up.mono hh) (hR _ C6) underlying43 sizeOf41 I I I dC).cv (show _=zH 1 H ((j*9+3)) from AJ (zH 1 H) (by show(j*9+0)+1*3=(j*9+3);omega))) I (nY (F:=λv_=>(AE (k+1)).Is h4 v_ ((A0 B2 j zT).y)) I I I (xO zU (AO (BC (AA _)) zT j bO) I nP I aq.up I) (gH C6) I ?_))));intro zc ra;refine yS I I I (λh' L' hh hR=>xK I) I (yS I I I (λh' L' hh hR=>xK I) I (oX I (xI [] i underlying61 uN rL) λza qz=>(oX I (xA uN qz) λyz qy=>(yS I I I (λh' L' hh hR=>xK I) I (oX I (xI zT q underlying28 zI qy) λyy qx=>(nY (F:=λv_=>C4 (AE k) h4 v_ ((A0 (A0 L i []) q zT).y)) I I I (cI (q:=1) 1 underlying43 sizeOf41 (BC (AA _)) I I I qx I dC I) rW I ?_))))));intro yx qw;refine oX I (xA zU qw) λxj px=>?_;refine AB I (ES I I (sC (AK I I) call56 (λw hs=>gZ hs ra px O) λlv h5 ke pw=>?_));obtain rfl:lv=vB (((A0 B2 j zT).y)=((A0 (A0 L i []) q zT).y)):=pw;refine B4 (λcn=>?_) λcn=>?_
     ·
      refine uG ?_;refine Ad ((j+1),h5) ?_ ?_ (he:=⟨I,I,I,I,I,I,I,I,I,I,I,AJ (λz=>some (vI z)) (l4 ⟨Bl,cn⟩),I,AW⟩)
      · exact⟨AM,O⟩
      omega
     refine AX ?_;refine Ad ((j+1),h5) ?_ ?_ (he:=⟨I,I,I,I,I,I,I,I,I,I,I,AJ (λz=>some (vI z)) (Q7 (λe=>cn e.2)),I,AW⟩)
     · exact⟨AM,O⟩
     omega
    rw[yH ck];refine tQ ?_;refine AB I (bD I I I I (uF ?_));refine Ad ((j+1),h4) ?_ ?_ (he:=⟨I,I,I,I,I,I,I,I,I,I,I,AJ (λz=>some (vI z)) (Q7 (λe=>absurd e.1 Bl)),I,AW⟩)
    · exact⟨AM,O⟩
    omega
   refine Fj (λcm=>?_) λcm=>?_
   ·
    have ej:j=A1 B2:=by omega
    have bw:Fi B2 (A0 (A0 L i []) q zT)<0:=by unfold Fi;rw[<-ej];exact cm
    refine AN ?_;refine gv (qR C6 underlying28 I) I (Af ?_);refine lX (xI [] i underlying61 uN rL) λxi pv=>(lX (xA uN pv) λxh pu=>(A7 ?_));refine lX (xI zT q underlying28 zI pu) λxg pt=>(lX (xA zI pt) λxf pq=>(zE (zL (ρ:=(AD (k+1))) (m:=1) (xs:=[(A0 (A0 L i []) q zT)]) (ps':=[(0,_)]) underlying28 yA I I I (yN (zR O)) Al (zD I (AO (AA _) zT 0 dC) (pq.le (AI (k+1))) zO) Dm nP) I I I ?_))
    rintro xe ye ⟨ts,rfl,jl⟩
    refine zQ (A:=[]) (ρ:=(AD (k+1))) jl ?_;intro h4 bl id;refine yY (A:=[_,_]) (uD (zN (ρ:=(AD (k+1))) (bytes:=168) underlying28 yA I I I I nP I I aq.up id bO bO)) I I I ?_
    rintro lu yd ⟨si,lf,rfl,jk⟩
    refine AZ ?_;refine zE (zL (ρ:=A9) (m:=1) (xs:=[(↑(A1 B2):Int)]) (ps':=[(0,_)]) underlying22 kT I I I wT Al (zD I (AO (AA _) (0:Int) 0 dC) (vC O O) zO) CO nP) I I I ?_;intro lt qb jz;obtain⟨ld,rfl,ci⟩:=jz;refine zQ (A:=[]) (ρ:=A9) ci ?_;intro h5 ke ic;refine yY (A:=[]) (uD (zN (ρ:=A9) (bytes:=8) underlying22 kT I I I I nP I I ce.up ic bO bO)) I I I ?_;intro dy qa jy;obtain⟨kd,cw,rfl,ch⟩:=jy;refine Ak ?_;refine Ad ((q+1),(B2++[(A0 (A0 L i []) q zT)]),(LN++[(↑(A1 B2):Int)]),lu,lf,dy,cw,h5) ?_ ?_
    · exact⟨AM,jk.up,ch,A3,by rw[dm] at bw ⊢;exact(AC bw).symm,by rw[gw,show(↑(A1 B2):Int)=Ge (DM (Cj L i) (A0 L i []) q) (A0 (A0 L i []) q zT) from by rw[dm] at bw ⊢;exact(AC bw).symm];rfl⟩
    omega
   have ej:j=A1 B2:=by omega
   have bw:¬Fi B2 (A0 (A0 L i []) q zT)<0:=by unfold Fi;rw[<-ej];exact cm
   refine AR ?_;refine zE (zL (ρ:=A9) (m:=1) (xs:=[(s9 B2 (A0 (A0 L i []) q zT) j)]) (ps':=[(0,_)]) underlying22 kT I I I wT Al (zD I (AO (AA _) (0:Int) 0 dC) (vC O O) zO) CO nP) I I I ?_
   rintro lt qb ⟨ld,rfl,ci⟩
   refine zQ (A:=[]) (ρ:=A9) ci ?_;intro h4 bl ib;refine yY (A:=[]) (uD (zN (ρ:=A9) (bytes:=8) underlying22 kT I I I I nP I I ce.up ib bO bO)) I I I ?_
   rintro dy qa ⟨kd,cw,rfl,ch⟩
   refine Ak ?_;refine Ad ((q+1),B2,(LN++[(s9 B2 (A0 (A0 L i []) q zT) j)]),H,av,dy,cw,h4) ?_ ?_
   · exact⟨AM,aq.up,ch,A3,by rw[dm] at bw ⊢;exact(A8 bw).symm,by rw[gw,show s9 B2 (A0 (A0 L i []) q zT) j=Ge (DM (Cj L i) (A0 L i []) q) (A0 (A0 L i []) q zT) from by rw[ej,dm] at *;exact(A8 bw).symm];rfl⟩
   omega
  have ek:q=A1 (A0 L i []):=by omega
  refine Ak ?_;refine zQ (A:=[]) (ρ:=A9) ce.up ?_;intro h4 bl bj;refine zE (zL (ρ:=(AS A9)) (m:=1) (xs:=[LN]) (ps':=[(0,_)]) underlying51 sL I I I wC Al (zD I (AO (AA _) [] 0 dC) bj zO) CO nP) I I I ?_
  rintro xd yc ⟨tr,rfl,jj⟩
  refine zQ (A:=[]) (ρ:=(AS A9)) jj ?_;intro h5 ke ia;refine yY (A:=[]) (uD (zN (ρ:=(AS A9)) (bytes:=24) underlying51 sL I I I I nP I I ak.up ia bO bO)) I I I ?_
  rintro dx yb ⟨sf,fj,rfl,ji⟩
  refine Ak ?_;refine An (ι:=Nat×List (List Int)×A2×List A2×A4) (λ(e,E2,aw,bo,me)=>(MLe h5 me/\(RL (BO 2 A9) me bo E2/\e<=A1 LN/\A1 E2=iZ L i+e),[(0,vL),(4,vP b4 0),(5,vP b5 0),(6,vP b6 0),(10,vP ap 0),(11,aw),(12,H),(13,dx),(14,vI ↑i),(15,an),(19,vI ↑e)],[.gs 22 1 dx (A1 (U++[LN])) fj,.gs 43 9 H (A1 B2) av,.gs 187 2 aw (A1 E2) bo,.var ap 32 cc,.var b6 32 bz,.var b5 41 ca,.var b4 41 cb],me,A1 LN-e)) (0,ED,Z,ad,h5) ?_ ?_
  · exact⟨AM,ip.up,A3,ql⟩
  rintro⟨e,E2,aw,bo,me⟩ ⟨yj,ec,qg,ta⟩
  refine yO ?_;have gj:=bu.2 i O;refine Bj (λkl=>?_) λkl=>?_
  ·
   refine AF ?_;refine qM (A:=[_,_]) 17 [] (Ah 0 14 [(14,.c),(15,.c),(16,.q)]) zX nX (xU Ac) nX (AN ?_);refine wX I (xI (0:Int) e underlying22 B8 bj) λxc pp=>(wX I (xA B8 pp) λxb po=>?_);obtain⟨rfl,sn,rx⟩:=jV po;refine AF ?_;refine B3 I (λh' L' hh hR=>jK underlying22 I (bj.up.mono hh)) I (wK I (λ_ _=>wI I I O O) I (wX I (xI (0:Int) ((e+1)%A1 LN) underlying22 B8 bj (hi:=by exact BQ _ O)) λxa pn=>(wX I (xA B8 pn) λwz pm=>?_)));obtain⟨rfl,sm,rv⟩:=jV pm;refine wX I (xV (ρ:=(BO 2 A9)) (xD (ps':=[(0,_),(1,_)]) underlying187 j8 I I sizeOf3 BR I (lQ 2 wT) (zD I (AO (AA _) (0:Int) 0 dC) (vC O O) (zD I (AO (AA _) (0:Int) 1 dC) (vC O O) zO)))) λwy pk=>?_;refine AB I (tV (λX=>zL (ρ:=(BO 2 A9)) (m:=1) (xs:=[[(A0 LN e (0:Int)),(A0 LN ((e+1)%A1 LN) (0:Int))]]) (ps':=[(0,_)]) underlying186 j8 I I I (lQ 2 wT) Al (zD I (AO (AA _) (List.replicate 2 (0:Int)) 0 dC) pk zO) (show 1*2<=16777216 from by decide) nP) I ?_)
   rintro wx ya ⟨tq,rfl,jh⟩
   refine AB I (vX (A:=[]) (ρ:=(BO 2 A9)) jh dK ?_);intro h6 sp hw;refine kP (A:=[_,_]) (λX=>uD (zN (ρ:=(BO 2 A9)) (bytes:=16) underlying186 j8 I I I I nP I I ec.up hw bO bO)) I (yP BU) ?_
   rintro ls xz ⟨se,lc,rfl,jg⟩
   refine Ak ?_;refine Ad ((e+1),(E2++[[(A0 LN e (0:Int)),(A0 LN ((e+1)%A1 LN) (0:Int))]]),ls,lc,h6) ?_ ?_
   · exact⟨AM,jg,A3,by rw[BJ,ta];rfl⟩
   omega
  have sy:A1 E2=iZ L i+A1 LN:=by omega
  refine uG ?_;refine Ad ((i+1),E2,B2,(U++[LN]),aw,bo,H,av,dx,fj,me) ?_ ?_
  · exact⟨AM,ec.up,aq.up,ji.up,A3,by rw[sy,sx,ek];rfl,by rw[dm,ek];rfl,by rw[be,gw,ek];rfl⟩
  omega
 have ei:i=A1 L:=by omega
 have sq:=kf (A1 L) O;rw[ei] at ql au be;have hI1:A1 U=A1 L:=by rw[be];exact xN _ _
 have kp:∀i,i<A1 L->A1 (A0 U i [])=A1 (A0 L i []):=λi hi=>by rw[be];exact PE hi
 have er:∀i q,i<A1 L->q<A1 (A0 U i [])->0<=A0 (A0 U i []) q 0/\A0 (A0 U i []) q 0<↑(A1 M):=λi q hi hq=>by rw[be] at hq ⊢;rw[au];exact Xx hi hq
 refine AX ?_;refine gv (qR Ax underlying28 I) I (Af ?_);refine gv (gM (p:=2) I I O O) I (A7 ?_);refine gU 6 158 (vB (((512:Int)<((2:Int)*(↑(A1 M):Int)))\/((256:Int)<((↑(A1 ED):Int)+(2:Int))))) ?_ ?_
 ·
  refine zY ((512:Int)<((2:Int)*(↑(A1 M):Int))) (λhg=>?_) (λhg=>?_)
  ·
   refine gT hg I (AZ ?_);refine Ay ?_;exact AV (vN hg)
  refine gF hg I (AN ?_);refine gv (qR C6 underlying186 I) I (AZ ?_);refine Ay ?_;exact AV (vO hg)
 refine BB (λkk=>?_) λkk=>?_
 ·
  have ka:Gw L:=by unfold Gw;show 512<2*A1 (Cj L (A1 L))\/_;rw[<-au];omega
  refine A5 ?_;refine lX (xV (ρ:=(A6 (Aq 1) (A6 Az (AS (A6 A9 (A6 A9 (AE 1))))))) (xL (ps':=[]) underlying32 qS I I (pJ underlying32) trivial I (zW wC (zW fG wC)) zO)) λww pj=>(zP (A:=[_,_,_,_]) (uB sizeOf32 pH eg pj) λti js=>(AR ?_));obtain⟨e1,e2,e3⟩:=n1 ew (Br bx) dj ka;rw[e1,e2,e3];refine lM 53 14 ?_;have im:=RL.nil (ρ:=A6 (Aj (1000*k+1000*l1+1000*l2+2000) (1000*k+1000*l1+1000*l2+2000)) (A6 Cv wQ)) (h:=ma);refine xW (qV (t:=6) jG F8 I js) ?_;intro tt gk ie;refine kE (.cons_cons _ (E3 _)) (λE S=>qG I gk (gA I) E S) ?_;exact⟨_,_,_,I,(Rp.Is.le ie (Le.p (Le.s (AI (k+l1+l2+20))) (Le.p (Le.refl _) (Le.s (Le.p (Le.refl _) (Le.p (Le.refl _) (AL 5))))))),I,I,im⟩
 have ka:¬Gw L:=by unfold Gw;show ¬(512<2*A1 (Cj L (A1 L))\/_);rw[<-au];omega
 obtain⟨qh,qg,sr⟩:=Zb ew (Br bx) dj ka;refine Ak ?_;refine yX 43 9 ?_;have il:=RL.nil (ρ:=Bd (AE (k+l1+l2+5))) (h:=ma);refine An (ι:=Nat×List Tq×List A2×A2×List A2×A4) (λ(i,PP,bi,ba,cq,mp)=>(MLe ma mp/\((A6 Az (A6 Az (AS (A6 A9 (A6 A9 (AE 1)))))).R mp bi (ba,(A2.slice none 0 0,[]))/\RL (AD (k+l1+l2+5)) mp cq PP/\ba.oneCell'=true/\i<=2*A1 M/\PP=JR L lo hi i),[(4,vP b4 0),(5,vP b5 0),(6,vP b6 0),(10,vP ap 0),(12,D),(13,C),(20,vI (↑(A1 M):Int)),(21,vI ↑i)],[.gs 43 9 ba (A1 PP) cq,.gs 22 1 C (A1 U) ai,.gs 43 9 D (A1 M) am,.gs 187 2 Z (A1 ED) ad,.var ap 32 bi,.var b6 32 bz,.var b5 41 ca,.var b4 41 cb],mp,2*A1 M-i)) (0,[],cc,(.slice none 0 0),[],ma) ?_ ?_
 · exact⟨AM,ms.up,il,I,A3,I⟩
 rintro⟨i,PP,bi,ba,cq,mp⟩ ⟨yg,ab,cd,sc,BA,gu⟩
 refine yO ?_;have hPl:A1 PP=i:=by rw[gu];exact xN _ _
 refine AR ?_;refine gv (gM (p:=2) I I O O) I (B4 (λkj=>?_) λkj=>?_)
 ·
  refine AZ ?_;refine lX (xB zU pH jv) λwv pi=>(nA (ρ:=(AE 1)) (X:=(0:Rat)) yQ (zR dC) λb22 yu mo=>?_);have hp:=(AL (l1+1)).R mo;refine zP (A:=[]) (uB sizeOf41 pH hp (pi.le (AL (l1+1)))) λth ee=>(iY (λcl=>?_) λcl=>?_)
  ·
   refine A7 ?_;refine lX (xB zU pH ju) λwu ph=>?_;have ho:=(AL (l1+l2+1)).R ee;refine zP (A:=[]) (uB sizeOf41 pH ho (ph.le (AL (l1+l2+1)))) λtg jr=>(A5 ?_);refine qM (A:=[_]) 21 [] (Ah 0 18 [(18,.c),(19,.c),(20,.q),(21,.t)]) zX nX (xU Ac) nX (A7 ?_);refine wX I (sR (xB uN (AT pH) ab)) λlr ep=>?_;subst ep;refine AN ?_;refine wK I (λ_ _=>wI I I O O) I (B3 I (λh' L' hh hR=>(yG (i%A1 M) (hR _ C6) underlying28 sizeOf43 I I rP (by exact BQ _ O) nP).cv (show _=zH 1 D (((i%A1 M)*9+0)) from AJ (zH 1 D) B5)) I (B3 I (λh' L' hh hR=>(rM (sz:=3) (q:=0) 0 (AO (AA _) zT (i%A1 M) (by exact BQ _ O)) I nP (ae.up.mono hh) (hR _ C6) underlying43 sizeOf41 I I I dC).cv (show _=zH 1 D (((i%A1 M)*9+0)) from AJ (zH 1 D) (by show((i%A1 M)*9+0)+0*3=((i%A1 M)*9+0);omega))) I (fL (F:=λv_=>(AE (k+1)).Is mp v_ ((A0 M (i%A1 M) zT).x)) I (xO zU (AO (BL (AA _)) zT (i%A1 M) (by exact BQ _ O)) I nP I ae.up I) (gH C6) I ?_)));intro ln eo;refine AN ?_;refine wK I (λ_ _=>wI I I O O) I (B3 I (λh' L' hh hR=>(yG (i%A1 M) (hR _ C6) underlying28 sizeOf43 I I rP (by exact BQ _ O) nP).cv (show _=zH 1 D (((i%A1 M)*9+0)) from AJ (zH 1 D) B5)) I (B3 I (λh' L' hh hR=>(rM (sz:=3) (q:=1) 1 (AO (AA _) zT (i%A1 M) (by exact BQ _ O)) I nP (ae.up.mono hh) (hR _ C6) underlying43 sizeOf41 I I I dC).cv (show _=zH 1 D (((i%A1 M)*9+3)) from AJ (zH 1 D) (by show((i%A1 M)*9+0)+1*3=((i%A1 M)*9+3);omega))) I (fL (F:=λv_=>(AE (k+1)).Is mp v_ ((A0 M (i%A1 M) zT).y)) I (xO zU (AO (BC (AA _)) zT (i%A1 M) (by exact BQ _ O)) I nP I ae.up I) (gH C6) I ?_)));intro lm en;refine wX I (xB zU pH jr) λll em=>(wX I (xV (ρ:=(AD (k+l1+l2+1))) (xD (ps':=[(0,_),(1,_),(2,_)]) underlying43 yA I I sizeOf41 e6 I (yN (zR O)) (zD I (BL (AA _)) (eo.le (AL (k+l1+l2+1))) (zD I (BC (AA _)) (en.le (AL (k+l1+l2+1))) (zD I (Bi (AA _)) (em.le (AL (k+l1+l2+1))) zO))))) λlk el=>?_);refine AB I (tV (λX=>zL (ρ:=(AD (k+l1+l2+1))) (m:=1) (xs:=[(T3.mk ((A0 M (i%A1 M) zT).x) ((A0 M (i%A1 M) zT).y) hi)]) (ps':=[(0,_)]) underlying28 yA I I I (yN (zR O)) Al (zD I (AO (AA _) zT 0 dC) el zO) Dm nP) I ?_)
   rintro lj pz ⟨lb,rfl,cg⟩
   refine AB I (vX (A:=[]) (ρ:=(AD (k+l1+l2+1))) cg dK ?_);intro h4 bl hv;refine kP (A:=[_]) (λX=>uD (zN (ρ:=(AD (k+l1+l2+5))) (bytes:=168) underlying28 yA I I I I nP I I cd.up (hv.le (Le.s (AI (k+l1+l2+5)))) bO bO)) I (yP BU) ?_
   rintro dw py ⟨bd,cu,rfl,cf⟩
   refine A7 ?_;replace ab:=ab.mono bl;refine yD (A:=[_,_,_,_,_]) I (uB sizeOf28 (AT pH) ab (oH bd)) λky jq=>(AX ?_);refine yE (A:=[]) ?_;refine Ad ((i+1),(PP++[(T3.mk ((A0 M (i%A1 M) zT).x) ((A0 M (i%A1 M) zT).y) hi)]),ky,dw,cu,h4) ?_ ?_
   · exact⟨AM,jq,cf,bd,A3,by rw[gu,au];exact AJ (λz=>JR L lo hi i++[T3.mk _ _ z]) (AC (by have h9:=cl;rw[au] at h9;exact h9)).symm⟩
   omega
  refine A5 ?_;refine qM (A:=[_]) 21 [] (Ah 0 18 [(18,.c),(19,.c),(20,.q),(21,.t)]) zX nX (xU Ac) nX (A7 ?_);refine wX I (sR (xB uN (AT pH) ab)) λlr ep=>?_;subst ep;refine AN ?_;refine wK I (λ_ _=>wI I I O O) I (B3 I (λh' L' hh hR=>(yG (i%A1 M) (hR _ C6) underlying28 sizeOf43 I I rP (by exact BQ _ O) nP).cv (show _=zH 1 D (((i%A1 M)*9+0)) from AJ (zH 1 D) B5)) I (B3 I (λh' L' hh hR=>(rM (sz:=3) (q:=0) 0 (AO (AA _) zT (i%A1 M) (by exact BQ _ O)) I nP (ae.up.mono hh) (hR _ C6) underlying43 sizeOf41 I I I dC).cv (show _=zH 1 D (((i%A1 M)*9+0)) from AJ (zH 1 D) (by show((i%A1 M)*9+0)+0*3=((i%A1 M)*9+0);omega))) I (fL (F:=λv_=>(AE (k+1)).Is mp v_ ((A0 M (i%A1 M) zT).x)) I (xO zU (AO (BL (AA _)) zT (i%A1 M) (by exact BQ _ O)) I nP I ae.up I) (gH C6) I ?_)));intro ln eo;refine AN ?_;refine wK I (λ_ _=>wI I I O O) I (B3 I (λh' L' hh hR=>(yG (i%A1 M) (hR _ C6) underlying28 sizeOf43 I I rP (by exact BQ _ O) nP).cv (show _=zH 1 D (((i%A1 M)*9+0)) from AJ (zH 1 D) B5)) I (B3 I (λh' L' hh hR=>(rM (sz:=3) (q:=1) 1 (AO (AA _) zT (i%A1 M) (by exact BQ _ O)) I nP (ae.up.mono hh) (hR _ C6) underlying43 sizeOf41 I I I dC).cv (show _=zH 1 D (((i%A1 M)*9+3)) from AJ (zH 1 D) (by show((i%A1 M)*9+0)+1*3=((i%A1 M)*9+3);omega))) I (fL (F:=λv_=>(AE (k+1)).Is mp v_ ((A0 M (i%A1 M) zT).y)) I (xO zU (AO (BC (AA _)) zT (i%A1 M) (by exact BQ _ O)) I nP I ae.up I) (gH C6) I ?_)));intro lm en;refine wX I (xB zU pH ee) λll em=>(wX I (xV (ρ:=(AD (k+l1+1))) (xD (ps':=[(0,_),(1,_),(2,_)]) underlying43 yA I I sizeOf41 e6 I (yN (zR O)) (zD I (BL (AA _)) (eo.le (AL (k+l1+1))) (zD I (BC (AA _)) (en.le (AL (k+l1+1))) (zD I (Bi (AA _)) (em.le (AL (k+l1+1))) zO))))) λlk el=>?_);refine AB I (tV (λX=>zL (ρ:=(AD (k+l1+1))) (m:=1) (xs:=[(T3.mk ((A0 M (i%A1 M) zT).x) ((A0 M (i%A1 M) zT).y) lo)]) (ps':=[(0,_)]) underlying28 yA I I I (yN (zR O)) Al (zD I (AO (AA _) zT 0 dC) el zO) Dm nP) I ?_)
  rintro lj pz ⟨lb,rfl,cg⟩
  refine AB I (vX (A:=[]) (ρ:=(AD (k+l1+1))) cg dK ?_);intro h4 bl hu;refine kP (A:=[_]) (λX=>uD (zN (ρ:=(AD (k+l1+l2+5))) (bytes:=168) underlying28 yA I I I I nP I I cd.up (hu.le (Le.s (AI (k+l1+l2+5)))) bO bO)) I (yP BU) ?_
  rintro dw py ⟨bd,cu,rfl,cf⟩
  refine A7 ?_;replace ab:=ab.mono bl;refine yD (A:=[_,_,_,_,_]) I (uB sizeOf28 (AT pH) ab (oH bd)) λkx jp=>(AX ?_);refine yE (A:=[]) ?_;refine Ad ((i+1),(PP++[(T3.mk ((A0 M (i%A1 M) zT).x) ((A0 M (i%A1 M) zT).y) lo)]),kx,dw,cu,h4) ?_ ?_
  · exact⟨AM,jp,cf,bd,A3,by rw[gu,au];exact AJ (λz=>JR L lo hi i++[T3.mk _ _ z]) (A8 (by have h9:=cl;rw[au] at h9;exact h9)).symm⟩
  omega
 have fg:PP=F2 L lo hi:=by rw[gu,show i=2*A1 M by omega,au];rfl
 have yo:A1 PP=2*A1 M:=by rw[fg,au];exact QC
 refine Af ?_;refine zQ (A:=[]) (ρ:=(AD (k+l1+l2+5))) cd.up ?_;intro h4 bl ht;replace ab:=ab.mono bl;have jo:(A6 (Aq (k+l1+l2+5)) (A6 Az (AS (A6 A9 (A6 A9 (AE 1)))))).R h4 bi (PP,(ba,(A2.slice none 0 0,[])).2):=Me ab ht;refine cL (vs:=[vI (1)]) ⟨I,AW⟩ call41 (λw hs=>gN hs dC dC) λwt h5 ke pg=>(nA (ρ:=(AE 2)) (X:=(0:Rat)) yQ (zR dC) λlg yt mn=>(zP (A:=[]) (uB sizeOf41 pH mn pg) λcp ed=>(AN ?_)));refine zG 10 _ [(9,(24,53,[.bool false,.slice none 0 0,.slice none 0 0,.bool false,.slice none 0 0,.slice none 0 0,.bool false,.slice none 0 0,.slice none 0 0,.bool false,.slice none 0 0,.slice none 0 0,.slice none 0 0,.string ⟨#[]⟩]))] [(0,.q),(1,.q),(2,.q),(5,.q),(3,.c),(4,.q),(6,.c),(7,.q),(8,.q),(9,.a),(10,.t)] zX (uY.cons I I (vG jR I I) uY.nil) Ac (vH I I qT) (λr hr=>hr) (wX I (xV (ρ:=(AE 1)) (xL (ps':=[]) underlying41 yQ I I (vW underlying41) trivial I (zR dC) zO)) λws pf=>(wX I (xV (ρ:=(AE 1)) (xL (ps':=[]) underlying41 yQ I I (vW underlying41) trivial I (zR dC) zO)) λwq pe=>(wX I (xB zU pH ed) λwp pd=>(wX I (xB zU pH jv) λwl oy=>?_))));refine AB I (sC (AU I) call105 (λw hs=>eS hs pd dC) λwo h6 sp pc=>(wX I (xV (ρ:=(AD 2)) (xD (ps':=[(0,_),(1,_),(2,_)]) underlying43 yA I I sizeOf41 e6 I (yN (zR dC)) (zD I (BL (AA _)) (pf.up.le (AL 2)) (zD I (BC (AA _)) (pe.up.le (AL 2)) (zD I (Bi (AA _)) pc zO))))) λwm oz=>?_));refine AB I (sC (AU I) call105 (λw hs=>eS hs oy.up O) λwk h7 hh7 ox=>(wX I (xV (ρ:=(Aj 2 (l1+1))) (xL (ps':=[(0,_),(1,_)]) underlying45 uV I I (fP underlying45) BR I (zW (yN (zR dC)) (zR O)) (zD I (AT (AA _)) oz.up (zD I (AQ (AA _)) (ox.le (AL (l1+1))) zO)))) λwj ow=>(wX I (xV (ρ:=(A6 (Aj 2 (l1+1)) (A6 Az wQ))) (xL (ps':=[(0,_),(2,_)]) underlying53 jR I I (aC underlying53) BR I (zW (zW (yN (zR dC)) (zR O)) (zW fG jQ)) (zD I (AT (AA _)) ow (zD I (AQ (AQ (AA _))) (fV (show BK [98,111,116,116,111,109] by unfold BK;decide)) zO)))) λwi ou=>?_)));refine CA I I (λdp=>?_);have mm:(A6 (Aj 1 1) (A6 Az wQ)).R h7 [.bool false,.slice none 0 0,.slice none 0 0,.bool false,.slice none 0 0,.slice none 0 0,.bool false,.slice none 0 0,.slice none 0 0,.bool false,.slice none 0 0,.slice none 0 0,.slice none 0 0,.string ⟨#[]⟩] ((zT,(0:Rat)),((A2.slice none 0 0),([]:List Nat))):=(zW (zW (yN (zR dC)) (zR dC)) (zW fG jQ));have hn:=(Le.p (Le.p (AI 2) (AL (l1+1))) (Le.refl _)).R mm;refine yD (A:=[]) I (uB sizeOf53 pH hn ou) λkw jn=>(AF ?_);refine lX (xV (ρ:=(AE 1)) (xL (ps':=[]) underlying41 yQ I I (vW underlying41) trivial I (zR dC) zO)) λwh ot=>(lX (xV (ρ:=(AE 1)) (xL (ps':=[]) underlying41 yQ I I (vW underlying41) trivial I (zR dC) zO)) λwg os=>(lX (xB zU pH ed) λwf or=>(lX (xV (ρ:=(AD 2)) (xD (ps':=[(0,_),(1,_),(2,_)]) underlying43 yA I I sizeOf41 e6 I (yN (zR dC)) (zD I (BL (AA _)) (ot.le (AL 2)) (zD I (BC (AA _)) (os.le (AL 2)) (zD I (Bi (AA _)) or zO))))) λwe oq=>(lX (xB zU pH ju) λwd oo=>(lX (xV (ρ:=(Aj 2 (l2+1))) (xL (ps':=[(0,_),(1,_)]) underlying45 uV I I (fP underlying45) BR I (zW (yN (zR dC)) (zR O)) (zD I (AT (AA _)) oq (zD I (AQ (AA _)) (oo.le (AL (l2+1))) zO)))) λwc on=>(lX (xV (ρ:=(A6 (Aj 2 (l2+1)) (A6 Az wQ))) (xL (ps':=[(0,_),(2,_)]) underlying53 jR I I (aC underlying53) BR I (zW (zW (yN (zR dC)) (zR O)) (zW fG jQ)) (zD I (AT (AA _)) on (zD I (AQ (AQ (AA _))) (fV (show BK [116,111,112] by unfold BK;decide)) zO)))) λwb om=>(nA (ρ:=(A6 (Aj 1 1) (A6 Az wQ))) (X:=((zT,(0:Rat)),((A2.slice none 0 0),([]:List Nat)))) jR (zW (zW (yN (zR dC)) (zR dC)) (zW fG jQ)) λdn ys ml=>?_)))))));have hm:=(Le.p (Le.p (AI 2) (AL (l2+1))) (Le.refl _)).R ml
 refine zP (A:=[]) (uB sizeOf53 pH hm om) λkv jm=>(Ak ?_);refine yX 53 14 ?_;have ik:=RL.nil (ρ:=A6 (Aj (4*k+4*l1+4*l2+40) (100*k+100*l1+100*l2+1000)) (A6 Cv wQ)) (h:=h7);refine yX 22 1 ?_;have ij:=RL.nil (ρ:=AS A9) (h:=h7);refine yX 22 1 ?_;have ii:=RL.nil (ρ:=AS A9) (h:=h7);refine An (ι:=Nat×List Fc×List (List Int)×List (List Int)×List A2×List A2×List A2×A2×List A2×A2×List A2×A2×List A2×A4) (λ(i,F0,C0,T0,bh,bn,bg,aj,bf,ac,co,aa,bm,mq)=>(MLe h7 mq/\((A6 (Aq (k+l1+l2+5)) (A6 Az (AS (A6 A9 (A6 A9 (AE 1)))))).R mq bh (PP,(aj,([]:List En)))/\(A6 (Aj 5 (l1+l2+5)) (A6 Az wQ)).R mq bn ((T3.mk (0:Rat) (0:Rat) (-((1:Int):Rat)),-lo),(ac,[98,111,116,116,111,109]))/\(A6 (Aj 5 (l1+l2+5)) (A6 Az wQ)).R mq bg ((T3.mk (0:Rat) (0:Rat) ((1:Int):Rat),hi),(aa,[116,111,112]))/\RL (BP (4*k+4*l1+4*l2+40) (100*k+100*l1+100*l2+1000)) mq bf F0/\aj.oneCell'=true/\RL (AS A9) mq co C0/\ac.oneCell'=true/\RL (AS A9) mq bm T0/\aa.oneCell'=true/\i<=A1 U/\C0=LD L i/\T0=LO L i/\F0=Ho L lo hi i),[(6,vP b6 0),(10,vP ap 0),(13,C),(20,vI (↑(A1 M):Int)),(24,vP dp 0),(25,vP dn 0),(26,vI ↑i)],[.gs 22 1 aa (A1 T0) bm,.gs 22 1 ac (A1 C0) co,.gs 53 14 aj (A1 F0) bf,.var dn 53 bg,.var dp 53 bn,.var lg 41 cp,.gs 22 1 C (A1 U) ai,.gs 43 9 D (A1 M) am,.gs 187 2 Z (A1 ED) ad,.var ap 32 bh,.var b6 32 bz,.var b5 41 ca,.var b4 41 cb],mq,A1 U-i)) (0,[],[],[],bi,kw,kv,(.slice none 0 0),[],(.slice none 0 0),[],(.slice none 0 0),[],h7) ?_ ?_
 · exact⟨AM,jo.up,((Le.p (Le.p (AI 5) (AL (l1+l2+5))) (Le.refl _)).R jn),((Le.p (Le.p (AI 5) (AL (l1+l2+5))) (Le.refl _)).R jm),ik,I,ij,I,ii,I,A3,I,I,I⟩
 rintro⟨i,F0,C0,T0,bh,bn,bg,aj,bf,ac,co,aa,bm,mq⟩ ⟨yf,cj,ar,ah,eb,kb,ea,sb,dz,qn,hi3,gy,gt,gx⟩
 refine yO ?_;have hCl:A1 C0=i:=by rw[gy];exact xN _ _
 have hTl:A1 T0=i:=by rw[gt];exact xN _ _
 have hFl:A1 F0=iZ L i:=by rw[gx];exact YA O
 have qf:=kf i O;refine AR ?_;refine gv (qR Ew underlying51 I) I (B4 (λki=>?_) λki=>?_)
 ·
  have hd:=kp i O;have gj:=bu.2 i O;refine AR ?_;refine qM (A:=[_]) 10 [] (Ah 0 6 [(6,.c),(7,.c),(8,.c),(9,.q),(10,.t)]) zX nX Ac nX (A7 ?_);refine wX I (sR (xB cM (AQ (AT pH)) ar)) λwa ol=>?_;subst ol;refine A5 ?_;refine B3 I (λh' L' hh hR=>(yG i (hR _ F8) underlying51 sizeOf22 I I I bO nP).cv (show _=zH 1 C ((i*1+0)) from AJ (zH 1 C) B5)) I (fL (F:=λv_=>(AS A9).Is mq v_ (A0 U i [])) I (xO fH (AO (AA _) [] i bO) I nP I ak.up I) (gH F8) I ?_);intro vz ok;refine AB I (sC (AU I) call49 (λw hs=>Vl hs ok O) λvy h8 ey oj=>?_);refine AB I (tV (λX=>zL (ρ:=(AS A9)) (m:=1) (xs:=[Ev (A0 U i []) (A1 (A0 U i []))]) (ps':=[(0,_)]) underlying51 sL I I I wC Al (zD I (AO (AA _) [] 0 dC) oj zO) CO nP) I ?_)
  rintro vx xy ⟨tp,rfl,jf⟩
  refine AB I (vX (A:=[]) (ρ:=(AS A9)) jf dK ?_);intro h9 gr fx;refine kP (A:=[_]) (λX=>uD (zN (ρ:=(AS A9)) (bytes:=24) underlying51 sL I I I I nP I I ea.up fx bO bO)) I (yP BU) ?_
  rintro dv xx ⟨ev,ct,rfl,je⟩
  refine A7 ?_;replace ar:=ar.mono (ey.trans gr);refine yD (A:=[_,_,_,_]) I (uB sizeOf51 (AQ (AT pH)) ar (oH ev)) λbr gi=>(fJ ?_);refine yX 3 1 ?_;have fz:=RL.nil (ρ:=A9) (h:=h9);refine An (ι:=Nat×List Int×A2×List A2×A4) (λ(q,TL,bb,bq,mr)=>(MLe h9 mr/\(RL A9 mr bq TL/\q<=A1 (A0 U i [])/\TL=Nl L i q),[(6,vP b6 0),(10,vP ap 0),(13,C),(20,vI (↑(A1 M):Int)),(24,vP dp 0),(25,vP dn 0),(26,vI ↑i),(27,bb),(28,vI ↑q)],[.gs 3 1 bb (A1 TL) bq,.gs 22 1 aa (A1 T0) bm,.gs 22 1 dv (A1 (C0++[Ev (A0 U i []) (A1 (A0 U i []))])) ct,.gs 53 14 aj (A1 F0) bf,.var dn 53 bg,.var dp 53 br,.var lg 41 cp,.gs 22 1 C (A1 U) ai,.gs 43 9 D (A1 M) am,.gs 187 2 Z (A1 ED) ad,.var ap 32 bh,.var b6 32 bz,.var b5 41 ca,.var b4 41 cb],mr,A1 (A0 U i [])-q)) (0,[],(.slice none 0 0),[],h9) ?_ ?_
  · exact⟨AM,fz,A3,I⟩
  rintro⟨q,TL,bb,bq,mr⟩ ⟨qc,de,zy,ko⟩
  refine yO ?_;have yn:A1 TL=q:=by rw[ko];exact xN _ _
  have hd:=kp i O;have gj:=bu.2 i O;refine AZ ?_;refine gv ((yG i H9 underlying51 sizeOf22 I I I bO nP).cv (show _=zH 1 C ((i*1+0)) from AJ (zH 1 C) B5)) I (nT (F:=λv_=>(AS A9).Is mr v_ (A0 U i [])) (xO fH (AO (AA _) [] i bO) I nP I ak.up I) (gH H9) I ?_);intro vw xn;refine Ca (λkh=>?_) λkh=>?_
  ·
   have ry:=er i q O O;refine AX ?_;refine gv ((yG i H9 underlying51 sizeOf22 I I I bO nP).cv (show _=zH 1 C ((i*1+0)) from AJ (zH 1 C) B5)) I (nT (F:=λv_=>(AS A9).Is mr v_ (A0 U i [])) (xO fH (AO (AA _) [] i bO) I nP I ak.up I) (gH H9) I ?_);intro vv oi;refine A7 ?_;refine lX (xI (0:Int) q underlying22 B8 oi) λvu oh=>(lX (xA B8 oh) λvt og=>?_);obtain⟨rfl,sl,ru⟩:=jV og;refine A7 ?_;refine gv (yF I I (by(have:=er i q O O;omega)) (by(have:=er i q O O;omega))) I (zE (zL (ρ:=A9) (m:=1) (xs:=[((A0 (A0 U i []) q (0:Int))+(↑(A1 M):Int))]) (ps':=[(0,_)]) underlying22 kT I I I wT Al (zD I (AO (AA _) (0:Int) 0 dC) (vC O O) zO) CO nP) I I I ?_)
   rintro vq xw ⟨to,rfl,jd⟩
   refine zQ (A:=[]) (ρ:=A9) jd ?_;intro ku fd fw;refine yY (A:=[]) (uD (zN (ρ:=A9) (bytes:=8) underlying22 kT I I I I nP I I de.up fw bO bO)) I I I ?_
   rintro li xv ⟨sd,la,rfl,jc⟩
   refine Ak ?_;refine Ad ((q+1),(TL++[((A0 (A0 U i []) q (0:Int))+(↑(A1 M):Int))]),li,la,ku) ?_ ?_
   · exact⟨AM,jc,A3,by rw[ko,be,au];rfl⟩
   omega
  have ek:q=A1 (A0 U i []):=by omega
  refine AX ?_;replace ah:=ah.mono ((ey.trans gr).trans qc);refine lX (sR (xB cM (AQ (AT pH)) ah)) λvp oe=>?_;subst oe;refine A7 ?_;refine zQ (A:=[]) (ρ:=A9) de.up ?_;intro ku fd fv;refine zE (zL (ρ:=(AS A9)) (m:=1) (xs:=[TL]) (ps':=[(0,_)]) underlying51 sL I I I wC Al (zD I (AO (AA _) [] 0 dC) fv zO) CO nP) I I I ?_
  rintro vo xu ⟨tn,rfl,jb⟩
  refine zQ (A:=[]) (ρ:=(AS A9)) jb ?_;intro fh fc fu;refine yY (A:=[]) (uD (zN (ρ:=(AS A9)) (bytes:=24) underlying51 sL I I I I nP I I dz.up fu bO bO)) I I I ?_
  rintro hc xt ⟨eu,fi,rfl,ja⟩
  refine A7 ?_;replace ah:=ah.mono (fd.trans fc);refine zP (A:=[_,_,_]) (uB sizeOf51 (AQ (AT pH)) ah (oH eu)) λdl gh=>(AX ?_);refine An (ι:=Nat×List Fc×List A2×A2×List A2×A4) (λ(q,F1,az,J,ay,mf)=>(MLe fh mf/\((A6 (Aq (k+l1+l2+5)) (A6 Az (AS (A6 A9 (A6 A9 (AE 1)))))).R mf az (PP,(J,([]:List En)))/\RL (BP (4*k+4*l1+4*l2+40) (100*k+100*l1+100*l2+1000)) mf ay F1/\J.oneCell'=true/\q<=A1 (A0 U i [])/\F1=Ho L lo hi i++KE L lo hi i q),[(6,vP b6 0),(10,vP ap 0),(13,C),(20,vI (↑(A1 M):Int)),(24,vP dp 0),(25,vP dn 0),(26,vI ↑i),(29,vI ↑q)],[.gs 22 1 hc (A1 (T0++[TL])) fi,.gs 22 1 dv (A1 (C0++[Ev (A0 U i []) (A1 (A0 U i []))])) ct,.gs 53 14 J (A1 F1) ay,.var dn 53 dl,.var dp 53 br,.var lg 41 cp,.gs 22 1 C (A1 U) ai,.gs 43 9 D (A1 M) am,.gs 187 2 Z (A1 ED) ad,.var ap 32 az,.var b6 32 bz,.var b5 41 ca,.var b4 41 cb],mf,A1 (A0 U i [])-q)) (0,F0,bh,aj,bf,fh) ?_ ?_
  · exact⟨AM,cj.up,eb.up,kb,A3,by rw[gx];exact(Ce _).symm⟩
  rintro⟨q,F1,az,J,ay,mf⟩ ⟨yi,ao,dd,gq,zx,kq⟩
  refine yO ?_;have yp:A1 F1=iZ L i+q:=by rw[kq,BJ,YA O];exact AJ _ (xN _ _)
  have hd:=kp i O;have gj:=bu.2 i O;have zt:=cR (((i:Int):Int):Rat);have zs:=cR (((q:Int):Int):Rat);have zw:=mP (i:Int) O O;have zv:=mP (q:Int) O O;refine AZ ?_;refine gv ((yG i Ew underlying51 sizeOf22 I I I bO nP).cv (show _=zH 1 C ((i*1+0)) from AJ (zH 1 C) B5)) I (nT (F:=λv_=>(AS A9).Is mf v_ (A0 U i [])) (xO fH (AO (AA _) [] i bO) I nP I ak.up I) (gH Ew) I ?_);intro vn xm;refine Ca (λkg=>?_) λkg=>?_
  ·
   have ry:=er i q O O;have zu:=er i ((q+1)%A1 (A0 U i [])) O (BQ _ O);refine AR ?_;refine zG 23 _ [] (Ah 0 23 []) zX nX (xU Ac) nX (λr hr=>hr) (A5 ?_);refine B3 I (λh' L' hh hR=>(yG i (hR _ Ew) underlying51 sizeOf22 I I I bO nP).cv (show _=zH 1 C ((i*1+0)) from AJ (zH 1 C) B5)) I (fL (F:=λv_=>(AS A9).Is mf v_ (A0 U i [])) I (xO fH (AO (AA _) [] i bO) I nP I ak.up I) (gH Ew) I ?_);intro vm od;refine A7 ?_;refine wX I (xI (0:Int) q underlying22 B8 od) λvl oc=>(wX I (xA B8 oc) λvk ob=>?_);obtain⟨rfl,sk,rt⟩:=jV ob;refine A5 ?_;refine B3 I (λh' L' hh hR=>(yG i (hR _ Ew) underlying51 sizeOf22 I I I bO nP).cv (show _=zH 1 C ((i*1+0)) from AJ (zH 1 C) B5)) I (fL (F:=λv_=>(AS A9).Is mf v_ (A0 U i [])) I (xO fH (AO (AA _) [] i bO) I nP I ak.up I) (gH Ew) I ?_);intro vj oa;refine AF ?_;refine B3 I (λh' L' hh hR=>(yG i (hR _ Ew) underlying51 sizeOf22 I I I bO nP).cv (show _=zH 1 C ((i*1+0)) from AJ (zH 1 C) B5)) I (fL (F:=λv_=>(AS A9).Is mf v_ (A0 U i [])) I (xO fH (AO (AA _) [] i bO) I nP I ak.up I) (gH Ew) I ?_);intro vi nz;refine B3 I (λh' L' hh hR=>jK underlying22 I (nz.mono hh)) I (wK I (λ_ _=>wI I I O O) I (wX I (xI (0:Int) ((q+1)%A1 (A0 U i [])) underlying22 B8 oa (hi:=by exact BQ _ O)) λvh ny=>(wX I (xA B8 ny) λvg nw=>?_)));obtain⟨rfl,sj,rs⟩:=jV nw;refine AR ?_;refine zG 12 _ [(11,(32,43,Em))] (Ah 0 10 [(10,.c),(11,.a),(12,.t)]) zX (uY.cons I I (vG yA I I) uY.nil) (xU Ac) (vH I I qT) (λr hr=>hr) (A7 ?_);refine wX I (xB uN (AT pH) ao) λvf nv=>(A7 ?_);refine wX I (xI zT ((A0 (A0 U i []) ((q+1)%A1 (A0 U i [])) 0).toNat) underlying28 zI nv (hi:=by(show _<A1 PP;omega))) λve nu=>(wX I (xA zI nu) λvd nt=>(A7 ?_));refine wX I (xB uN (AT pH) ao) λvc ns=>(A7 ?_);refine wX I (xI zT ((A0 (A0 U i []) q 0).toNat) underlying28 zI ns (hi:=by(show _<A1 PP;omega))) λvb nr=>(wX I (xA zI nr) λva nq=>?_);refine AB I (sC (AK I I) call76 (λw hs=>VK hs nt nq O) λuy ks qe eh=>?_);replace eh:=Rp.Is.le eh (AI (4*k+4*l1+4*l2+23));refine CA I I (λb32=>?_);have mi:(AD 1).R ks Em zT:=(yN (zR dC));have fm:=(AI (4*k+4*l1+4*l2+23)).R mi;refine yD (A:=[]) I (uB sizeOf43 pH fm eh) λqq dh=>(AN ?_);refine zG 8 _ [(7,(33,43,Em))] (Ah 0 4 [(5,.q),(4,.c),(6,.q),(7,.a),(8,.t)]) zX (uY.cons I I (vG yA I I) uY.nil) Ac (vH I I qT) (λr hr=>hr) (A7 ?_);refine wX I (xB zU (BC pH) dh) λux np=>(A7 ?_);refine wX I (xB zU (BL pH) dh) λuw no=>(wX I (xV (ρ:=(AE 1)) (xL (ps':=[]) underlying41 yQ I I (vW underlying41) trivial I (zR dC) zO)) λut nm=>?_);refine AB I (sC (AU I) call105 (λw hs=>eS hs no O) λuv te ym nn=>(wX I (xV (ρ:=(AD (4*k+4*l1+4*l2+23))) (xD (ps':=[(0,_),(1,_),(2,_)]) underlying43 yA I I sizeOf41 e6 I (yN (zR O)) (zD I (BL (AA _)) np.up (zD I (BC (AA _)) nn (zD I (Bi (AA _)) (nm.up.le (AL (4*k+4*l1+4*l2+23))) zO))))) λur nl=>?_));refine CA I I (λb33=>?_);have mh:(AD 1).R te Em zT:=(yN (zR dC))
   have fl:=(AI (4*k+4*l1+4*l2+23)).R mh;refine yD (A:=[]) I (uB sizeOf43 pH fl nl) λqp df=>(A5 ?_);refine qM (A:=[_,_,_,_]) 32 [] (Ah 0 9 (Ah 11 8 [(21,.q),(25,.q),(0,.x [10,23,24,27] [9,10,22,23,24,26,27] [19,20]),(28,.c),(29,.c),(30,.c),(31,.q),(32,.t)])) zX nX Ac nX (A7 ?_);refine wX I (sR (xB kO (AQ (AT pH)) ao)) λuq nk=>?_;subst nk;refine wX I (xB zI pH df) λuo nj=>(wX I (xB zI pH df) λun ni=>(A7 ?_));refine wX I (xB uN (AT pH) ao) λum nh=>(A7 ?_);refine wX I (xI zT ((A0 (A0 U i []) q 0).toNat) underlying28 zI nh (hi:=by(show _<A1 PP;omega))) λul ng=>(wX I (xA zI ng) λuk nf=>(vV ?_));refine Pz [309,310,322,323,324,326,327] [319,320] (λp_ g_=>∃db da du hb dt dr dq,p_=[(327,dq),(326,dr),(324,dt),(323,hb),(322,du),(310,da),(309,db)]/\(AE (15*k+15*l1+15*l2+93)).Is g_ db (wL (nU PP J (A0 U i []) q) (pU PP J (A0 (A0 U i []) q 0)))/\(Aj (4*k+4*l1+4*l2+23) (15*k+15*l1+15*l2+93)).Is g_ da ((nU PP J (A0 U i []) q),wL (nU PP J (A0 U i []) q) (pU PP J (A0 (A0 U i []) q 0)))/\wQ.Is g_ dt ((([115]:List Nat)++(qF (((↑i:Int):Int):Rat)))++([46]:List Nat))/\wQ.Is g_ dq (((([115]:List Nat)++(qF (((↑i:Int):Int):Rat)))++([46]:List Nat))++(qF (((↑q:Int):Int):Rat)))) (λp_ g_=>∃cz cy,p_=[(320,cy),(319,cz)]/\(AS A9).Is g_ cz (lU (A0 U i []) q M)/\Cv.Is g_ cy [(lU (A0 U i []) q M)]) Ac Ac I I ?_ ?_ ?_
   ·
    refine GD I I λqm hj=>(sC (AK I I) call93 (λw hs=>dY hs ni.up nf.up O) λdb kr di bc=>?_);replace bc:=Rp.Is.le bc (AL (15*k+15*l1+15*l2+93));refine⟨I,di,_,_,I,I,?_⟩;refine Ld I (xX I (xV (ρ:=(Aj (4*k+4*l1+4*l2+23) (15*k+15*l1+15*l2+93))) (xL (ps':=[(0,_),(1,_)]) underlying45 uV I I (fP underlying45) BR I (zW (yN (zR O)) (zR O)) (zD I (AT (AA _)) nj.up (zD I (AQ (AA _)) bc zO)))) λda bt=>?_);refine⟨_,_,I,I,?_⟩;refine GD I I λtd fb=>(sC (AU I) call114 (λw hs=>dZ hs O O) λdu tc bv nd=>?_);obtain⟨rfl,ff⟩:=tJ nd;refine⟨I,bv,_,_,I,I,?_⟩;refine Ld I (MP I (λ_ _=>jL (pa:=([115]:List Nat)) (pb:=(qF (((↑i:Int):Int):Rat))) I I DS) I ?_);refine⟨_,_,I,I,?_⟩;refine Ld I (MP I (λ_ _=>jL (pa:=(([115]:List Nat)++(qF (((↑i:Int):Int):Rat)))) (pb:=([46]:List Nat)) I I DS) I ?_);refine⟨_,_,I,I,?_⟩;refine GD I I λtb fa=>(sC (AU I) call114 (λw hs=>dZ hs O O) λdr h19 ez nb=>?_);obtain⟨rfl,kn⟩:=tJ nb;refine⟨I,ez,_,_,I,I,?_⟩;refine Ld I (MP I (λ_ _=>jL (pa:=((([115]:List Nat)++(qF (((↑i:Int):Int):Rat)))++([46]:List Nat))) (pb:=(qF (((↑q:Int):Int):Rat))) I I DS) I ?_);refine⟨_,_,I,I,?_⟩;intro h20 hf;replace bc:=bc.mono ((((fb.trans bv).trans fa).trans ez).trans hf);replace bt:=bt.mono ((((fb.trans bv).trans fa).trans ez).trans hf);exact⟨_,_,_,_,_,_,_,I,bc,bt,(fV (((show BK [115] by unfold BK;decide).app ff).app (show BK [46] by unfold BK;decide))),(fV ((((show BK [115] by unfold BK;decide).app ff).app (show BK [46] by unfold BK;decide)).app kn))⟩
   ·
    refine GD I I λqm hj=>(Ka (λX=>zL (ρ:=A9) (m:=4) (xs:=(lU (A0 U i []) q M)) (ps':=[(0,_),(1,_),(2,_),(3,_)]) underlying22 kT I I I wT e8 (zD I (AO (AA _) (0:Int) 0 dC) (vC O O) (zD I (AO (AA _) (0:Int) 1 dC) (vC O O) (zD I (AO (AA _) (0:Int) 2 dC) (vC O O) (zD I (AO (AA _) (0:Int) 3 dC) (vC O O) zO)))) (show 4*1<=16777216 from by decide) nP) I ?_);intro cz kr di dc;refine⟨I,di,_,_,I,I,?_⟩;refine GD I I λtd fb=>(Ka (λX=>zL (ρ:=(AS A9)) (m:=1) (xs:=[(lU (A0 U i []) q M)]) (ps':=[(0,_)]) underlying51 sL I I I wC Al (zD I (AO (AA _) [] 0 dC) dc.up zO) CO nP) I ?_);intro cy tc bv ft;refine⟨I,bv,_,_,I,I,?_⟩;intro tb fa;exact⟨_,_,I,dc.up,ft.up⟩
   rintro _ _ qm hj ⟨db,da,du,hb,dt,dr,dq,rfl,bc,bt,nc,na⟩ ⟨cz,cy,rfl,xk,ne⟩
   obtain⟨rfl,sv⟩:=tJ nc;obtain⟨rfl,km⟩:=tJ na;refine AB I (sX (xV (ρ:=(BP (4*k+4*l1+4*l2+23) (15*k+15*l1+15*l2+93))) (xL (ps':=[(0,_),(1,_),(2,_)]) underlying53 jR I I (aC underlying53) e6 I (zW (zW (yN (zR O)) (zR O)) (zW wC jQ)) (zD I (AT (AA _)) bt (zD I (AQ (AT (AA _))) ne (zD I (AQ (AQ (AA _))) (fV km) zO))))) λuj mz=>?_);refine AB I (tV (λX=>zL (ρ:=(BP (4*k+4*l1+4*l2+23) (15*k+15*l1+15*l2+93))) (m:=1) (xs:=[(((nU PP J (A0 U i []) q),wL (nU PP J (A0 U i []) q) (pU PP J (A0 (A0 U i []) q 0))),([(lU (A0 U i []) q M)],(((([115]:List Nat)++(qF (((↑i:Int):Int):Rat)))++([46]:List Nat))++(qF (((↑q:Int):Int):Rat)))))]) (ps':=[(0,_)]) underlying29 jR I I I (zW (zW (yN (zR O)) (zR O)) (zW wC jQ)) Al (zD I (AO (AA _) zA 0 dC) mz zO) IY nP) I ?_)
   rintro ui xr ⟨tm,rfl,iz⟩
   refine AB I (vX (A:=[]) (ρ:=(BP (4*k+4*l1+4*l2+23) (15*k+15*l1+15*l2+93))) iz dK ?_);intro kr di fs;refine kP (A:=[_,_,_,_]) (λX=>uD (zN (ρ:=(BP (4*k+4*l1+4*l2+40) (100*k+100*l1+100*l2+1000))) (bytes:=264) underlying29 jR I I I I nP I I dd.up (fs.le (Le.s (Le.p (Le.p (AI (4*k+4*l1+4*l2+40)) (AL (100*k+100*l1+100*l2+1000))) (Le.refl _)))) bO bO)) I (yP BU) ?_
   rintro lh xq ⟨es,kz,rfl,iy⟩
   refine A7 ?_;refine yD (A:=[_,_,_,_,_,_,_,_,_,_,_]) I (uB sizeOf29 (AQ (AT pH)) ao (oH es)) λha gg=>(AX ?_);refine yE (A:=[]) (yE (A:=[]) ?_);refine Ad ((q+1),(F1++[(((nU PP J (A0 U i []) q),wL (nU PP J (A0 U i []) q) (pU PP J (A0 (A0 U i []) q 0))),([(lU (A0 U i []) q M)],(((([115]:List Nat)++(qF (((↑i:Int):Int):Rat)))++([46]:List Nat))++(qF (((↑q:Int):Int):Rat)))))]),ha,lh,kz,kr) ?_ ?_
   · exact⟨AM,gg,iy,es,A3,by rw[kq,fg,be,au,Ck];rfl⟩
   omega
  have ef:q=A1 (A0 U i []):=by omega
  refine uG ?_;refine Ad ((i+1),F1,(C0++[Ev (A0 U i []) (A1 (A0 U i []))]),(T0++[TL]),az,br,dl,J,ay,dv,ct,hc,fi,mf) ?_ ?_
  · exact⟨AM,ao.up,gi.up,gh.up,dd.up,gq,je.up,ev,ja.up,eu,A3,by rw[gy,be];rfl,by rw[gt,ko,ek,be];rfl,by rw[kq,ef,be];rfl⟩
  omega
 have tf:i=A1 (Cd L):=by rw[v0];omega
 rw[tf] at gy gt gx;refine AX ?_;refine lX (sR (xB kO (AQ (AT pH)) cj)) λuh my=>?_;subst my;refine zQ (A:=[_]) (ρ:=(AS A9)) ea.up ?_;intro h8 ey fr;replace ar:=ar.mono ey;have gf:(BP 5 (l1+l2+5)).R h8 bn (((T3.mk (0:Rat) (0:Rat) (-((1:Int):Rat)),-lo),(ac,[98,111,116,116,111,109])).1,(C0,(((T3.mk (0:Rat) (0:Rat) (-((1:Int):Rat)),-lo),(ac,[98,111,116,116,111,109])).2).2)):=Fr ar fr;refine zQ (A:=[]) (ρ:=(AS A9)) dz.up ?_;intro h9 gr fq;replace ah:=ah.mono (ey.trans gr);have ge:(BP 5 (l1+l2+5)).R h9 bg (((T3.mk (0:Rat) (0:Rat) ((1:Int):Rat),hi),(aa,[116,111,112])).1,(T0,(((T3.mk (0:Rat) (0:Rat) ((1:Int):Rat),hi),(aa,[116,111,112])).2).2)):=Fr ah fq;refine lX (xB tT pH gf) λug mx=>(lX (xB tT pH ge) λuf mw=>(zE (zL (ρ:=(BP 5 (l1+l2+5))) (m:=2) (xs:=[(((T3.mk (0:Rat) (0:Rat) (-((1:Int):Rat)),-lo),(ac,[98,111,116,116,111,109])).1,(C0,(((T3.mk (0:Rat) (0:Rat) (-((1:Int):Rat)),-lo),(ac,[98,111,116,116,111,109])).2).2)),(((T3.mk (0:Rat) (0:Rat) ((1:Int):Rat),hi),(aa,[116,111,112])).1,(T0,(((T3.mk (0:Rat) (0:Rat) ((1:Int):Rat),hi),(aa,[116,111,112])).2).2))]) (ps':=[(0,_),(1,_)]) underlying29 jR I I I (zW (zW (yN (zR dC)) (zR O)) (zW wC jQ)) BR (zD I (AO (AA _) zA 0 dC) mx (zD I (AO (AA _) zA 1 dC) mw zO)) (show 2*14<=16777216 from by decide) nP) I I I ?_))
 rintro ue xp ⟨tl,rfl,ix⟩
 refine zQ (A:=[]) (ρ:=(BP 5 (l1+l2+5))) ix ?_;intro ku fd fp;refine yY (A:=[]) (uD (zN (ρ:=(BP (4*k+4*l1+4*l2+40) (100*k+100*l1+100*l2+1000))) (bytes:=264) underlying29 jR I I I I nP I I eb.up (fp.le (Le.s (Le.p (Le.p (AI (4*k+4*l1+4*l2+40)) (AL (100*k+100*l1+100*l2+1000))) (Le.refl _)))) bO bO)) I I I ?_
 rintro ud xo ⟨kc,tk,rfl,iw⟩
 refine A7 ?_;refine zP (A:=[_,_,_,_,_,_,_]) (uB sizeOf29 (AQ (AT pH)) cj (oH kc)) λdk bk=>(AF ?_);refine zQ (A:=[]) (ρ:=(BP (4*k+4*l1+4*l2+40) (100*k+100*l1+100*l2+1000))) iw ?_;intro fh fc fo;replace bk:=bk.mono fc;have gc:(BT (k+l1+l2+5) (4*k+4*l1+4*l2+40) (100*k+100*l1+100*l2+1000) 1).R fh dk ((PP,(aj,([]:List En))).1,((F0++[(((T3.mk (0:Rat) (0:Rat) (-((1:Int):Rat)),-lo),(ac,[98,111,116,116,111,109])).1,(C0,(((T3.mk (0:Rat) (0:Rat) (-((1:Int):Rat)),-lo),(ac,[98,111,116,116,111,109])).2).2)),(((T3.mk (0:Rat) (0:Rat) ((1:Int):Rat),hi),(aa,[116,111,112])).1,(T0,(((T3.mk (0:Rat) (0:Rat) ((1:Int):Rat),hi),(aa,[116,111,112])).2).2))]),((PP,(aj,([]:List En))).2).2)):=Fr bk fo;have gb:(BT (k+l1+l2+5) (4*k+4*l1+4*l2+40) (100*k+100*l1+100*l2+1000) 1).R fh dk (Dt L lo hi):=Rp.castR gc (by rw[gx,fg,gy,gt];rfl);refine lX (xB jG pH gb) λuc mu=>?_;refine uS (vs:=[_]) I I I I call103 ⟨I,AW⟩ (λw hs=>Pk hs mu O O O (by first|omega|exact H4 qh)) ?_;intro tw ks yv qe bs;obtain⟨qs,gz,bs,rfl,go,ax⟩:=bs
 change RL (BP (4*(4*k+4*l1+4*l2+40)+12) ((4*k+4*l1+4*l2+40)+(100*k+100*l1+100*l2+1000)+12)) ks gz (Cb (Dt L lo hi)) at ax
 replace bs:=Rp.Is.le bs (Le.p (Le.s (AI (k+l1+l2+6))) (Le.p (Le.refl _) (Le.s (Le.p (Le.refl _) (Le.p (Le.refl _) (AL 2))))));replace ax:=(Le.p (Le.p (AI (16*k+16*l1+16*l2+172)) (AL (104*k+104*l1+104*l2+1052))) (Le.refl _)).rl ax;have fk:=(Le.p (Le.s (AI (k+l1+l2+6))) (Le.p (Le.refl _) (Le.s (Le.p (Le.refl _) (Le.p (Le.refl _) (AL 2)))))).R eg;refine zP (A:=[_,_,_,_,_,_,_,_]) (uB sizeOf32 pH fk bs) λqo ga=>(AF ?_);rw[qh,qg,sr];refine xW (qV (t:=6) jG (.tail _ H9) I ga) ?_;intro qr eq fy;refine kE (.cons_cons _ (E3 _)) (λE S=>qG I eq (gA I) E S) ?_;exact⟨_,_,_,I,(Rp.Is.cast (Rp.Is.le fy (Le.p (Le.s (AI (k+l1+l2+20))) (Le.p (Le.refl _) (Le.s (Le.p (Le.refl _) (Le.p (Le.refl _) (AL 5))))))) (by rw[show E7 (Dt L lo hi)=[] from by unfold E7;split<;>rfl])),I,go,((Le.p (Le.p (AI (1000*k+1000*l1+1000*l2+2000)) (AL (1000*k+1000*l1+1000*l2+2000))) (Le.refl _)).rl ax)⟩
end Go.Proofs.YtlpflnindligbaaGreat
