/- Texts that the proof needs, part 8. -/
import Derived.Test.YtpkaegemlpaenaaGreatKH7
set_option linter.unusedVariables false
set_option linter.unusedSimpArgs false
noncomputable section
set_option maxRecDepth 10000
set_option maxHeartbeats 1000000
namespace Go.Proofs.YtpkaegemlpaenaaGreat
open Bk Go Tryz
attribute [local irreducible] GL GC GQ W OpV
section
variable{w0:World}{h0:Mem}(hs:MLe h0 (mem w0))
include hs
theorem zOS{k m n j:Nat}{vs:Value}{s:Sq}(rs:(tSd k m n j).Is h0 vs s)(H0:okS s)(H1:nmA s)(H2:k<=1000000)(H3:m<=1000000)(H4:n<=1000000):
 y8i 69 #[vs] w0 h0 (λh r=>(rpP (rpS (rpP (tPl (m+1) (n+1)) (rpP (tLL (k+1)) (rpP rpI rpI)))) (rpS (rpA 2 (tPt (k+1))))).Is h r (tX s)):=by
 have fz:=H0.1.1.1;have fy:=H0.1.1.2;refine cb1 57 vs func69 hs ?_;refine go2 ?_;refine nB rs λb1 dc aw=>(nA (ρ:=(rpP (rpS (rpP (tPl 1 1) (rpP (tLL 1) (rpP rpI rpI)))) (rpS (rpA 2 (tPt 1))))) (X:=([],[])) yBV (yA wC wC) λb2 db dj=>(go4 ?_));refine nA (ρ:=(rpP rpV rpV)) (X:=((Value.slice none 0 0),(Value.slice none 0 0))) yBV (yA fD fD) λb3 eo di=>(go4 ?_);refine zG zOV I I I ?_
 rintro fr fu ⟨az,rfl,rfl⟩
 refine go7 ?_;refine lX (xB fN (y6u (y6i pH)) aw) λcl eg=>(go5 ?_);refine xJ 140 15 ?_;have cn:=RL.nil (ρ:=rpP (tPl (m+1) (n+1)) (rpP (tLL (k+1)) (rpP rpI rpI))) (h:=h0);refine xJ 151 18 ?_;have cm:=RL.nil (ρ:=rpA 2 (tPt (k+1))) (h:=h0);refine gcL (ι:=Nat×List Fm×List (List Pt)×List PIr×List Value×Value×List Value×Value×List Value×Array MapEntry×Nat×Mem) (λ(f,FF,E2,T2,Z,O,ao,U,ae,ab,am,ma)=>(MLe h0 ma/\((rpP rpV rpV).R ma Z (O,U)/\RL (rpP (tPl (m+1) (n+1)) (rpP (tLL (k+1)) (rpP rpI rpI))) ma ao FF/\O.oneCell'=true/\RL (rpA 2 (tPt (k+1))) ma ae E2/\U.oneCell'=true/\lV ab T2/\f<=s.2.1.length/\FF=fmT s f/\T2=sfE s f/\E2=T2.map (edP s.1)),[(1,vP b1 0),(2,vP b2 0),(3,vP b3 0),(4,.map (some az)),(12,cl),(13,vI (↑(s.2.1).length:Int)),(14,vI ↑f)],[.gs 151 18 U E2.length ae,.gs 140 15 O FF.length ao,.blk az (.map ab am),.var b3 99 Z,.var b2 99 db,.var b1 39 dc],ma,s.2.1.length-f)) (0,[],[],[],eo,(.slice none 0 0),[],(.slice none 0 0),[],#[],0,h0) ?_ ?_
 · exact⟨mle,di,cn,I,cm,I,map_nil,zot,I,I,I⟩
 rintro⟨f,FF,E2,T2,Z,O,ao,U,ae,ab,am,ma⟩ ⟨es,an,ba,cq,ar,bx,ca,gb,cc,cy,cz⟩
 refine yY ?_;have ge:FF.length=f:=by rw[cc];exact yW _ _
 refine gc6 (λcw=>?_) λcw=>?_
 ·
  have M:=H0.2.1 f oM;have fv:=zK8 H0 f oM;have gc:=zEC (s.2.1.getD f zA).1.1;refine go6 ?_;refine lX (xI zA f underlying36 bE eg) λfq ee=>(lX (xA bE ee) λfp ed=>(nA (ρ:=(tFc 1 1)) (X:=((zT,(0:Rat)),([],([]:List Nat)))) jK (yA (yA (yR (yE dC)) (yE dC)) (yA wC gS)) λb6 gg dh=>?_));have bh:=(Le.p (Le.p (Le.t (Le.q (l:=m+1) oM)) (Le.q (l:=n+1) oM)) (Le.refl _)).R dh;refine zP (A:=[]) (uB sizeOf53 pH bh (ed.le (Le.p (Le.p (Le.t (Le.q (l:=m+1) oM)) (Le.q (l:=n+1) oM)) (Le.refl _)))) λci J=>(go5 ?_);refine lX (xB lW (y6i pH) J) λfo ec=>(lX (xV (ρ:=(rpP (tPl (m+1) (n+1)) (rpP (tLL 1) (rpP rpI rpI)))) (xN (ps':=[(0,_)]) underlying140 u9 I I (zV3 underlying140) e2z I (yA (yA (yR (yE oM)) (yE oM)) (yA wC (yA wQ wQ))) (zD I (y6i (y5u _)) ec zN))) λfm eb=>(nA (ρ:=(rpP (tPl 1 1) (rpP (tLL 1) (rpP rpI rpI)))) (X:=((zT,(0:Rat)),([],((0:Int),(0:Int))))) u9 (yA (yA (yR (yE dC)) (yE dC)) (yA wC (yA wQ wQ))) λb7 gf df=>?_));have bg:=(Le.p (Le.p (Le.t (Le.q (l:=m+1) oM)) (Le.q (l:=n+1) oM)) (Le.refl _)).R df;refine zP (A:=[]) (uB sizeOf140 pH bg eb) λen bu=>(go5 ?_);refine lX (xB jP pH aw) λfl ea=>(lX (xB bE pH J) λfk dz=>(cL (ev2 I I) call104 (λw hs=>zWQ hs (ea.le (Le.p (Le.refl _) (Le.p (Le.s (Le.p (Le.p (Le.t (Le.q (l:=m+1) oM)) (Le.q (l:=n+1) oM)) (Le.refl _))) (Le.refl _)))) dz (by first|omega|exactλu v C hv=>H1 f oM u C v hv|exactλu C=>zci (M.2 u C) dC) (by first|omega|exactλu v C hv=>H1 f oM u C v hv|exactλu C=>zci (M.2 u C) dC) (by first|omega|exactλu v C hv=>H1 f oM u C v hv|exactλu C=>zci (M.2 u C) dC) (by first|omega|exactλu v C hv=>H1 f oM u C v hv|exactλu C=>zci (M.2 u C) dC)) λck h1 cu dy=>?_));obtain rfl:ck=.bool true:=by rw[show ck=vB (True) from dy,xW (by trivial)]
  refine go5 ?_;refine lX (xB jP pH aw) λfj dx=>(lX (xB bE pH J) λfi dw=>(cL (ev2 I I) call105 (λw hs=>zOC hs (dx.le (Le.p (Le.refl _) (Le.p (Le.s (Le.p (Le.p (Le.t (Le.q (l:=m+1) oM)) (Le.q (l:=n+1) oM)) (Le.refl _))) (Le.refl _)))) dw (by first|omega|exactλu v C hv=>H1 f oM u C v hv|exactλu C=>zci (M.2 u C) dC) (by first|omega|exactλu v C hv=>H1 f oM u C v hv|exactλu C=>zci (M.2 u C) dC) (by first|omega|exactλu v C hv=>H1 f oM u C v hv|exactλu C=>zci (M.2 u C) dC) (by first|omega|exactλu v C hv=>H1 f oM u C v hv|exactλu C=>zci (M.2 u C) dC)) λfh h2 ct dv=>(go1 ?_)));have bf:=(Le.p (Le.refl _) (Le.p (Le.s (Le.s (Le.t (Le.q (l:=k+1) oM)))) (Le.refl _))).R bu;refine zP (A:=[]) (uB sizeOf76 (y6u (y6i pH)) bf dv) λem bt=>(go6 ?_);refine lX (xB zK (y6i (y6i pH)) J) λfg du=>(cL (ev1 I) call106 (λw hs=>zWP hs du oM) λff h3 ga dt=>?_);obtain rfl:=dt;refine go4 ?_;refine zP (A:=[]) (uB sizeOf3 (y6u (y6u (y6i pH))) bt (wM (z:=(↑(axI (((s.2.1.getD f zA).1).1)):Int)) oM oM)) λel bs=>(go1 ?_);refine zP (A:=[]) (uB sizeOf3 (y6u (y6u (y6u pH))) bs (wM (z:=(↑(axJ (((s.2.1.getD f zA).1).1)):Int)) oM oM)) λch br=>(go5 ?_);refine lX (xB cC (y6u (y6i pH)) J) λde dr=>(go5 ?_);refine gcL (ι:=Nat×List Fm×List (List Pt)×List PIr×List Value×Value×List Value×Value×List Value×Array MapEntry×Nat×Mem) (λ(q,F3,E3,T3,aj,D,ad,H,ac,aa,ak,mb)=>(MLe h3 mb/\((rpP rpV rpV).R mb aj (D,H)/\RL (rpP (tPl (m+1) (n+1)) (rpP (tLL (k+1)) (rpP rpI rpI))) mb ad F3/\D.oneCell'=true/\RL (rpA 2 (tPt (k+1))) mb ac E3/\H.oneCell'=true/\lV aa T3/\q<=(s.2.1.getD f zA).2.1.length/\F3=fmT s f/\T3=slE s.1 (s.2.1.getD f zA).2.1 (sfE s f) q/\E3=T3.map (edP s.1)),[(1,vP b1 0),(2,vP b2 0),(3,vP b3 0),(4,.map (some az)),(7,vP b7 0),(12,cl),(13,vI (↑(s.2.1).length:Int)),(14,vI ↑f),(38,de),(39,vI (↑(((s.2.1.getD f zA).2).1).length:Int)),(40,vI ↑q)],[.var b7 140 ch,.var b6 53 ci,.gs 151 18 H E3.length ac,.gs 140 15 D F3.length ad,.blk az (.map aa ak),.var b3 99 aj,.var b2 99 db,.var b1 39 dc],mb,(s.2.1.getD f zA).2.1.length-q)) (0,FF,E2,T2,Z,O,ao,U,ae,ab,am,h3) ?_ ?_
  · exact⟨mle,an.up,ba.up,cq,ar.up,bx,ca,zot,cc,cy,cz⟩
  rintro⟨q,F3,E3,T3,aj,D,ad,H,ac,aa,ak,mb⟩ ⟨er,ai,aq,bw,ap,au,av,fw,cd,cb,bc⟩
  refine yY ?_;refine gc6 (λcv=>?_) λcv=>?_
  ·
   have fx:=M.2 q oM;have ei:=zK4 M.2 s.1 (sfE s f) q oM;rw[<-cb] at ei;refine go6 ?_;refine lX (xI [] q underlying51 fL dr) λfe dq=>(lX (xA fL dq) λfd dp=>(go4 ?_));refine lX (xB jP pH aw) λfc dn=>(go2 ?_);refine dR (A:=[_,_,_,_]) (dR (A:=[_,_,_]) (dR (A:=[_,_,_,_,_]) ?_));refine zMT (vs:=[_,_,_,_]) (Qs:=[_,_,_]) (List.Perm.refl _) call107 e4z (λw hs=>yFL dn dp ai au ap av bc (λu C=>H1 f oM q oM u C) ⟨zot,zot,zot⟩ H2 hs) I ?_;intro fb h4 gh ej eh;obtain⟨cg,bd,ay,ce,cj,rfl,bq,bv,bm,bz⟩:=eh;refine zMU (A:=[_,_,_,_,_]) (zMU (A:=[_,_,_]) (zMU (A:=[_,_,_,_]) (go7 ?_)));refine gqL ((q+1),F3,((sxE s.1 ((s.2.1.getD f zA).2.1.getD q []) T3 ((s.2.1.getD f zA).2.1.getD q []).length).map (edP s.1)),(sxE s.1 ((s.2.1.getD f zA).2.1.getD q []) T3 ((s.2.1.getD f zA).2.1.getD q []).length),cg,D,ad,bd,ay,ce,cj,h4) ?_ ?_
   · exact⟨mle,bq,aq.up,bw,bm,bv,bz,zot,cd,by rw[cb];rfl,I⟩
   omega
  have eq:q=(s.2.1.getD f zA).2.1.length:=by omega
  have eu:F3.length=f:=by rw[cd];exact yW _ _
  refine go7 ?_;refine lX (sN (xB yIK (y6i pH) ai)) λfa dm=>?_;subst dm;refine lX (xB zF2 pH br) λez dl=>(zG (zL (ρ:=(rpP (tPl (m+1) (n+1)) (rpP (tLL (k+1)) (rpP rpI rpI)))) (m:=1) (xs:=[((s.2.1.getD f zA).1,(zBE s.1 (s.2.1.getD f zA).2.1 (s.2.1.getD f zA).2.1.length,((↑(axI (((s.2.1.getD f zA).1).1)):Int),(↑(axJ (((s.2.1.getD f zA).1).1)):Int))))]) (ps':=[(0,_)]) underlying96 u9 I I I (yA (yA (yR (yE oM)) (yE oM)) (yA wC (yA wQ wQ))) e2z (zD I (y5e (y5u _) fm0 0 dC) dl zN) (show 1*15<=16777216 from by decide) nP) I I I ?_)
  rintro ey ft ⟨ev,rfl,cp⟩
  refine zQ (A:=[]) (ρ:=(rpP (tPl (m+1) (n+1)) (rpP (tLL (k+1)) (rpP rpI rpI)))) cp ?_;intro h4 ej bk;refine xQ (A:=[_,_,_]) (uK (zR (ρ:=(rpP (tPl (m+1) (n+1)) (rpP (tLL (k+1)) (rpP rpI rpI)))) (bytes:=264) underlying96 u9 I I I I nP I I aq.up bk bO bO)) I I I ?_
  rintro dd fs ⟨bb,da,rfl,co⟩
  refine go1 ?_;refine zP (A:=[_,_,_,_,_]) (uB sizeOf96 (y6i pH) ai (eH bb)) λcf bp=>(go7 ?_);refine xK (A:=[]) (xK (A:=[]) ?_);refine gqL ((f+1),(F3++[((s.2.1.getD f zA).1,(zBE s.1 (s.2.1.getD f zA).2.1 (s.2.1.getD f zA).2.1.length,((↑(axI (((s.2.1.getD f zA).1).1)):Int),(↑(axJ (((s.2.1.getD f zA).1).1)):Int))))]),E3,T3,cf,dd,da,H,ac,aa,ak,h4) ?_ ?_
  · exact⟨mle,bp,co,bb,ap.up,au,av,zot,by rw[cd];rfl,by rw[cb,eq];rfl,bc⟩
  omega
 have ef:f=s.2.1.length:=by omega
 refine go7 ?_;refine zQ (A:=[_]) (ρ:=(rpP (tPl (m+1) (n+1)) (rpP (tLL (k+1)) (rpP rpI rpI)))) ba.up ?_;intro h1 cu bj;replace an:=an.mono cu;have ah:(rpP (rpS (rpP (tPl (m+1) (n+1)) (rpP (tLL (k+1)) (rpP rpI rpI)))) rpV).R h1 Z (FF,(O,U).2):=yD9 an bj;refine zQ (A:=[]) (ρ:=(rpA 2 (tPt (k+1)))) ar.up ?_;intro h2 ct bi;replace ah:=ah.mono ct;have bo:(rpP (rpS (rpP (tPl (m+1) (n+1)) (rpP (tLL (k+1)) (rpP rpI rpI)))) (rpS (rpA 2 (tPt (k+1))))).R h2 Z (FF,E2):=vr_1 ah bi;refine lX (xB zU8 pH bo) λew dk=>?_;have be:=(Le.p (Le.s (Le.p (Le.p (Le.t (Le.q (l:=m+1) oM)) (Le.q (l:=n+1) oM)) (Le.p (Le.s (Le.s (Le.t (Le.q (l:=k+1) oM)))) (Le.refl _)))) (Le.s (Le.a (Le.t (Le.q (l:=k+1) oM))))).R dj;refine zP (A:=[_,_]) (uB sizeOf99 pH be dk) λek bn=>(go3 ?_);refine wG (jG (t:=2) zU8 mh2 I bn) ?_;intro ep ax bl;refine yN (λE S=>zS I ax E S) ?_;exact(Rp.Is.cast bl (by rw[cc,cz,cy,ef];rfl))
theorem oY{k m n j j2:Nat}{vs:Value}{s:Sq}(rs:(tSd k m n j).Is h0 vs s){vp:Value}{p:Tq}(rp:(tPt j2).Is h0 vp p)(H0:okS s)(H1:jQ s)(H2:k<=9000)(H3:j2<=900)(H4:m<=4000)(H5:n<=4000):
 y8i 32 #[vs,vp] w0 h0 (λh r=>r=.tuple #[vI (wdM (tX s) p),vB (¬onA (tX s) p)]):=by
 have D:=yNS (s:=s) H0;have C:=yKX H1 p;refine cb2 12 vs vp func32 hs ?_;refine go2 ?_;refine nB rs λb2 ad J=>(nB rp λb3 ac H=>(go5 ?_));refine zJ 8 _ [] ((0,.q)::(2,.q)::(1,.c)::(3,.c)::zai 4 4 []) zX nX zou nX (λr hr=>hr) (wX I (xB jP pH J) λv6 Z=>(wX I (xB zK pH H) λv8 O=>?_));refine w_c I (sC (ev1 I) call69 (λw hs=>zOS hs Z (by first|omega|exact H0|exact H1|exact cG H1|exact D|exact C.1|exact C.2) (by first|omega|exact H0|exact H1|exact cG H1|exact D|exact C.1|exact C.2) oM oM oM) λv7 h1 ab U=>?_);refine w_c I (sC (ev2 I I) call72 (λw hs=>zOR hs U O.up oM oM oM oM (by first|omega|exact H0|exact H1|exact cG H1|exact D|exact C.1|exact C.2) (by first|omega|exact H0|exact H1|exact cG H1|exact D|exact C.1|exact C.2) (by first|omega|exact H0|exact H1|exact cG H1|exact D|exact C.1|exact C.2)) λv9 h2 aa M=>?_);obtain rfl:=M;refine go7 ?_;refine wY I I I ?_
 rfl
theorem zLU{k m n j j2:Nat}{vs:Value}{s:Sq}(rs:(tSd k m n j).Is h0 vs s){vp:Value}{p:Tq}(rp:(tPt j2).Is h0 vp p)(H0:okS s)(H1:jQ s)(H2:k<=9000)(H3:j2<=900)(H4:m<=4000)(H5:n<=4000):
 y8i 18 #[vs,vp] w0 h0 (λ_ r=>r=vI (inM (tX s) p)):=by
 refine cb2 19 vs vp func18 hs ?_;refine go2 ?_;refine nB rs λb2 ac J=>(nB rp λb3 ab H=>(go5 ?_));refine lX (xB jP pH J) λv8 Z=>(lX (xB zK pH H) λv9 U=>(cL (ev2 I I) call32 (λw hs=>oY hs Z U (by first|omega|exact H0|exact H1|exact cG H1|exact hmo|exact hmd.1|exact hmd.2) (by first|omega|exact H0|exact H1|exact cG H1|exact hmo|exact hmd.1|exact hmd.2) oM oM oM oM) λO h1 aa M=>?_));obtain rfl:=M;refine dQ ?_;refine cnd (λC=>?_) λC=>?_
 ·
  refine go8 ?_;refine zC I I ?_;unfold inM;rw[zau (by simpa using C)]
 refine gc7 (λD=>?_) λD=>?_
 ·
  refine go8 ?_;refine zC I I ?_;unfold inM;rw[zae (by simpa using C),zau D]
 refine go9 ?_;refine zC I I ?_;unfold inM;rw[zae (by simpa using C),zae D]
theorem zHT:
 y8i 10 #[] w0 h0 (λ_ r=>r=.bool true):=by
 refine cb0 48 func10 hs ?_;refine go7 ?_;refine cL (vs:=[vI (0),vI (0),vI (0)]) e3z call12 (λw hs=>gM hs dC dC dC dC dC dC) λv9 h1 cc r9=>(cL (vs:=[vI (1),vI (1),vI (1)]) e3z call12 (λw hs=>gM hs dC dC dC dC dC dC) λbt h2 cb az=>?_);refine uY (vs:=[_,_]) I I I I call15 e2z (λw hs=>zJ5 hs r9.up az dC dC (by first|omega|exact fE.2|exact fE.1|exactλ_=>iD.h)) ?_;intro bs h3 cg ca M;obtain⟨bu,bc,ad,rfl,M,rfl,bd,D⟩:=M
 change RL (tFc (10000*2+10000*2+20000) (10000*2+10000*2+20000)) h3 ad (blF (T3.mk (((0:Int):Int):Rat) (((0:Int):Int):Rat) (((0:Int):Int):Rat)) (T3.mk (((1:Int):Int):Rat) (((1:Int):Int):Rat) (((1:Int):Int):Rat))) at D
 replace M:=Rp.Is.le M (Le.p (Le.s (Le.t (Le.q (l:=48) oM))) (Le.refl _));replace D:=(Le.p (Le.p (Le.t (Le.q (l:=60000) oM)) (Le.q (l:=60000) oM)) (Le.refl _)).rl D;refine go3 ?_;refine nA (ρ:=(rpP (tLs 1) (rpP rpV (rpS (rpP rpI (rpP rpI (rpQ 1))))))) (X:=([],((Value.slice none 0 0),[]))) qQ (yA wC (yA fD wC)) λb1 cf ai=>?_;have ac:=(Le.p (Le.s (Le.t (Le.q (l:=48) dC))) (Le.p (Le.refl _) (Le.s (Le.p (Le.refl _) (Le.p (Le.refl _) (Le.q (l:=6) dC)))))).R ai;refine zP (A:=[]) (uB sizeOf39 pH ac M) λO J=>(go5 ?_);refine cL (vs:=[vI (1),vI (2)]) e2z call21 (λw hs=>dE hs dC dC dC dC) λbr h4 bb ay=>(nA (ρ:=(rpQ 1)) (X:=(0:Rat)) xU (yE dC) λb3 ce ah=>?_);have ab:=(Le.q (l:=2) dC).R ah;refine zP (A:=[]) (uB sizeOf29 pH ab ay) λbf H=>(go4 ?_);refine zQ (A:=[_,_]) (ρ:=(tFc 60000 60000)) D.up ?_;intro h5 ba U;replace J:=J.mono (bb.trans ba);have aa:(tSd 48 60000 60000 6).R h5 O (blP (T3.mk (((0:Int):Int):Rat) (((0:Int):Int):Rat) (((0:Int):Int):Rat)) (T3.mk (((1:Int):Int):Rat) (((1:Int):Int):Rat) (((1:Int):Int):Rat)),(blF (T3.mk (((0:Int):Int):Rat) (((0:Int):Int):Rat) (((0:Int):Int):Rat)) (T3.mk (((1:Int):Int):Rat) (((1:Int):Int):Rat) (((1:Int):Int):Rat)),[])):=zFZ J U;have Z:(tSd 48 60000 60000 6).R h5 O (bkS (pI 0 0 0) (pI 1 1 1)):=Rp.castR aa zo5;have C:(tSd 2 2 2 1).R h5 O (bkS (pI 0 0 0) (pI 1 1 1)):=zBK Z yMQ;refine lX (xB jP pH C) λbq ax=>(lX (xB yC pH H) λbp aw=>(lX (xB yC pH H) λbo av=>(lX (xB yC pH H) λbn au=>(lX (xV (ρ:=(tPt 2)) (xS (ps':=[(0,_),(1,_),(2,_)]) underlying31 yK I I sizeOf29 e6 I (yR (yE dC)) (zD I (y6e (y5u _)) aw (zD I (y7i (y5u _)) av (zD I (y7u (y5u _)) au zN))))) λbm ar=>(cL (ev2 I I) call32 (λw hs=>oY hs ax ar (by first|omega|exact fE.2|exact fE.1|exactλ_=>iD.h) (by first|omega|exact fE.2|exact fE.1|exactλ_=>iD.h) dC dC dC dC) λbl h6 bz aq=>?_)))));obtain rfl:=aq;refine go8 ?_;refine zJ 8 _ [] ((0,.q)::(1,.c)::(2,.c)::zai 3 5 []) zX nX zou nX (λr hr=>hr) (wX I (xB jP pH C) λbk ap=>?_);refine w_c I (sC (vs:=[vI (2),vI (0),vI (0)]) e3z call12 (λw hs=>gM hs dC dC dC dC dC dC) λbj h7 bx ao=>?_);refine w_c I (sC (ev2 I I) call32 (λw hs=>oY hs ap.up ao (by first|omega|exact fE.2|exact fE.1|exactλ_=>iD.h) (by first|omega|exact fE.2|exact fE.1|exactλ_=>iD.h) dC dC dC dC) λbi h8 bw an=>?_);obtain rfl:=an;refine go8 ?_;refine zJ 19 _ [] (zai 0 14 [(14,.c),(15,.c),(16,.q),(17,.q),(18,.q)]) zX nX (wL zou) nX (λr hr=>hr) (wZ I (λ_ _=>OpV.tr (by exact iD.o1) (xG I)) I (go1 ?_));refine yV I I I (λh' L' hh hR=>xG I) I (yV I I I (λh' L' hh hR=>OpV.tr (by exact iD.w1) (rR (q:=1) I I)) I (go2 ?_));refine yV I I I (λh' L' hh hR=>OpV.tr (by exact iD.o2) (xG I)) I (go2 ?_);refine yV I I I (λh' L' hh hR=>xG I) I (yV I I I (λh' L' hh hR=>OpV.tr (by exact iD.w2) (rR (q:=0) I I)) I (go2 ?_));refine oX I (xB jP pH C) λbh am=>?_;refine w_c I (iT I I (sC (vs:=[vI (1),vI (1),vI (1)]) e3z call12 (λw hs=>gM hs dC dC dC dC dC dC) λbg h9 bv ak=>?_));refine w_c I (iT I I (sC (ev2 I I) call18 (λw hs=>zLU hs am.up ak (by first|omega|exact fE.2|exact fE.1|exactλ_=>iD.h) (by first|omega|exact fE.2|exact fE.1|exactλ_=>iD.h) dC dC dC dC) λae cd be aj=>?_));obtain rfl:ae=vI (inM (tX (bkS (pI 0 0 0) (pI 1 1 1))) (T3.mk (((1:Int):Int):Rat) (((1:Int):Int):Rat) (((1:Int):Int):Rat))):=aj;refine yV I I I (λh' L' hh hR=>OpV.tr (by exact iD.i3) (rR (q:=0) I I)) I (go5 ?_);refine zC I I ?_
 rfl
end
end Go.Proofs.YtpkaegemlpaenaaGreat
namespace Bk
abbrev Mp:=T3 Pt×Pt
def wR(m:Mp)(p:Pt):Pt:=T3.mk (zF m.1.x p) (zF m.1.y p) (zF m.1.z p)
def wD(m:Mp)(p:Pt):Pt:=wV (wR m p) m.2
def qN(m:Mp):Rat:=yB m.1.x m.1.y m.1.z
def yGR(M:T3 Pt):T3 Pt:=T3.mk (T3.mk M.x.x M.y.x M.z.x) (T3.mk M.x.y M.y.y M.z.y) (T3.mk M.x.z M.y.z M.z.z)
def scP(r:Rat)(p:Pt):Pt:=T3.mk (r*p.x) (r*p.y) (r*p.z)
def ivM(m:Mp):T3 Pt:=yGR (T3.mk (scP (1/qN m) (zO m.1.y m.1.z)) (scP (1/qN m) (zO m.1.z m.1.x)) (scP (1/qN m) (zO m.1.x m.1.y)))
def zW3(m:Mp):Mp:=(ivM m,scP ((-1:Int):Rat) (wR (ivM m,zT) m.2))
section
variable {α:Type}{i:Nat}
theorem zVD(a:T3 α)(y:α)(h:i<3):(a.set i y).at i=y:=by
 match i,h with
 |0,_=>rfl
 |1,_=>rfl
 |2,_=>rfl
theorem zQN(a:T3 α)(x y:α)(h:i<3):(a.set i x).set i y=a.set i y:=by
 match i,h with
 |0,_=>rfl
 |1,_=>rfl
 |2,_=>rfl
theorem zVC(a:T3 α)(h:i<3):a.set i (a.at i)=a:=by
 match i,h with
 |0,_=>rfl
 |1,_=>rfl
 |2,_=>rfl
end
def clR(M:T3 Pt)(i:Nat)(r:Pt):Nat->Pt
  |0=>r
  |q+1=>(clR M i r q).set q ((M.at q).at i)
def clO(M:T3 Pt):Nat->T3 Pt
  |0=>T3.mk zT zT zT
  |i+1=>(clO M i).set i (clR M i ((clO M i).at i) 3)
end Bk
namespace Go.Proofs.YtpkaegemlpaenaaGreat
open Bk Go Tryz
attribute [local irreducible] GL GC GQ W OpV
section
variable{w0:World}{h0:Mem}(hs:MLe h0 (mem w0))
include hs
theorem zJX{k l j:Nat}{vm:Value}{m:((T3 Tq)×Tq)}(rm:(rpP (rpT (tPt k)) (tPt l)).Is h0 vm m){vp:Value}{p:Tq}(rp:(tPt j).Is h0 vp p)(H0:k<=1000000)(H1:j<=1000000):
 y8i 68 #[vm,vp] w0 h0 (λh r=>(tPt (3*j+3*k+9)).Is h r (wR m p)):=by
 refine cb2 21 vm vp func68 hs ?_;refine go2 ?_;refine nB rm λb2 ay D=>(nB rp λb3 ax C=>(nA (ρ:=(tPt (3*j+3*k+9))) (X:=zT) yK (yR (yE oM)) λb4 aw Z=>(go3 ?_)));refine zJ 16 _ [] (zai 0 4 (zai 5 4 (zai 10 4 [(4,.c),(9,.c),(14,.c),(15,.q),(16,.t)]))) zX nX (wL zou) nX (λr hr=>hr) (go2 ?_);refine wX I (xB zK (y6i (y6e pH)) D) λv7 r7=>(wX I (xB zK pH C) λv8 r8=>(go2 ?_));refine wX I (xB zK (y6i (y7i pH)) D) λaq ae=>(wX I (xB zK pH C) λap ad=>(go2 ?_));refine wX I (xB zK (y6i (y7u pH)) D) λan ac=>(wX I (xB zK pH C) λam ab=>?_);refine w_c I (sC (ev2 I I) call56 (λw hs=>tW hs r7 r8 oM) λv9 h1 av r9=>?_);replace r9:=Rp.Is.le r9 (Le.q (l:=3*j+3*k+9) oM);refine w_c I (sC (ev2 I I) call56 (λw hs=>tW hs ae.up ad.up oM) λao h2 au J=>?_);replace J:=Rp.Is.le J (Le.q (l:=3*j+3*k+9) oM);refine w_c I (sC (ev2 I I) call56 (λw hs=>tW hs ac.up ab.up oM) λak h3 ar H=>?_);replace H:=Rp.Is.le H (Le.q (l:=3*j+3*k+9) oM);refine wX I (xV (ρ:=(tPt (3*j+3*k+9))) (xS (ps':=[(0,_),(1,_),(2,_)]) underlying31 yK I I sizeOf29 e6 I (yR (yE oM)) (zD I (y6e (y5u _)) r9.up (zD I (y7i (y5u _)) J.up (zD I (y7u (y5u _)) H zN))))) λaj aa=>(yG (A:=[]) I (uB sizeOf31 pH Z aa) λah U=>(go3 ?_));refine wG (jG (t:=4) zK mh0 I U) ?_;intro ai M O;refine yN (λE S=>zS I M E S) ?_;exact O
theorem zG5{k l j:Nat}{vm:Value}{m:((T3 Tq)×Tq)}(rm:(rpP (rpT (tPt k)) (tPt l)).Is h0 vm m){vp:Value}{p:Tq}(rp:(tPt j).Is h0 vp p)(H0:k<=1000000)(H1:j<=1000000)(H2:l<=1000000):
 y8i 29 #[vm,vp] w0 h0 (λh r=>(tPt (3*j+3*k+l+10)).Is h r (wD m p)):=by
 refine cb2 11 vm vp func29 hs ?_;refine go2 ?_;refine nB rm λb2 ai M=>(nB rp λb3 ah U=>(nA (ρ:=(tPt (3*j+3*k+l+10))) (X:=zT) yK (yR (yE oM)) λb4 ae O=>(go3 ?_)));refine zJ 6 _ [] [(0,.q),(1,.q),(3,.q),(4,.q),(2,.c),(5,.c),(6,.t)] zX nX zou nX (λr hr=>hr) (wX I (xB zE2 pH M) λv5 r5=>(wX I (xB zK pH U) λv6 r6=>(go1 ?_)));refine wX I (xB zK (y6u pH) M) λv9 r9=>?_;refine w_c I (sC (ev2 I I) call68 (λw hs=>zJX hs r5 r6 oM oM) λv7 h1 ad r7=>?_);refine w_c I (sC (ev2 I I) call14 (λw hs=>zGZ hs r7 r9.up oM) λab h2 ac C=>?_);replace C:=Rp.Is.le C (Le.t (Le.q (l:=3*j+3*k+l+10) oM));refine yG (A:=[]) I (uB sizeOf31 pH O C) λZ J=>(go3 ?_);refine wG (jG (t:=4) zK mh0 I J) ?_;intro aa D H;refine yN (λE S=>zS I D E S) ?_;exact H
theorem zEO{k l:Nat}{vm:Value}{m:((T3 Tq)×Tq)}(rm:(rpP (rpT (tPt k)) (tPt l)).Is h0 vm m)(H0:k<=1000000):
 y8i 63 #[vm] w0 h0 (λh r=>(rpQ (15*k+18)).Is h r (qN m)):=by
 refine cb1 13 vm func63 hs ?_;refine go2 ?_;refine nB rm λb1 ah J=>(nA (ρ:=(rpQ (15*k+18))) (X:=(0:Rat)) xU (yE oM) λb2 ae O=>(go6 ?_));refine lX (xB zK (y6i (y6e pH)) J) λv5 r5=>(go2 ?_);refine lX (xB zK (y6i (y7i pH)) J) λv8 r8=>(go2 ?_);refine lX (xB zK (y6i (y7u pH)) J) λac U=>(cL (ev3 I I I) call98 (λw hs=>zOD hs r5 r8 U oM oM oM) λab h1 ad M=>?_);replace M:=Rp.Is.le M (Le.q (l:=15*k+18) oM);refine zP (A:=[]) (uB sizeOf29 pH O M) λaa H=>(go3 ?_);refine wG (jG (t:=2) yC mh0 I H) ?_;intro Z C D;refine yN (λE S=>zS I C E S) ?_;exact D
theorem zDL{i:Nat}(H0:i<3):
 y8i 60 #[vI ↑i] w0 h0 (λh r=>(tPt 2).Is h r (zT.set i ((1:Int):Rat))):=by
 refine cb1 8 (vI ↑i) func60 hs ?_;refine go2 ?_;refine nA (ρ:=(tPt 2)) (X:=zT) yK (yR (yE dC)) λb2 ad O=>(go4 ?_);refine nA (ρ:=(tPt 2)) (X:=zT) yK (yR (yE dC)) λb3 ac M=>(go5 ?_);refine cL (vs:=[vI (1)]) ⟨I,y5i⟩ call27 (λw hs=>qP hs dC dC) λv5 h1 ab r5=>(gv ((zW (sz:=3) i underlying31 sizeOf29 I I zo5 oM).cv (show _=vP b3 ((i*3+0)) from zbi (vP b3) oM)) I (zP (A:=[]) (uB sizeOf29 (Pc.ta pH i oM) M r5) λZ J=>(go4 ?_)));refine lX (xB zK pH J) λv7 r7=>(zP (A:=[_]) (uB sizeOf31 pH O r7) λU H=>(go3 ?_));refine wG (jG (t:=2) zK mh1 I H) ?_;intro aa C D;refine yN (λE S=>zS I C E S) ?_;exact D
theorem zIU:
 y8i 26 #[] w0 h0 (λh r=>(rpP (rpT (tPt 2)) (tPt 2)).Is h r ((T3.mk (zT.set 0 ((1:Int):Rat)) (zT.set 1 ((1:Int):Rat)) (zT.set 2 ((1:Int):Rat))),zT)):=by
 refine cb0 6 func26 hs ?_;refine go2 ?_;refine nA (ρ:=(rpP (rpT (tPt 2)) (tPt 2))) (X:=((T3.mk zT zT zT),zT)) dO (yA (yR (yR (yE dC))) (yR (yE dC))) λb0 ac J=>(go4 ?_);refine cL (vs:=[vI (0)]) ⟨I,y5i⟩ call60 (λw hs=>zDL (i:=0) hs dC) λv1 h1 ab r1=>(cL (vs:=[vI (1)]) ⟨I,y5i⟩ call60 (λw hs=>zDL (i:=1) hs dC) λv2 h2 aa r2=>(cL (vs:=[vI (2)]) ⟨I,y5i⟩ call60 (λw hs=>zDL (i:=2) hs dC) λv3 h3 Z r3=>(lX (xV (ρ:=(rpT (tPt 2))) (xS (ps':=[(0,_),(1,_),(2,_)]) underlying56 zMJ I I sizeOf31 e6 I (yR (yR (yE dC))) (zD I (y6e (y5u _)) r1.up (zD I (y7i (y5u _)) r2.up (zD I (y7u (y5u _)) r3 zN))))) λv4 r4=>(lX (xV (ρ:=(rpP (rpT (tPt 2)) (tPt 1))) (xN (ps':=[(0,_)]) underlying58 dO I I (zGP underlying58) e2z I (yA (yR (yR (yE dC))) (yR (yE dC))) (zD I (y6i (y5u _)) r4 zN))) λv5 U=>(zP (A:=[]) (uB sizeOf58 pH J (U.le (Le.p (Le.refl _) (Le.t (Le.q (l:=2) dC))))) λM H=>(go3 ?_))))));refine wG (jG (t:=0) zE2 mh0 I H) ?_;intro O D C;refine yN (λE S=>zS I D E S) ?_;exact C
theorem zOO{vL:Value}{L:(List (List Int))}(rL:tII.Is h0 vL L)(H0:L.length<=100000)(H1:∀x,x∈L->x.length<=100000):
 Calls prog 99 #[vL] w0 (tP w0 h0 (λh r L_=>∃vF cs,rpV.Is h r vF/\L_=[.gs 22 1 vF (L).length cs]/\vF.oneCell'=true/\RL (rpS rpI) h cs (L))):=by
 refine cb1 20 vL func99 hs ?_;refine nY ?_;refine xJ 22 1 ?_;have aa:=RL.nil (ρ:=rpS rpI) (h:=h0);refine gcL (ι:=Nat×List (List Int)×Value×List Value×Mem) (λ(i,D,C,H,mi)=>(MLe h0 mi/\(RL (rpS rpI) mi H D/\C.oneCell'=true/\i<=L.length/\D=L.take i),[(0,vL),(3,C),(4,vI ↑i)],[.gs 22 1 C D.length H],mi,L.length-i)) (0,[],(.slice none 0 0),[],h0) ?_ ?_
 · exact⟨mle,aa,I,zot,I⟩
 rintro⟨i,D,C,H,mi⟩ ⟨ap,J,M,bc,hD⟩
 refine yY ?_;have bf:=zPJ H1 i;have bb:D.length<=i:=by rw[hD,zei];omega
 refine gc9 (λam=>?_) λam=>?_
 ·
  refine go8 ?_;refine lX (xI [] i underlying51 fL rL) λax ak=>(lX (xA fL ak) λaw aj=>(zDY 3 1 ?_));have Z:=RL.nil (ρ:=rpI) (h:=mi);refine xQ (A:=[]) (uK (zR (ρ:=rpI) (bytes:=8) underlying22 jV I I I I nP I I Z aj bO bO)) I I I ?_
  rintro av ba ⟨ao,ar,rfl,ad⟩
  refine zQ (A:=[]) (ρ:=rpI) ad ?_;intro h1 be U;refine zG (zL (ρ:=(rpS rpI)) (m:=1) (xs:=[(([]:List Int)++(L.getD i []))]) (ps':=[(0,_)]) underlying51 jF I I I wC e2z (zD I (y5e (y5u _) [] 0 dC) U zN) zoj nP) I I I ?_
  rintro au az ⟨aq,rfl,ac⟩
  refine zQ (A:=[]) (ρ:=(rpS rpI)) ac ?_;intro h2 bd O;refine xQ (A:=[]) (uK (zR (ρ:=(rpS rpI)) (bytes:=24) underlying51 jF I I I I nP I I J.up O bO bO)) I I I ?_
  rintro ai ay ⟨ae,ah,rfl,ab⟩
  refine go9 ?_;refine gqL ((i+1),(D++[(([]:List Int)++(L.getD i []))]),ai,ah,h2) ?_ ?_
  · exact⟨mle,ab,ae,zot,by rw[hD,zhe];exact(zJJ [] oM).symm⟩
  omega
 have ei:i=L.length:=by omega
 have an:D=L:=by rw[hD,ei,z6i]
 refine qC ?_;rw[<-an];refine kV (.cons_cons _ (zse _)) (λE S=>zS I (gH I) E S) ?_;exact⟨_,_,eH M,I,M,J.up⟩
end
set_option maxHeartbeats 1000000 in
theorem zWM{w0:World}{h0:Mem}(hs:MLe h0 (mem w0)){k m n j:Nat}{vs:Value}{s:Sq}(rs:(tSd k m n j).Is h0 vs s)(H0:okS s)(H1:1<=m)(H2:1<=n):
 Calls prog 64 #[vs] w0 (tP w0 h0 (λh r L_=>∃vP csP vF csF vs R,(rpP rpV (rpP rpV (rpS (rpP rpI (rpP rpI (rpQ j)))))).Is h r (vP,(vF,s.2.2))/\L_=.gs 31 9 vP s.1.length csP::.gs 53 14 vF (fvZ s.2.1 vs vs.length).length csF::R/\(vP.oneCell'=true/\vF.oneCell'=true/\vs.length=s.2.1.length)/\RL (tPt k) h csP s.1/\RL (rpP (tPl m n) (rpP rpV qF)) h csF (fvZ s.2.1 vs vs.length)/\mC 22 (rpS rpI) h vs (lpS s.2.1) R)):=by
 have dp:=H0.1.1.1;have dn:=H0.1.1.2;have dm:=H0.1.2;refine cb1 36 vs func64 hs ?_;refine go2 ?_;refine nB rs λb1 cl aj=>(nA (ρ:=(rpP rpV (rpP rpV (rpS (rpP rpI (rpP rpI (rpQ j))))))) (X:=((Value.slice none 0 0),((Value.slice none 0 0),[]))) qQ (yA fD (yA fD wC)) λb2 ck bs=>(go3 ?_));refine zJ 8 _ [(7,(3,39,[.slice none 0 0,.slice none 0 0,.slice none 0 0]))] [(0,.q),(1,.q),(3,.q),(4,.q),(2,.c),(5,.c),(6,.c),(7,.a),(8,.t)] zX (jD.cons I I (uM qQ I I) jD.nil) zou (uN I I kF) (λr hr=>hr) (go1 ?_);refine wX I (xB uQ (y6i pH) aj) λv7 r7=>(go1 ?_);refine wX I (xB yIM (y6u (y6u pH)) aj) λdh cc=>?_;refine w_c I (iU 31 9 ?_);have be:=RL.nil (ρ:=rpT (rpQ k)) (h:=h0);refine fK (A:=[]) (λX=>uK (zR (ρ:=(tPt k)) (bytes:=168) underlying35 yK I I I I nP I I be r7 bO bO)) I (xO zoy) ?_
 rintro v8 q8 ⟨bi,cj,rfl,bp⟩
 refine w_c I (iU 237 5 ?_);have bd:=RL.nil (ρ:=rpP rpI (rpP rpI (rpQ j))) (h:=h0);refine fK (A:=[]) (λX=>uK (zR (ρ:=(rpP rpI (rpP rpI (rpQ j)))) (bytes:=72) underlying37 zT6 I I I I nP I I bd cc bO bO)) I (xO zoy) ?_
 rintro df dl ⟨cn,cq,rfl,bg⟩
 refine w_c I (xY (A:=[]) (ρ:=(rpP rpI (rpP rpI (rpQ j)))) bg dK ?_);intro h1 dq ba;refine sX (xV (ρ:=(rpP rpV (rpP rpV (rpS (rpP rpI (rpP rpI (rpQ j))))))) (xN (ps':=[(0,_),(2,_)]) underlying39 qQ I I (sM underlying39) e4z I (yA fD (yA fD wC)) (zD I (y6i (y5u _)) (eH bi) (zD I (y6u (y6u (y5u _))) ba zN)))) λde cb=>?_;refine w_a I I (λb3=>?_);have br:(rpP rpV (rpP rpV (rpS (rpP rpI (rpP rpI (rpQ j)))))).R h1 [.slice none 0 0,.slice none 0 0,.slice none 0 0] ((Value.slice none 0 0),((Value.slice none 0 0),[])):=(yA fD (yA fD wC));refine yG (A:=[]) I (uB sizeOf39 pH br cb) λbm bh=>(go9 ?_);refine xJ 53 14 ?_;have bc:=RL.nil (ρ:=rpP (tPl m n) (rpP rpV qF)) (h:=h1);refine gcL (ι:=Nat×List Value×List Res×List Value×Value×List Value×Value×List Value×Mem) (λ(f,us,R,ae,H,D,O,M,ma)=>(MLe h1 ma/\((rpP rpV (rpP rpV (rpS (rpP rpI (rpP rpI (rpQ j)))))).R ma ae (H,(O,s.2.2))/\RL (tPt k) ma D s.1/\H.oneCell'=true/\RL (rpP (tPl m n) (rpP rpV qF)) ma M (fvZ s.2.1 us f)/\O.oneCell'=true/\f<=s.2.1.length/\us.length=f/\mC 22 (rpS rpI) ma us ((lpS s.2.1).take f) R),[(1,vP b1 0),(2,vP b2 0),(3,vP b3 0),(4,vI ↑f)],(.gs 53 14 O (fvZ s.2.1 us f).length M::.var b3 39 ae::.gs 31 9 H s.1.length D::.var b2 39 ck::.var b1 39 cl::R),ma,s.2.1.length-f)) (0,[],([]:List Res),bm,v8,cj,(.slice none 0 0),[],h1) ?_ ?_
 · exact⟨mle,bh,bp.up,bi,bc,I,zot,I,I⟩
 rintro⟨f,us,R,ae,H,D,O,M,ma⟩ ⟨co,J,aa,ad,Z,ax,dt,am,bl⟩
 refine yY ?_;have dr:(fvZ s.2.1 us f).length=f:=yW _ _;refine go5 ?_;refine lX (xB fN (y6u (y6i pH)) aj) λdd di=>(gc4 (λbj=>?_) λbj=>?_)
 ·
  refine go7 ?_;refine lX (xB fN (y6u (y6i pH)) aj) λdc ca=>(go1 ?_);refine lX (xI zA f underlying36 bE ca) λdb bz=>(lX (xA bE bz) λda bx=>?_);obtain⟨ai,az,bb⟩:=yN3 bx;refine nA (ρ:=(rpP (tPl m n) (rpP rpV qF))) (X:=((zT,(0:Rat)),((Value.slice none 0 0),([]:List Nat)))) jK (yA (yA (yR (yE oM)) (yE oM)) (yA fD gS)) λb5 du bq=>(zP (A:=[]) (uB sizeOf53 pH bq az) λci ab=>(go5 ?_));refine lX (sN (xB cC (y6u (y6i pH)) ab)) λcz bw=>?_;subst bw;refine uY (vs:=[_]) I I I I call99 ⟨I,y5i⟩ (λw hs=>zOO hs bb (by first|omega|exact zci (H0.2.1 f oM).1 dC|(intro x hx;obtain⟨q,hq,rfl⟩:=zL8 [] hx;exact zci ((H0.2.1 f oM).2 q hq) dC)) (by first|omega|exact zci (H0.2.1 f oM).1 dC|(intro x hx;obtain⟨q,hq,rfl⟩:=zL8 [] hx;exact zci ((H0.2.1 f oM).2 q hq) dC))) ?_;intro cy h2 dv cf aw;obtain⟨C,ah,aw,rfl,ac,U⟩:=aw;obtain rfl:=yNK aw
  change RL (rpS rpI) h2 ah ((s.2.1.getD f zA).2.1) at U
  refine go1 ?_;refine zP (A:=[_]) (uB sizeOf51 (y6u (y6i pH)) ab (eH ac)) λch av=>(go4 ?_);refine lX (sN (xB fN (y6u (y6i pH)) J)) λcw bv=>?_;subst bv;refine lX (xB bE pH av) λcv bu=>(zG (zL (ρ:=(rpP (tPl m n) (rpP rpV qF))) (m:=1) (xs:=[(((s.2.1.getD f zA).1,(ai,(s.2.1.getD f zA).2.2)).1,(C,(((s.2.1.getD f zA).1,(ai,(s.2.1.getD f zA).2.2)).2).2))]) (ps':=[(0,_)]) underlying36 jK I I I (yA (yA (yR (yE oM)) (yE oM)) (yA fD gS)) e2z (zD I (y5e (y5u _) fv0 0 dC) bu zN) zom nP) I I I ?_)
  rintro cu dk ⟨cp,rfl,bf⟩
  refine zQ (A:=[]) (ρ:=(rpP (tPl m n) (rpP rpV qF))) bf ?_;intro h3 ce ap;refine xQ (A:=[_,_]) (uK (zR (ρ:=(rpP (tPl m n) (rpP rpV qF))) (bytes:=264) underlying36 jK I I I I nP I I Z.up ap bO bO)) I I I ?_
  rintro bo dj ⟨ao,bn,rfl,an⟩
  rw[show((fvZ s.2.1 us f)++[(((s.2.1.getD f zA).1,(ai,(s.2.1.getD f zA).2.2)).1,(C,(((s.2.1.getD f zA).1,(ai,(s.2.1.getD f zA).2.2)).2).2))])=(fvZ s.2.1 (us++[C]) (f+1)) by exact yCK C am] at an ⊢;refine go1 ?_;refine zP (A:=[_,_,_]) (uB sizeOf36 (y6u (y6i pH)) J (eH ao)) λay au=>(go4 ?_);refine zW7 (A:=[]) (B:=[_,_,_,_,_,_]) (R:=R) (go4 ?_);refine xK (A:=[]) ?_;refine gqL ((f+1),(us++[C]),(R++[.gs 22 1 C ((s.2.1.getD f zA).2.1).length ah]),ay,H,D,bo,bn,h3) ?_ ?_
  · exact⟨mle,au,aa.up,ad,an,ao,zot,by rw[lAz,am];rfl,by rw[yBA oM];exact(bl.mono (cf.trans ce)).snoc (by rw[am,zei,zMA];omega) ac U.up⟩
  omega
 have ef:f=s.2.1.length:=by omega
 have cd:us.length=s.2.1.length:=by omega
 have bk:mC 22 (rpS rpI) ma us (lpS s.2.1) R:=by rw[<-yFV s.2.1,<-ef];exact bl
 refine go7 ?_;refine lX (xB jP pH J) λct bt=>(zP (A:=[_,_,_]) (uB sizeOf39 pH bs bt) λcg ar=>(go3 ?_));subst am;refine yCA (A:=[_,_]) (wG (jG (t:=2) jP mh3 I ar) ?_);intro cm ak aq;refine kV (.cons_cons _ (.cons_cons _ (.cons _ (.cons _ (.cons _ (zmi _)))))) (λE S=>zS I ak E S) ?_;exact⟨_,_,_,_,us,_,aq,I,⟨ad,ax,cd⟩,aa.up,Z.up,bk⟩
end Go.Proofs.YtpkaegemlpaenaaGreat
namespace Bk
open Go Go.RowKit
def mpS(m:Mp)(l:List Pt)(i:Nat):List Pt:=wS (λu=>if u<i then wD m (l.getD u zT) else l.getD u zT) l.length
theorem eC(m:Mp)(l:List Pt)(i:Nat):(mpS m l i).length=l.length:=yW _ _
theorem zL3{m:Mp}{l:List Pt}{i u:Nat}(hu:u<l.length):(mpS m l i).getD u zT=if u<i then wD m (l.getD u zT) else l.getD u zT:=uE _ zT hu
theorem mp_0(m:Mp)(l:List Pt):mpS m l 0=l:=by
 refine cS zT (eC m l 0) λu C=>?_;rw[eC] at C;rw[zL3 C,zae (z0i u)]
theorem yKR{m:Mp}{l:List Pt}{i:Nat}(hi:i<l.length):(mpS m l i).set i (wD m (l.getD i zT))=mpS m l (i+1):=by
 refine cS zT (by rw[lS,eC,eC]) λu C=>?_;rw[lS,eC] at C;rw[zL3 C]
 by_cases e:u=i
 · subst e
   rw[zau (Nat.lt_succ_self u),zoa,yti (by rw[eC];exact C)];rfl
 · rw[zoa,ymi (λh=>e h.symm),<-zoa,zL3 C]
   by_cases c:u<i
   · rw[zau c,zau zot]
   · rw[zae c,zae zot]
theorem yKS(m:Mp)(l:List Pt):mpS m l l.length=l.map (wD m):=by
 refine cS zT (by rw[eC,zde]) λu C=>?_;rw[eC] at C;rw[zL3 C,zau C,qI (wD m) zT zT C]
def gZ(g:Fc->Pl)(F:List Fc)(vs:List Value)(i:Nat):List FV:=wS (λu=>(if u<i then g (F.getD u zA) else(F.getD u zA).1,(vs.getD u nV,(F.getD u zA).2.2))) F.length
section
variable {g:Fc->Pl}{F:List Fc}{vs:List Value}{i u:Nat}
theorem gz_0(h:vs.length=F.length):fvZ F vs vs.length=gZ g F vs 0:=by
 unfold fvZ gZ;rw[h];exact tD _ λu _=>by rw[zae (z0i u)]
theorem eO:(gZ g F vs i).length=F.length:=yW _ _
theorem dP(hu:u<F.length):(gZ g F vs i).getD u fv0=(if u<i then g (F.getD u zA) else(F.getD u zA).1,(vs.getD u nV,(F.getD u zA).2.2)):=uE _ fv0 hu
theorem yLC{x:Pl}(hi:i<F.length)(hx:x=g (F.getD i zA)):(gZ g F vs i).set i (x,((gZ g F vs i).getD i fv0).2)=gZ g F vs (i+1):=by
 rw[dP hi,hx];refine cS fv0 (by rw[lS,eO,eO]) λu C=>?_;rw[lS,eO] at C;rw[dP C]
 by_cases e:u=i
 · subst e
   rw[zau (Nat.lt_succ_self u),zoa,yti (by rw[eO];exact C)];rfl
 · rw[zoa,ymi (λh=>e h.symm),<-zoa,dP C]
   by_cases c:u<i
   · rw[zau c,zau zot]
   · rw[zae c,zae zot]
theorem yLD{h:Mem}{π:Rp Pl}{cs:List Value}{G:List (List Int)->List (List Int)}(r:RL (rpP π (rpP rpV qF)) h cs (gZ g F vs F.length))(s:zE7 h vs (λu=>G (F.getD u zA).2.1) F.length):RL (rpP π (rpP (rpS (rpS rpI)) qF)) h cs (F.map λf=>(g f,(G f.2.1,f.2.2))):=by
 refine yHO r (by rw[eO,zde]) λu C=>?_;rw[eO] at C;rw[dP C,qI (λf:Fc=>(g f,(G f.2.1,f.2.2))) zA zA C,zau C];exact⟨I,I,s u C⟩
end
def tnN(m:Mp)(n:Pt):Pt:=T3.mk (zF (T3.mk (ivM m).x.x (ivM m).y.x (ivM m).z.x) n) (zF (T3.mk (ivM m).x.y (ivM m).y.y (ivM m).z.y) n) (zF (T3.mk (ivM m).x.z (ivM m).y.z (ivM m).z.z) n)
def zU9(m:Mp)(n:Pt):Nat->Pt
  |0=>zT
  |q+1=>(zU9 m n q).set q (zF (T3.mk ((zW3 m).1.x.at q) ((zW3 m).1.y.at q) ((zW3 m).1.z.at q)) n)
def mvP(m:Mp)(P:List Pt)(f:Fc):Pl:=scZ (tnN m f.1.1,zF (tnN m f.1.1) (P.getD ((f.2.1.getD 0 []).getD 0 0).toNat zT))
def mvL(m:Mp)(L:List (List Int)):List (List Int):=rvL L (if yQ (qN m)<0 then L.length else 0)
def mvF(m:Mp)(P:List Pt)(f:Fc):Fc:=(mvP m P f,(mvL m f.2.1,f.2.2))
def mvS(m:Mp)(s:Sd):Sd:=(s.1.map (wD m),(s.2.1.map (mvF m (s.1.map (wD m))),s.2.2))
def mvR(m:Mp)(s:Sd):Sd:=if qN m=0 then([],([],[])) else mvS m s
end Bk
namespace Go.Proofs.YtpkaegemlpaenaaGreat
open Bk Go Tryz
attribute [local irreducible] GL GC GQ W OpV
theorem zLS{w0:World}{h0:Mem}(hs:MLe h0 (mem w0)){k:Nat}{vM:Value}{M:(T3 Tq)}(rM:(rpT (tPt k)).Is h0 vM M)(H0:1<=k):
 y8i 101 #[vM] w0 h0 (λh r=>(rpT (tPt k)).Is h r (yGR M)):=by
 refine cb1 24 vM func101 hs ?_;refine go2 ?_;refine nB rM λU aj an=>(nA (ρ:=(rpT (tPt k))) (X:=(T3.mk zT zT zT)) zMJ (yR (yR (yE oM))) λb2 ai am=>(go4 ?_));refine nA (ρ:=(rpT (tPt k))) (X:=(T3.mk zT zT zT)) zMJ (yR (yR (yE oM))) λO ar ak=>(go9 ?_);refine gcL (ι:=Nat×List Value×Mem) (λ(i,D,ma)=>(MLe h0 ma/\((rpT (tPt k)).R ma D (clO M i)/\i<=3),[(1,vP U 0),(2,vP b2 0),(3,vP O 0),(4,vI ↑i)],[.var O 56 D,.var b2 56 ai,.var U 56 aj],ma,3-i)) (0,ar,h0) ?_ ?_
 · exact⟨mle,ak,oM⟩
 rintro⟨i,D,ma⟩ ⟨av,J,ad⟩
 refine yY ?_;have bb:=ad;refine gc7 (λaq=>?_) λaq=>?_
 ·
  refine uR ?_;refine gcL (ι:=Nat×List Value×Mem) (λ(q,C,mb)=>(MLe ma mb/\((rpT (tPt k)).R mb C ((clO M i).set i (clR M i ((clO M i).at i) q))/\q<=3),[(1,vP U 0),(2,vP b2 0),(3,vP O 0),(4,vI ↑i),(5,vI ↑q)],[.var O 56 C,.var b2 56 ai,.var U 56 aj],mb,3-q)) (0,D,ma) ?_ ?_
  · exact⟨mle,(Rp.castR J (by exact(zVC _ oM).symm)),oM⟩
  rintro⟨q,C,mb⟩ ⟨au,H,ba⟩
  refine yY ?_;refine gc7 (λae=>?_) λae=>?_
  ·
   refine go4 ?_;refine zJ 9 _ [] (zai 0 9 [(9,.t)]) zX nX zou nX (λr hr=>hr) (go4 ?_);refine wZ I (λ_ _=>(zW (sz:=9) q underlying56 sizeOf31 I I I oM).cv (show _=vP U ((q*9+0)) from zbi (vP U) oM)) I (wZ I (λ_ _=>(zW (sz:=3) i underlying31 sizeOf29 I I I oM).cv (show _=vP U ((q*9+(i*3+0))) from zbi (vP U) oM)) I (wX I (xB yC (Pc.ta (Pc.ta pH i oM) q oM) an) λaz ap=>(wZ I (λ_ _=>(zW (sz:=9) i underlying56 sizeOf31 I I I oM).cv (show _=vP O ((i*9+0)) from zbi (vP O) oM)) I (wZ I (λ_ _=>(zW (sz:=3) q underlying31 sizeOf29 I I I oM).cv (show _=vP O ((i*9+(q*3+0))) from zbi (vP O) oM)) I (yG (A:=[]) I (uB sizeOf29 (Pc.ta (Pc.ta pH q oM) i oM) H ap) λah ac=>(go8 ?_))))));refine gqL ((q+1),ah,mb) ?_ ?_
   · exact⟨mle,(Rp.castR ac (by rw[zVD _ _ oM,zQN _ _ _ oM];rfl)),oM⟩
   omega
  have ej:q=3:=by omega
  refine qE ?_;refine gqL ((i+1),C,mb) ?_ ?_
  · exact⟨mle,(Rp.castR H (by rw[ej];rfl)),oM⟩
  omega
 have ei:i=3:=by omega
 refine go7 ?_;refine lX (xB yMS pH J) λay ao=>(zP (A:=[_]) (uB sizeOf56 pH am ao) λaw ab=>(go3 ?_));refine wG (jG (t:=2) yMS mh1 I ab) ?_;intro ax aa Z;refine yN (λE S=>zS I aa E S) ?_;exact(Rp.Is.cast Z (by rw[ei];rfl))
theorem zLR{w0:World}{h0:Mem}(hs:MLe h0 (mem w0)){k l:Nat}{vm:Value}{m:((T3 Tq)×Tq)}(rm:(rpP (rpT (tPt k)) (tPt l)).Is h0 vm m)(H0:k<=10000)(H1:l<=10000):
 y8i 65 #[vm] w0 h0 (λh r=>∃u0,r=.tuple #[u0,vI (if qN m=0 then 9 else 0)]/\(rpP (rpT (tPt (45*k+80))) (tPt (200*k+10*l+400))).Is h u0 (if qN m=0 then(T3.mk zT zT zT,zT) else zW3 m)):=by
 refine cb1 54 vm func65 hs ?_;refine go2 ?_;refine nB rm λb1 eh C=>(nA (ρ:=(rpP (rpT (tPt 1)) (tPt 1))) (X:=((T3.mk zT zT zT),zT)) dO (yA (yR (yR (yE dC))) (yR (yE dC))) λb2 eg av=>(go5 ?_));refine lX (xB zE2 pH C) λv7 r7=>(cL (ev1 I) call63 (λw hs=>zEO hs r7 oM) λv8 h1 ea r8=>(nA (ρ:=(rpQ (15*k+18))) (X:=(0:Rat)) xU (yE oM) λb4 ef az=>(zP (A:=[]) (uB sizeOf29 pH az r8) λci M=>(go5 ?_))));refine lX (xB yC pH M) λv9 r9=>(cL (ev1 I) call48 (λw hs=>uS hs r9 oM) λaw h2 dz bt=>?_);obtain rfl:aw=vI (yQ (qN m)):=bt;have bu:=xC (qN m);refine gc3 (λO=>?_) λO=>?_
 ·
  have hz:qN m=0:=uL.1 oM;refine go2 ?_;refine lX (xV (ρ:=(rpP (rpT (tPt 1)) (tPt 1))) (xN (ps':=[]) underlying58 dO I I (zGP underlying58) trivial I (yA (yR (yR (yE dC))) (yR (yE dC))) zN)) λdq bs=>(zP (A:=[_]) (uB sizeOf58 pH av bs) λch au=>(go5 ?_));refine wG (jG (t:=2) zE2 mh1 I au) ?_;intro cj ap ar;refine yN (λE S=>qO I ap (gH I) E S) ?_;refine⟨_,?_,(Rp.Is.cast (Rp.Is.le ar (Le.p (Le.t (Le.t (Le.q (l:=45*k+80) oM))) (Le.t (Le.q (l:=200*k+10*l+400) oM)))) (by exact(zau hz).symm))⟩;rw[zau hz]
 have hz:¬qN m=0:=λe=>O (by rw[uL.2 e]);refine go3 ?_;refine zJ 4 _ [(3,(5,29,[.bool false,.slice none 0 0,.slice none 0 0]))] [(1,.q),(0,.c),(2,.c),(3,.a),(4,.t)] zX (jD.cons I I (uM xU I I) jD.nil) zou (uN I I kF) (λr hr=>hr) (wX I (xB yC pH M) λdn bq=>?_);refine w_c I (sC (vs:=[vI (1)]) ⟨I,y5i⟩ call27 (λw hs=>qP hs dC dC) λdp h3 dy br=>?_);refine w_c I (sC (ev2 I I) call100 (λw hs=>zOE hs br bq.up oM) λdm h4 dx ao=>?_);replace ao:=Rp.Is.le ao (Le.q (l:=15*k+20) oM);refine w_a I I (λb5=>?_);have ay:(rpQ (15*k+18)).R h4 [.bool false,.slice none 0 0,.slice none 0 0] (0:Rat):=(yE oM);have aq:=(Le.q (l:=15*k+20) oM).R ay;refine yG (A:=[]) I (uB sizeOf29 pH aq ao) λcg D=>(go3 ?_);refine zJ 31 _ [(30,(6,58,[.bool false,.slice none 0 0,.slice none 0 0,.bool false,.slice none 0 0,.slice none 0 0,.bool false,.slice none 0 0,.slice none 0 0,.bool false,.slice none 0 0,.slice none 0 0,.bool false,.slice none 0 0,.slice none 0 0,.bool false,.slice none 0 0,.slice none 0 0,.bool false,.slice none 0 0,.slice none 0 0,.bool false,.slice none 0 0,.slice none 0 0,.bool false,.slice none 0 0,.slice none 0 0,.bool false,.slice none 0 0,.slice none 0 0,.bool false,.slice none 0 0,.slice none 0 0,.bool false,.slice none 0 0,.slice none 0 0]))] (zai 0 7 (zai 9 7 (zai 18 7 [(7,.c),(8,.c),(16,.c),(17,.c),(25,.c),(26,.c),(27,.q),(28,.c),(29,.q),(30,.a),(31,.t)]))) zX (jD.cons I I (uM dO I I) jD.nil) (wL zou) (uN I I kF) (λr hr=>hr) (wX I (xB yC pH D) λdl bp=>(go2 ?_));refine wX I (xB zK (y6i (y7i pH)) C) λdk bo=>(go2 ?_);refine wX I (xB zK (y6i (y7u pH)) C) λdj bn=>(wX I (xB yC pH D) λdf bm=>(go2 ?_));refine wX I (xB zK (y6i (y7u pH)) C) λde bl=>(go2 ?_);refine wX I (xB zK (y6i (y6e pH)) C) λdd bk=>(wX I (xB yC pH D) λda bj=>(go2 ?_));refine wX I (xB zK (y6i (y6e pH)) C) λcz bi=>(go2 ?_);refine wX I (xB zK (y6i (y7i pH)) C) λcy bh=>?_;refine w_c I (sC (ev2 I I) call102 (λw hs=>lG hs bo bn oM) λdi h5 dw an=>?_);replace an:=Rp.Is.le an (Le.t (Le.q (l:=4*k+3) oM));refine w_c I (sC (ev2 I I) call20 (λw hs=>pJ hs bp.up an oM) λdh h6 dv am=>?_);replace am:=Rp.Is.le am (Le.t (Le.q (l:=19*k+23) oM));refine w_c I (sC (ev2 I I) call102 (λw hs=>lG hs bl.up bk.up oM) λdc h7 du ak=>?_);replace ak:=Rp.Is.le ak (Le.t (Le.q (l:=4*k+3) oM));refine w_c I (sC (ev2 I I) call20 (λw hs=>pJ hs bm.up ak oM) λdb h8 dt aj=>?_);replace aj:=Rp.Is.le aj (Le.t (Le.q (l:=19*k+23) oM));refine w_c I (sC (ev2 I I) call102 (λw hs=>lG hs bi.up bh.up oM) λcw h9 dr ai=>?_);replace ai:=Rp.Is.le ai (Le.t (Le.q (l:=4*k+3) oM));refine w_c I (sC (ev2 I I) call20 (λw hs=>pJ hs bj.up ai oM) λcv ee cf ah=>?_);replace ah:=Rp.Is.le ah (Le.t (Le.q (l:=19*k+23) oM));refine wX I (xV (ρ:=(rpT (tPt (19*k+23)))) (xS (ps':=[(0,_),(1,_),(2,_)]) underlying56 zMJ I I sizeOf31 e6 I (yR (yR (yE oM))) (zD I (y6e (y5u _)) am.up (zD I (y7i (y5u _)) aj.up (zD I (y7u (y5u _)) ah zN))))) λcu bg=>?_;refine w_c I (sC (ev1 I) call101 (λw hs=>zLS hs bg oM) λct bv ce bf=>(wX I (xV (ρ:=(rpP (rpT (tPt (19*k+23))) (tPt 1))) (xN (ps':=[(0,_)]) underlying58 dO I I (zGP underlying58) e2z I (yA (yR (yR (yE oM))) (yR (yE dC))) (zD I (y6i (y5u _)) bf zN))) λcq be=>?_));refine w_a I I (λb6=>?_);have ax:(rpP (rpT (tPt (45*k+80))) (tPt (45*k+80))).R bv [.bool false,.slice none 0 0,.slice none 0 0,.bool false,.slice none 0 0,.slice none 0 0,.bool false,.slice none 0 0,.slice none 0 0,.bool false,.slice none 0 0,.slice none 0 0,.bool false,.slice none 0 0,.slice none 0 0,.bool false,.slice none 0 0,.slice none 0 0,.bool false,.slice none 0 0,.slice none 0 0,.bool false,.slice none 0 0,.slice none 0 0,.bool false,.slice none 0 0,.slice none 0 0,.bool false,.slice none 0 0,.slice none 0 0,.bool false,.slice none 0 0,.slice none 0 0,.bool false,.slice none 0 0,.slice none 0 0] ((T3.mk zT zT zT),zT):=(yA (yR (yR (yE oM))) (yR (yE oM)))
 refine yG (A:=[]) I (uB sizeOf58 pH ax (be.le (Le.p (Le.t (Le.t (Le.q (l:=45*k+80) oM))) (Le.t (Le.q (l:=45*k+80) oM))))) λbz H=>(go3 ?_);refine zJ 7 _ [] [(1,.q),(2,.q),(3,.q),(0,.c),(4,.c),(5,.c),(6,.q),(7,.t)] zX nX zou nX (λr hr=>hr) (wX I (xB zE2 pH H) λco bc=>(go1 ?_));refine wX I (xB zK (y6u pH) C) λcn bb=>?_;refine w_c I (sC (vs:=[vI (-1)]) ⟨I,y5i⟩ call27 (λw hs=>qP hs dC dC) λcp ed cd bd=>?_);refine w_c I (sC (ev2 I I) call68 (λw hs=>zJX hs bc.up bb.up oM oM) λcm ec cc ae=>?_);replace ae:=Rp.Is.le ae (Le.t (Le.q (l:=135*k+3*l+249) oM));refine w_c I (sC (ev2 I I) call20 (λw hs=>pJ hs bd.up ae oM) λcl eb cb ad=>?_);replace ad:=Rp.Is.le ad (Le.t (Le.q (l:=135*k+3*l+251) oM));refine go1 ?_;have Z:=(Le.p (Le.refl _) (Le.t (Le.q (l:=135*k+3*l+251) oM))).R H;refine yG (A:=[]) I (uB sizeOf31 (y6u pH) Z ad) λbx ac=>(go4 ?_);refine lX (xB zE2 pH ac) λck ba=>?_;have U:=(Le.p (Le.t (Le.t (Le.q (l:=45*k+80) oM))) (Le.t (Le.q (l:=135*k+3*l+251) oM))).R av;refine zP (A:=[_,_,_]) (uB sizeOf58 pH U ba) λbw ab=>(go4 ?_);refine wG (jG (t:=2) zE2 mh3 I ab) ?_;intro ca J aa;refine yN (λE S=>qO I J (gH I) E S) ?_;refine⟨_,?_,(Rp.Is.cast (Rp.Is.le aa (Le.p (Le.refl _) (Le.t (Le.q (l:=200*k+10*l+400) oM)))) (by simp only[zae hz];rfl))⟩;rw[zae hz]
set_option maxHeartbeats 1000000 in
theorem yAI{w0:World}{h0:Mem}(hs:MLe h0 (mem w0)){k m n j k2 l2:Nat}{vs:Value}{s:Sq}(rs:(tSd k m n j).Is h0 vs s){vmp:Value}{mp:((T3 Tq)×Tq)}(rmp:(rpP (rpT (tPt k2)) (tPt l2)).Is h0 vmp mp)(H0:okS s)(H1:jQ s)(H2:1<=m)(H3:1<=n)(H4:k<=1000)(H5:m<=1000)(H6:n<=1000)(H7:k2<=1000)(H8:l2<=1000)(H9:1<=k2)(H10:1<=l2)(H11:1<=k)(H12:1<=j):
 y8i 28 #[vs,vmp] w0 h0 (λh r=>∃u0,r=.tuple #[u0,vI (if qN mp=0 then 3 else 0)]/\(tSd (3*k+3*k2+l2+10) (600*k2+20*m+2000) (600*k2+20*m+9*k+3*l2+n+2000) j).Is h u0 (mvR mp s)):=by
 have jh:=H0.1.1.1;have jg:=H0.1.1.2;have jf:=H0.1.2;refine cb2 144 vs vmp func28 hs ?_;refine go2 ?_;refine nB rs λb2 bf az=>(nB rmp λb3 be bs=>(nA (ρ:=(tSd (3*k+3*k2+l2+10) (600*k2+20*m+2000) (600*k2+20*m+9*k+3*l2+n+2000) j)) (X:=([],([],[]))) qQ (yA wC (yA wC wC)) λb4 bd co=>(go6 ?_)));refine lX (xB jP pH az) λir fi=>(cL (ev1 I) call62 (λw hs=>zJZ hs fi oM oM oM (by first|omega|exact H0)) λcf h1 jm fh=>?_);obtain rfl:cf=.bool true:=by rw[show cf=vB (jQ s) from fh,xW (by exact H1)]
 refine gv (zZZ I) I (go7 ?_);refine lX (xB zE2 pH bs) λiq fg=>(cL (ev1 I) call63 (λw hs=>zEO hs fg oM) λip h2 jl ff=>(cL (ev1 I) call48 (λw hs=>uS hs ff oM) λdv h3 jk fe=>?_));obtain rfl:dv=vI (yQ (qN mp)):=fe;have fl:=xC (qN mp);refine zAY (λbh=>?_) λbh=>?_
 ·
  have hz:qN mp=0:=uL.1 oM;refine go2 ?_;refine lX (xV (ρ:=(tSd (3*k+3*k2+l2+10) (600*k2+20*m+2000) (600*k2+20*m+9*k+3*l2+n+2000) j)) (xN (ps':=[]) underlying39 qQ I I (sM underlying39) trivial I (yA wC (yA wC wC)) zN)) λio fd=>(zP (A:=[]) (uB sizeOf39 pH co fd) λgq cn=>(go5 ?_));refine wG (jG (t:=4) jP mh0 I cn) ?_;intro gt bv ck;refine yN (λE S=>qO I bv (gH I) E S) ?_;refine⟨_,?_,(Rp.Is.cast ck (by exact(zau hz).symm))⟩;rw[zau hz]
 have bx:¬qN mp=0:=λe=>bh (by rw[uL.2 e]);refine go4 ?_;refine lX (xB jP pH az) λim fc=>?_;refine uY (vs:=[_]) I I I I call64 ⟨I,y5i⟩ (λw hs=>zWM hs fc H0 oM oM) ?_;intro il h4 jr jj bu;obtain⟨wP,fu,U,dt,us,R0,bu,rfl,⟨iz,jb,fj⟩,cl,ay,ar⟩:=bu;refine yCF (A:=[_,_]) (R:=R0) (B:=[_,_,_]) (nA (ρ:=(rpP rpV (rpP rpV (rpS (rpP rpI (rpP rpI (rpQ j))))))) (X:=((Value.slice none 0 0),((Value.slice none 0 0),[]))) qQ (yA fD (yA fD wC)) λb7 jp dy=>(zP (A:=[]) (uB sizeOf39 pH dy bu) λO M=>(go5 ?_)));rw[show s.1=(mpS mp s.1 0) by exact(mp_0 mp s.1).symm] at cl ⊢;refine go4 ?_;refine gcL (ι:=Nat×List Value×Mem) (λ(p,au,ba)=>(MLe h4 ba/\(RL (tPt (3*k+3*k2+l2+10)) ba au (mpS mp s.1 p)/\p<=s.1.length),[(2,vP b2 0),(3,vP b3 0),(4,vP b4 0),(6,vI (yQ (qN mp))),(7,vP b7 0),(8,vI ↑p)],(.var b7 39 O::.gs 31 9 wP (mpS mp s.1 p).length au::.gs 53 14 U (fvZ s.2.1 us us.length).length dt::.var b4 39 bd::.var b3 58 be::.var b2 39 bf::R0),ba,s.1.length-p)) (0,fu,h4) ?_ ?_
 · exact⟨mle,((Le.t (Le.q (l:=3*k+3*k2+l2+10) oM)).rl cl),oM⟩
 rintro⟨p,au,ba⟩ ⟨ah,J,aq⟩
 refine yY ?_;have iy:=aq;have ix:(mpS mp s.1 p).length=s.1.length:=eC _ _ _;refine go5 ?_;replace M:=M.mono ah;refine lX (sN (xB uQ (y6i pH) M)) λik fb=>?_;subst fb;refine gv (jO mh1 underlying35 I) I (gc3 (λdp=>?_) λdp=>?_)
 ·
  refine go4 ?_;refine zJ 11 _ [] (zai 0 9 [(9,.c),(10,.q),(11,.t)]) zX nX (wL zou) nX (λr hr=>hr) (go1 ?_);refine wX I (sN (xB uQ (y6i pH) M)) λij fa=>?_;subst fa;refine go1 ?_;refine wX I (xB zE2 pH bs) λii ez=>(go1 ?_);refine wX I (xB uQ (y6i pH) az) λih ey=>(go1 ?_);refine wX I (xI zT p underlying35 zK ey) λig ew=>(wX I (xA zK ew) λie ev=>?_);refine w_c I (sC (ev2 I I) call29 (λw hs=>zG5 hs ez ev oM oM oM) λid h5 ak eu=>(w_q I (λh' L' hh hR=>(yZ p (hR _ mh1) underlying35 sizeOf31 I I I bO nP).cv (show _=zI 1 wP ((p*9+0)) from zbi (zI 1 wP) zo5)) I ?_));replace J:=J.mono ak;refine zC0 (A:=[_]) (F:=λc_=>RL (tPt (3*k+3*k2+l2+10)) h5 c_ ((mpS mp s.1 p).set p (wD mp (s.1.getD p zT)))) I (rI sizeOf31 (y5e (y5u _) zT p bO) I nP I I J eu I) ?_;intro cd an;rw[show((mpS mp s.1 p).set p (wD mp (s.1.getD p zT)))=(mpS mp s.1 (p+1)) by exact yKR oM] at an ⊢;refine go8 ?_;refine gqL ((p+1),cd,h5) ?_ ?_
  · exact⟨mle,an,oM⟩
  omega
 have ep:p=s.1.length:=by omega
 refine go7 ?_;rw[show(mpS mp s.1 p)=(s.1.map (wD mp)) by rw[ep];exact yKS mp s.1] at J ⊢;refine lX (xB zE2 pH bs) λic es=>(cL (ev1 I) call65 (λw hs=>zLR hs es oM oM) λib h5 ak er=>?_);obtain⟨bi,rfl,Z⟩:=er
 change (rpP (rpT (tPt (45*k2+80))) (tPt (200*k2+10*l2+400))).Is h5 bi (if qN mp=0 then(T3.mk zT zT zT,zT) else zW3 mp) at Z
 replace Z:=Rp.Is.cast (y:=zW3 mp) Z (by rw[zae bx]);refine go3 ?_;refine nA (ρ:=(rpP (rpT (tPt (45*k2+80))) (tPt (200*k2+10*l2+400)))) (X:=((T3.mk zT zT zT),zT)) dO (yA (yR (yR (yE oM))) (yR (yE oM))) λb9 jo dx=>(zP (A:=[]) (uB sizeOf58 pH dx Z) λaj ae=>(go6 ?_));replace ay:=ay.mono (ah.trans ak);rw[show(fvZ s.2.1 us us.length)=(gZ (mvP mp (s.1.map (wD mp))) s.2.1 us 0) by exact gz_0 fj] at ay ⊢;replace ar:=ar.mono (ah.trans ak);replace J:=J.mono ak;refine zQ (A:=[_,_]) (ρ:=(tPt (3*k+3*k2+l2+10))) J ?_;intro h6 fq bl;replace M:=M.mono (ak.trans fq);have H:(rpP (tLs (3*k+3*k2+l2+10)) (rpP rpV (rpS (rpP rpI (rpP rpI (rpQ j)))))).R h6 O ((s.1.map (wD mp)),(U,s.2.2)):=yD9 M bl;refine go4 ?_;refine gcL (ι:=Nat×List Res×List Value×Mem) (λ(i,R1,ab,ma)=>(MLe h6 ma/\(RL (rpP (tPl (600*k2+20*m+2000) (600*k2+20*m+9*k+3*l2+n+2000)) (rpP rpV qF)) ma ab (gZ (mvP mp (s.1.map (wD mp))) s.2.1 us i)/\i<=s.2.1.length/\mC 22 (rpS rpI) ma (us.drop i) ((lpS s.2.1).drop i) R1/\zE7 ma us (λu=>mvL mp (s.2.1.getD u zA).2.1) i),[(2,vP b2 0),(4,vP b4 0),(6,vI (yQ (qN mp))),(7,vP b7 0),(9,vP b9 0),(11,vI ↑i)],(.var b9 58 aj::.var b7 39 O::.gs 53 14 U (gZ (mvP mp (s.1.map (wD mp))) s.2.1 us i).length ab::.var b4 39 bd::.var b3 58 be::.var b2 39 bf::R1),ma,s.2.1.length-i)) (0,R0,dt,h6) ?_ ?_
 · exact⟨mle,((Le.p (Le.p (Le.t (Le.q (l:=600*k2+20*m+2000) oM)) (Le.q (l:=600*k2+20*m+9*k+3*l2+n+2000) oM)) (Le.refl _)).rl ay.up),zot,ar.up,λu hu=>absurd hu (z0i u)⟩
 rintro⟨i,R1,ab,ma⟩ ⟨dl,C,ji,ar,ca⟩
 refine yY ?_;have jn:(gZ (mvP mp (s.1.map (wD mp))) s.2.1 us i).length=s.2.1.length:=eO;have go:(gZ (mvP mp (s.1.map (wD mp))) s.2.1 us (i+1)).length=s.2.1.length:=eO;refine go5 ?_;replace H:=H.mono dl;refine lX (sN (xB fN (y6u (y6i pH)) H)) λia eq=>?_;subst eq;refine gv (jO mh2 underlying36 I) I (gc3 (λdn=>?_) λdn=>?_)
 ·
  obtain⟨dr,R2,rfl,ja,cm,dq⟩:=mC.flip ar oM oM;have bw:=aY H1 (f:=i) oM;have gm:=bw.1.1.1;have gk:=(bw.1.2 0 oM).1.1;have gj:=bw.2 0 oM 0 oM;have iu:(rvL (s.2.1.getD i zA).2.1 0).length=(s.2.1.getD i zA).2.1.length:=bG _ _;refine go7 ?_;refine lX (sN (xB fN (y6u (y6i pH)) H)) λhv eo=>?_;subst eo;refine go1 ?_;refine gv ((yZ i mh2 underlying36 sizeOf53 I I I bO nP).cv (show _=zI 1 U ((i*14+0)) from zbi (zI 1 U) zo5)) I (go6 ?_);refine lX (xB fN (y6u (y6i pH)) az) λhq en=>(go1 ?_);refine lX (xI zA i underlying36 bE en) λhp em=>(lX (xF underlying53 sizeOf50 (y6i pH) em) λho el=>(lX (xF underlying50 sizeOf31 (y6i pH) el) λhn ej=>(lX (xA zK ej) λhm eh=>(nA (ρ:=(tPt m)) (X:=zT) yK (yR (yE oM)) λce gr ct=>(zP (A:=[]) (uB sizeOf31 pH ct eh) λaw br=>(go4 ?_))))));refine nA (ρ:=(tPt (135*k2+3*m+300))) (X:=zT) yK (yR (yE oM)) λax du cq=>(go9 ?_);refine gcL (ι:=Nat×List Value×Mem) (λ(q,aa,mq)=>(MLe ma mq/\((tPt (135*k2+3*m+300)).R mq aa (zU9 mp (s.2.1.getD i zA).1.1 q)/\q<=3),[(2,vP b2 0),(4,vP b4 0),(6,vI (yQ (qN mp))),(7,vP b7 0),(9,vP b9 0),(11,vI ↑i),(12,zI 1 U ((i*14+0))),(13,vP ce 0),(14,vP ax 0),(15,vI ↑q)],(.var ax 31 aa::.var ce 31 aw::.var b9 58 aj::.var b7 39 O::.gs 53 14 U (gZ (mvP mp (s.1.map (wD mp))) s.2.1 us i).length ab::.var b4 39 bd::.var b3 58 be::.var b2 39 bf::.gs 22 1 (us.getD i nV) (rvL (s.2.1.getD i zA).2.1 0).length dr::R2),mq,3-q)) (0,du,ma) ?_ ?_
  · exact⟨mle,cq,oM⟩
  rintro⟨q,aa,mq⟩ ⟨bg,ad,aq⟩
  refine yY ?_;have iw:=aq;refine gc7 (λdm=>?_) λdm=>?_
  ·
   refine go5 ?_;refine zJ 17 _ [(16,(16,31,y7e))] (zai 0 16 [(16,.a),(17,.t)]) zX (jD.cons I I (uM yK I I) jD.nil) (wL zou) (uN I I kF) (λr hr=>hr) (go3 ?_);refine wZ I (λ_ _=>(zW (sz:=3) q underlying31 sizeOf29 I I oM oM).cv (show _=vP b9 ((q*3+0)) from zbi (vP b9) oM)) I (wX I (xB yC (y6i (y6e (Pc.ta pH q oM))) ae) λhl eg=>(go3 ?_));refine wZ I (λ_ _=>(zW (sz:=3) q underlying31 sizeOf29 I I oM oM).cv (show _=vP b9 ((9+(q*3+0))) from zbi (vP b9) (by show 9+q*3=(9+(q*3+0));omega))) I (wX I (xB yC (y6i (y7i (Pc.ta pH q oM))) ae) λhj ef=>(go3 ?_));refine wZ I (λ_ _=>(zW (sz:=3) q underlying31 sizeOf29 I I oM oM).cv (show _=vP b9 ((9+(9+(q*3+0)))) from zbi (vP b9) (by show 18+q*3=(9+(9+(q*3+0)));omega))) I (wX I (xB yC (y6i (y7u (Pc.ta pH q oM))) ae) λhe ee=>(wX I (xV (ρ:=(tPt (45*k2+80))) (xS (ps':=[(0,_),(1,_),(2,_)]) underlying31 yK I I sizeOf29 e6 I (yR (yE oM)) (zD I (y6e (y5u _)) eg (zD I (y7i (y5u _)) ef (zD I (y7u (y5u _)) ee zN))))) λhb ed=>?_));refine w_a I I (λjq=>?_);have cp:(tPt (45*k2+80)).R mq y7e zT:=(yR (yE oM));refine yG (A:=[]) I (uB sizeOf31 pH cp ed) λft bq=>(go4 ?_);refine lX (xB zK pH bq) λgz ec=>(lX (xB zK pH br) λgy eb=>(cL (ev2 I I) call56 (λw hs=>tW hs ec eb oM) λgx h7 bc bt=>?_));replace bt:=Rp.Is.le bt (Le.q (l:=135*k2+3*m+249) oM);refine gv ((zW (sz:=3) q underlying31 sizeOf29 I I oM oM).cv (show _=vP ax ((q*3+0)) from zbi (vP ax) oM)) I (zP (A:=[_]) (uB sizeOf29 (Pc.ta pH q oM) ad (bt.le (Le.q (l:=135*k2+3*m+300) oM))) λcc bp=>(go8 ?_));refine xK (A:=[]) ?_;refine gqL ((q+1),cc,h7) ?_ ?_
   · exact⟨mle,bp,oM⟩
   omega
  have fr:q=3:=by omega
  refine go6 ?_;refine zJ 20 _ [] (zai 0 15 [(15,.c),(16,.q),(17,.c),(18,.q),(19,.q),(20,.t)]) zX nX (wL zou) nX (λr hr=>hr) (go1 ?_);refine wX I (xB zK pH ad) λgw ea=>(wX I (xB zK pH ad) λgu dz=>(go1 ?_));replace H:=H.mono bg;refine wX I (xB uQ (y6i pH) H) λgi dk=>(go1 ?_);replace C:=C.mono bg;refine w_q I (λh' L' hh hR=>kT (y5e (y5u _) fv0 i bO) I nP (C.mono hh) (hR _ mh4) I) I (w_q I (λh' L' hh hR=>(qX (y5e (y5u _) fv0 i bO) I nP (C.mono hh) (hR _ mh4) underlying53 I sizeOf51 I).cv (show _=zI 1 U ((i*14+12)) from zbi (zI 1 U) (by show(i*14+0)+12=(i*14+12);omega))) I (cY (F:=λv_=>((((gZ (mvP mp (s.1.map (wD mp))) s.2.1 us i).getD i fv0).2).1)=v_) I (sN (wO cC (y5e (y6u (y6i (y5u _))) fv0 i bO) I nP I C I)) (tM mh4) I ?_));intro cj dj;obtain rfl:cj=(us.getD i nV):=dj.symm.trans (by rw[dP oM]);refine w_q I (λh' L' hh hR=>(yZ (q:=0) 0 (hR _ (.tail _ mh7)) underlying51 sizeOf22 I I I bO nP).cv (show _=zI 1 (us.getD i nV) 0 from zbi (zI 1 (us.getD i nV)) zo5)) I (cY (F:=λv_=>(rpS rpI).Is mq v_ ((rvL (s.2.1.getD i zA).2.1 0).getD 0 [])) I (wO fL (y5e (y5u _) [] 0 bO) I nP I cm.up I) (tM (.tail _ mh7)) I ?_);intro gh di;refine cY (F:=λv_=>AtP rpI mq v_ (((rvL (s.2.1.getD i zA).2.1 0).getD 0 []).getD 0 (0:Int))) I (tT (q:=0) (0:Int) 0 underlying22 ty3 I I di I (by rw[zVP];omega) nP) j5 I ?_;intro gg dh;refine wX I (xA ty3 dh) λgf df=>?_;obtain⟨rfl,fm,fk⟩:=kX df;refine cY (F:=λv_=>AtP (tPt (3*k+3*k2+l2+10)) mq v_ ((s.1.map (wD mp)).getD ((((s.2.1.getD i zA).2.1.getD 0 []).getD 0 0).toNat) zT)) I (tT zT ((((s.2.1.getD i zA).2.1.getD 0 []).getD 0 0).toNat) underlying35 zK I I dk (by rw[zVP];omega) (by rw[zde];omega) nP) j5 I ?_;intro ge de;refine wX I (xA zK de) λgc dd=>?_;refine w_c I (sC (ev2 I I) call56 (λw hs=>tW hs dz dd oM) λgb h7 bc ap=>?_);replace ap:=Rp.Is.le ap (Le.q (l:=9*k+414*k2+3*l2+9*m+939) oM);refine wX I (xV (ρ:=(tPl (135*k2+3*m+300) (9*k+414*k2+3*l2+9*m+939))) (xN (ps':=[(0,_),(1,_)]) underlying50 rK I I (sL underlying50) e4z I (yA (yR (yE oM)) (yE oM)) (zD I (y6i (y5u _)) ea.up (zD I (y6u (y5u _)) ap zN)))) λga dc=>?_;refine w_c I (sC (ev1 I) call66 (λw hs=>zJ0 hs dc oM oM) λfz h8 fp ao=>?_);replace ao:=Rp.Is.le ao (Le.p (Le.t (Le.q (l:=540*k2+12*m+1210) oM)) (Le.q (l:=9*k+549*k2+3*l2+12*m+1249) oM));replace C:=C.mono (bc.trans fp);refine w_q I (λh' L' hh hR=>kT (y5e (y5u _) fv0 i bO) I nP (C.mono hh) (hR _ mh4) I) I (w_q I (λh' L' hh hR=>(qX (y5e (y5u _) fv0 i bO) I nP (C.mono hh) (hR _ mh4) underlying53 I sizeOf50 I).cv (show _=zI 1 U ((i*14+0)) from zbi (zI 1 U) (by show(i*14+0)+0=(i*14+0);omega))) I (zC0 (A:=[_,_,_,_]) (F:=λc_=>RL (rpP (tPl (600*k2+20*m+2000) (600*k2+20*m+9*k+3*l2+n+2000)) (rpP rpV qF)) h8 c_ ((gZ (mvP mp (s.1.map (wD mp))) s.2.1 us i).set i (scZ ((zU9 mp (s.2.1.getD i zA).1.1 q),zF (zU9 mp (s.2.1.getD i zA).1.1 q) ((s.1.map (wD mp)).getD ((((s.2.1.getD i zA).2.1.getD 0 []).getD 0 0).toNat) zT)),((gZ (mvP mp (s.1.map (wD mp))) s.2.1 us i).getD i fv0).2))) I (rI sizeOf50 (y5e (y6i (y5u _)) fv0 i bO) I nP I I C (ao.le (Le.p (Le.t (Le.q (l:=600*k2+20*m+2000) oM)) (Le.q (l:=600*k2+20*m+9*k+3*l2+n+2000) oM))) I) ?_));intro av D;rw[show((gZ (mvP mp (s.1.map (wD mp))) s.2.1 us i).set i (scZ ((zU9 mp (s.2.1.getD i zA).1.1 q),zF (zU9 mp (s.2.1.getD i zA).1.1 q) ((s.1.map (wD mp)).getD ((((s.2.1.getD i zA).2.1.getD 0 []).getD 0 0).toNat) zT)),((gZ (mvP mp (s.1.map (wD mp))) s.2.1 us i).getD i fv0).2))=(gZ (mvP mp (s.1.map (wD mp))) s.2.1 us (i+1)) by exact yLC oM (by rw[fr];rfl)] at D ⊢;refine go8 ?_;refine gcL (ι:=Nat×List Value×Mem) (λ(k,ai,mb)=>(MLe h8 mb/\(RL (rpS rpI) mb ai (rvL (s.2.1.getD i zA).2.1 k)/\k<=(s.2.1.getD i zA).2.1.length/\(¬yQ (qN mp)<0->k=0)),[(2,vP b2 0),(4,vP b4 0),(6,vI (yQ (qN mp))),(7,vP b7 0),(9,vP b9 0),(11,vI ↑i),(12,zI 1 U ((i*14+0))),(17,vI ↑k)],(.var ax 31 aa::.var ce 31 aw::.var b9 58 aj::.var b7 39 O::.gs 53 14 U (gZ (mvP mp (s.1.map (wD mp))) s.2.1 us (i+1)).length av::.var b4 39 bd::.var b3 58 be::.var b2 39 bf::.gs 22 1 (us.getD i nV) (rvL (s.2.1.getD i zA).2.1 k).length ai::R2),mb,(s.2.1.getD i zA).2.1.length-k)) (0,dr,h8) ?_ ?_
  · exact⟨mle,cm.up,zot,λ_=>I⟩
  rintro⟨k,ai,mb⟩ ⟨gn,ac,je,jc⟩
  refine yY ?_;have jd:=(H0.2.1 i oM).1;have iv:(rvL (s.2.1.getD i zA).2.1 k).length=(s.2.1.getD i zA).2.1.length:=bG _ _;refine go5 ?_;refine gv (kT (y5e (y5u _) fv0 i bO) I nP D.up mh4 I) I (gv ((qX (y5e (y5u _) fv0 i bO) I nP D.up mh4 underlying53 I sizeOf51 I).cv (show _=zI 1 U ((i*14+12)) from zbi (zI 1 U) (by show(i*14+0)+12=(i*14+12);omega))) I (zI5 (F:=λv_=>((((gZ (mvP mp (s.1.map (wD mp))) s.2.1 us (i+1)).getD i fv0).2).1)=v_) (sN (wO cC (y5e (y6u (y6i (y5u _))) fv0 i bO) I nP I D.up I)) (tM mh4) I ?_));intro ci db;obtain rfl:ci=(us.getD i nV):=db.symm.trans (by rw[dP oM]);refine gv (jO (.tail _ mh7) underlying51 I) I (go1 ?_);refine gU 4 126 (vB (((↑k:Int)<(↑(rvL (s.2.1.getD i zA).2.1 k).length:Int))/\((yQ (qN mp))<(0:Int)))) ?_ ?_
  ·
   refine zY ((↑k:Int)<(↑(rvL (s.2.1.getD i zA).2.1 k).length:Int)) (λhg=>?_) (λhg=>?_)
   ·
    refine gT hg I (go6 ?_);refine gqU ?_;exact y4e (xD hg)
   refine gF hg I (go4 ?_);refine gqU ?_;exact y4e (xE hg)
  refine gc2 (λbz=>?_) λbz=>?_
  ·
   refine go4 ?_;refine zJ 14 _ [] (zai 0 12 [(12,.c),(13,.q),(14,.t)]) zX nX (wL zou) nX (λr hr=>hr) (go1 ?_);refine w_q I (λh' L' hh hR=>kT (y5e (y5u _) fv0 i bO) I nP (D.up.mono hh) (hR _ mh4) I) I (w_q I (λh' L' hh hR=>(qX (y5e (y5u _) fv0 i bO) I nP (D.up.mono hh) (hR _ mh4) underlying53 I sizeOf51 I).cv (show _=zI 1 U ((i*14+12)) from zbi (zI 1 U) (by show(i*14+0)+12=(i*14+12);omega))) I (cY (F:=λv_=>((((gZ (mvP mp (s.1.map (wD mp))) s.2.1 us (i+1)).getD i fv0).2).1)=v_) I (sN (wO cC (y5e (y6u (y6i (y5u _))) fv0 i bO) I nP I D.up I)) (tM mh4) I ?_));intro ch da;obtain rfl:ch=(us.getD i nV):=da.symm.trans (by rw[dP oM]);refine go2 ?_;refine w_q I (λh' L' hh hR=>kT (y5e (y5u _) fv0 i bO) I nP (D.up.mono hh) (hR _ mh4) I) I (w_q I (λh' L' hh hR=>(qX (y5e (y5u _) fv0 i bO) I nP (D.up.mono hh) (hR _ mh4) underlying53 I sizeOf51 I).cv (show _=zI 1 U ((i*14+12)) from zbi (zI 1 U) (by show(i*14+0)+12=(i*14+12);omega))) I (cY (F:=λv_=>((((gZ (mvP mp (s.1.map (wD mp))) s.2.1 us (i+1)).getD i fv0).2).1)=v_) I (sN (wO cC (y5e (y6u (y6i (y5u _))) fv0 i bO) I nP I D.up I)) (tM mh4) I ?_));intro cg cz;obtain rfl:cg=(us.getD i nV):=cz.symm.trans (by rw[dP oM]);refine go1 ?_;refine w_q I (λh' L' hh hR=>(yZ k (hR _ (.tail _ mh7)) underlying51 sizeOf22 I I I bO nP).cv (show _=zI 1 (us.getD i nV) ((k*1+0)) from zbi (zI 1 (us.getD i nV)) zo5)) I (cY (F:=λv_=>(rpS rpI).Is mb v_ ((rvL (s.2.1.getD i zA).2.1 k).getD k [])) I (wO fL (y5e (y5u _) [] k bO) I nP I ac I) (tM (.tail _ mh7)) I ?_);intro fy cy;refine w_c I (sC (ev1 I) call67 (λw hs=>zEP hs cy (by rw[iW oM,zae (ytu _)];exact zci ((H0.2.1 i oM).2 k oM) dC)) λfx h9 fo cw=>(w_q I (λh' L' hh hR=>(yZ k (hR _ (.tail _ mh7)) underlying51 sizeOf22 I I I bO nP).cv (show _=zI 1 (us.getD i nV) ((k*1+0)) from zbi (zI 1 (us.getD i nV)) zo5)) I (zC0 (A:=[_,_,_,_,_,_,_,_]) (F:=λc_=>RL (rpS rpI) h9 c_ ((rvL (s.2.1.getD i zA).2.1 k).set k (lD ((rvL (s.2.1.getD i zA).2.1 k).getD k []) ((rvL (s.2.1.getD i zA).2.1 k).getD k []).length))) I (rI sizeOf22 (y5e (y5u _) [] k bO) I nP I I ac.up cw I) ?_)));intro cb am;rw[show((rvL (s.2.1.getD i zA).2.1 k).set k (lD ((rvL (s.2.1.getD i zA).2.1 k).getD k []) ((rvL (s.2.1.getD i zA).2.1 k).getD k []).length))=(rvL (s.2.1.getD i zA).2.1 (k+1)) by exact yJR oM] at am ⊢;refine go8 ?_;refine gqL ((k+1),cb,h9) ?_ ?_
   · exact⟨mle,am,zot,λe=>absurd e oM⟩
   omega
  have ek:k=(if yQ (qN mp)<0 then(s.2.1.getD i zA).2.1.length else 0):=by split<;>omega
  refine go7 ?_;refine zQ (A:=[_,_,_,_,_,_,_,_]) (ρ:=(rpS rpI)) ac.up ?_;intro h9 fo bk;refine go4 ?_;refine xK (A:=[]) (xK (A:=[]) ?_);refine gqL ((i+1),R2,av,h9) ?_ ?_
  · exact⟨mle,D.up,zot,dq.up,zE7.next (MLe.refl _) ca.up (by have h:=bk;rw[ek] at h;exact h)⟩
  omega
 have ei:i=s.2.1.length:=by omega
 refine go7 ?_;rw[ei] at ca;rw[ei] at C;have dw:=yLD (G:=mvL mp) C ca;rw[show(gZ (mvP mp (s.1.map (wD mp))) s.2.1 us i).length=(s.2.1.map (mvF mp (s.1.map (wD mp)))).length by rw[eO,zde]];refine zQ (A:=[_,_]) (ρ:=(tFc (600*k2+20*m+2000) (600*k2+20*m+9*k+3*l2+n+2000))) dw ?_;intro h7 bc bj;replace H:=H.mono bc;have bo:(tSd (3*k+3*k2+l2+10) (600*k2+20*m+2000) (600*k2+20*m+9*k+3*l2+n+2000) j).R h7 O ((s.1.map (wD mp)),((s.2.1.map (mvF mp (s.1.map (wD mp)))),s.2.2)):=zFZ H bj;refine lX (xB jP pH bo) λfw cu=>(zP (A:=[_,_]) (uB sizeOf39 pH co cu) λfs bn=>(go4 ?_));refine wG (jG (t:=4) jP mh2 I bn) ?_;intro fv bb bm;refine yN (λE S=>qO I bb (gH I) E S) ?_;refine⟨_,?_,(Rp.Is.cast bm (by exact(zae bx).symm))⟩;rw[zae bx]
end Go.Proofs.YtpkaegemlpaenaaGreat
namespace Bk
def kvM(m:Mp):Pt:=wV (wV (scT m.2.x (zO m.1.y m.1.z)) (scT m.2.y (zO m.1.z m.1.x))) (scT m.2.z (zO m.1.x m.1.y))
theorem zQI(m:Mp)(a b:Pt):zO (wR m a) (wR m b)=T3.mk (zF (zO m.1.y m.1.z) (zO a b)) (zF (zO m.1.z m.1.x) (zO a b)) (zF (zO m.1.x m.1.y) (zO a b)):=by
 unfold wR;generalize m.1.x=x;generalize m.1.y=y;generalize m.1.z=z;unfold zO zF;rw[qZ];exact⟨by simp only;grind,by simp only;grind,by simp only;grind⟩
theorem zX9(m:Mp)(a Y:Pt):zF (wR m a) (T3.mk (zF (zO m.1.y m.1.z) Y) (zF (zO m.1.z m.1.x) Y) (zF (zO m.1.x m.1.y) Y))=qN m*zF a Y:=by
 unfold wR qN yB;generalize m.1.x=x;generalize m.1.y=y;generalize m.1.z=z;unfold zO zF;simp only;grind
theorem dV(m:Mp)(a b c:Pt):yB (wR m a) (wR m b) (wR m c)=qN m*yB a b c:=by
 unfold yB;rw[zQI,zX9]
theorem yEM(m:Mp):wR m (kvM m)=scT (qN m) m.2:=by
 unfold wR kvM qN yB;generalize m.1.x=x;generalize m.1.y=y;generalize m.1.z=z;generalize m.2=w;unfold zO zF wV scT;rw[qZ];exact⟨by simp only;grind,by simp only;grind,by simp only;grind⟩
theorem zYA(m:Mp)(a b:Pt):wR m (wV a b)=wV (wR m a) (wR m b):=by
 unfold wR wV zF;rw[qZ];exact⟨by simp only;grind,by simp only;grind,by simp only;grind⟩
theorem zKV(m:Mp)(q:Rat)(a:Pt):wR m (scT q a)=scT q (wR m a):=by
 unfold wR scT zF;rw[qZ];exact⟨by simp only;grind,by simp only;grind,by simp only;grind⟩
end Bk
namespace Bk
open Classical
theorem aX{a b:Pt}(e1:a.x=b.x)(e2:a.y=b.y)(e3:a.z=b.z):a=b:=qZ.2 ⟨e1,e2,e3⟩
theorem yEL{m:Mp}(hz:¬qN m=0)(w:Pt):wR m (scT (1/qN m) (kvM (m.1,w)))=w:=by
 rw[zKV,show wR m (kvM (m.1,w))=scT (qN m) w from yEM (m.1,w)];have e:1/qN m*qN m=1:=z6u hz;generalize 1/qN m=i at e;generalize qN m=v at e;unfold scT;exact aX zo2 zo2 zo2
theorem zC2{m:Mp}(hz:¬qN m=0){x:Pt}(h:wR m x=zT):x=zT:=by
 have g:∀b c,yB x b c=0:=λb c=>by
  have e:=dV m x b c;rw[h] at e;have e0:yB zT (wR m b) (wR m c)=0:=by unfold yB zF;simp only;grind
  rw[e0] at e;exact(zoe.1 e.symm).resolve_left hz
 have D:=g (T3.mk 0 1 0) (T3.mk 0 0 1);have C:=g (T3.mk 0 0 1) (T3.mk 1 0 0);have g3:=g (T3.mk 1 0 0) (T3.mk 0 1 0);unfold yB zF zO at D C g3;simp only at D C g3;exact aX (by show x.x=0;grind) (by show x.y=0;grind) (by show x.z=0;grind)
theorem zND(m:Mp)(a b:Pt):wR m (yJ a b)=yJ (wR m a) (wR m b):=by
 unfold wR yJ zF;exact aX zo2 zo2 zo2
theorem j4(m:Mp)(a b:Pt):yJ (wD m a) (wD m b)=wR m (yJ a b):=by
 rw[zND];unfold wD wV yJ;exact aX zo2 zo2 zo2
theorem zU2(m:Mp)(a d:Pt):wD m (wV a d)=wV (wD m a) (wR m d):=by
 unfold wD;rw[zYA];unfold wV;exact aX zo2 zo2 zo2
theorem zVG{a b:Pt}(h:yJ a b=zT):a=b:=by
 have H:(yJ a b).x=0:=by rw[h]
 have D:(yJ a b).y=0:=by rw[h]
 have C:(yJ a b).z=0:=by rw[h]
 unfold yJ at H D C;simp only at H D C;exact aX zo0 zo0 zo0
theorem zU1{m:Mp}(hz:¬qN m=0){a b:Pt}(h:wD m a=wD m b):a=b:=by
 refine zVG (zC2 hz ?_);rw[<-j4,h];unfold yJ;exact aX (by show _=(0:Rat);simp only;grind) (by show _=(0:Rat);simp only;grind) (by show _=(0:Rat);simp only;grind)
theorem yL9{m:Mp}(hz:¬qN m=0)(q:Pt):∃p,wD m p=q:=by
 refine⟨scT (1/qN m) (kvM (m.1,yJ q m.2)),?_⟩;unfold wD;rw[yEL hz];unfold wV yJ;exact aX zo2 zo2 zo2
def onG(A B q:Pt):Prop:=∃σ:Rat,0<=σ/\σ<=1/\q=wV A (scT σ (yJ B A))
theorem on_2{u v w:P2}(h:onS u v w):∃σ:Rat,0<=σ/\σ<=1/\w.1=u.1+σ*(v.1-u.1)/\w.2=u.2+σ*(v.2-u.2):=by
 obtain⟨h1,h2,h3⟩:=h;unfold kR at h1 h2;unfold cr at h3;have g:∀a b x c d y:Rat,(a<=x/\x<=b\/x<=a/\b<=x)->a≠b->(b-a)*(y-c)=(d-c)*(x-a)->∃σ:Rat,0<=σ/\σ<=1/\x=a+σ*(b-a)/\y=c+σ*(d-c):=λa b x c d y hx C hc=>by
  have hd:b-a≠0:=λe=>C zo0;obtain⟨H,D,z3⟩:=zXR (a:=a-x) (b:=b-x) (hx.imp (λe=>⟨zo0,zo0⟩) λe=>⟨zo0,zo0⟩) (λe=>C zo0);generalize zeS (a-x) (b-x)=σ at H D z3;refine⟨σ,H,D,zo0,?_⟩;have:(b-a)*(y-(c+σ*(d-c)))=0:=by
   have:x-a=σ*(b-a):=by grind
   rw[this] at hc;grind
  have:=(zoe.1 this).resolve_left hd;grind
 by_cases e1:u.1=v.1
 · by_cases e2:u.2=v.2
   · exact⟨0,zox,zox,zo0,zo0⟩
   · obtain⟨σ,U,O,M,J⟩:=g u.2 v.2 w.2 u.1 v.1 w.1 h2 e2 zo0
     exact⟨σ,U,O,J,M⟩
 · exact g u.1 v.1 w.1 u.2 v.2 w.2 h1 e1 zo0
theorem on_1{A B q:Pt}(h:onG A B q)(i j:Nat):onS (pr A i j) (pr B i j) (pr q i j):=by
 obtain⟨σ,h0,h1,rfl⟩:=h;have C:∀n,(wV A (scT σ (yJ B A))).at n=A.at n+σ*(B.at n-A.at n):=λn=>by
  unfold wV scT yJ
  match n with
  |0=>simp only[T3.at]
  |1=>simp only[T3.at]
  |_+2=>simp only[T3.at]
 have D:∀a b:Rat,kR a b (a+σ*(b-a)):=λa b=>by
  unfold kR
  rcases(show a<=b\/b<=a by grind) with h|h
  · have J:=zod h0 (show 0<=b-a by grind)
    have H:=zod (show 0<=1-σ by grind) (show 0<=b-a by grind);exact .inl ⟨zo0,zo0⟩
  · have J:=zod h0 (show 0<=a-b by grind)
    have H:=zod (show 0<=1-σ by grind) (show 0<=a-b by grind);exact .inr ⟨zo0,zo0⟩
 unfold pr;rw[C,C];refine⟨D _ _,D _ _,?_⟩;unfold cr;simp only;grind
theorem zZT{N a b:Pt}(hN:N≠zT)(h:zF N a=zF N b)(h1:a.at (axI N)=b.at (axI N))(h2:a.at (axJ N)=b.at (axJ N)):a=b:=by
 have M:¬(N.z=0/\N.y=0/\N.x=0):=λe=>hN (aX e.2.2 e.2.1 e.1);have g:∀n x y:Rat,n≠0->n*x=n*y->x=y:=λn x y Z e=>by
  have:n*(x-y)=0:=by grind
  have:=(zoe.1 this).resolve_left Z;grind
 unfold axI axJ at *;unfold zF at h;have H:∀r:Rat,¬0<r->¬r<0->r=0:=λr a b=>by grind
 split at h1
 · rename_i hc
   simp only[zau hc] at h2;have D:a.x=b.x:=h1;have C:a.y=b.y:=h2;exact aX D C (g N.z _ _ (λe=>by grind) (by rw[D,C] at h;grind))
 · rename_i hc
   simp only[zae hc] at h2
   split at h1
   · rename_i hc2
     simp only[zau hc2] at h2;have D:a.y=b.y:=h1;have C:a.x=b.x:=h2;exact aX C D (g N.z _ _ (λe=>by grind) (by rw[D,C] at h;grind))
   · rename_i hc2
     simp only[zae hc2] at h2;have O:=H _ hc hc2
     split at h1
     · rename_i hc3
       simp only[zau hc3] at h2;have D:a.z=b.z:=h1;have C:a.x=b.x:=h2;exact aX C (g N.y _ _ (λe=>by grind) (by rw[D,C] at h;grind)) D
     · rename_i hc3
       simp only[zae hc3] at h2
       split at h1
       · rename_i hc4
         simp only[zau hc4] at h2;have D:a.x=b.x:=h1;have C:a.z=b.z:=h2;exact aX D (g N.y _ _ (λe=>by grind) (by rw[D,C] at h;grind)) C
       · rename_i hc4
         simp only[zae hc4] at h2;have U:=H _ hc3 hc4;have J:N.x≠0:=λe=>M ⟨O,U,e⟩
         split at h1
         · rename_i hc5
           simp only[zau hc5] at h2;have D:a.y=b.y:=h1;have C:a.z=b.z:=h2;exact aX (g N.x _ _ J (by rw[D,C] at h;grind)) D C
         · rename_i hc5
           simp only[zae hc5] at h2
           by_cases hc6:N.x<0
           · rw[zau hc6] at h1
             rw[zau hc6] at h2;have D:a.z=b.z:=h1;have C:a.y=b.y:=h2;exact aX (g N.x _ _ J (by rw[D,C] at h;grind)) C D
           · exact absurd (H _ hc5 hc6) J
theorem yJ6{N A B q:Pt}(hN:N≠zT)(hA:zF N A=zF N q)(hB:zF N B=zF N q):onS (pr A (axI N) (axJ N)) (pr B (axI N) (axJ N)) (pr q (axI N) (axJ N))↔onG A B q:=by
 refine⟨λh=>?_,λh=>on_1 h _ _⟩;obtain⟨σ,h0,h1,H,D⟩:=on_2 h;refine⟨σ,h0,h1,?_⟩;have C:∀n,(wV A (scT σ (yJ B A))).at n=A.at n+σ*(B.at n-A.at n):=λn=>by
  unfold wV scT yJ
  match n with
  |0=>simp only[T3.at]
  |1=>simp only[T3.at]
  |_+2=>simp only[T3.at]
 refine zZT hN ?_ (by rw[C];exact H) (by rw[C];exact D);rw[zH9,hA,hB];grind
theorem zZ7{A B q:Pt}(h:onG A B q):onG B A q:=by
 obtain⟨σ,h0,h1,rfl⟩:=h;refine⟨1-σ,zo0,zo0,?_⟩;unfold wV scT yJ;exact aX zo2 zo2 zo2
theorem zZ8{m:Mp}(hz:¬qN m=0){A B q:Pt}:onG (wD m A) (wD m B) (wD m q)↔onG A B q:=by
 have e:∀σ,wV (wD m A) (scT σ (yJ (wD m B) (wD m A)))=wD m (wV A (scT σ (yJ B A))):=λ σ=>by rw[zU2,zKV,j4]
 constructor
 · rintro⟨σ,h0,h1,h2⟩
   rw[e] at h2;exact⟨σ,h0,h1,zU1 hz h2⟩
 · rintro⟨σ,h0,h1,rfl⟩
   exact⟨σ,h0,h1,(e σ).symm⟩
structure ImM(m:Mp)(s t:Sd):Prop where
 z:¬qN m=0
 p:t.1=s.1.map (wD m)
 l:t.2.1.length=s.2.1.length
 n:∀f,f<s.2.1.length->∃r:Rat,0<r/\(∀p,hnF t (wD m p) f=r*hnF s p f)/\∀d,cnF t (wR m d) f=r*cnF s d f
 e:∀f,f<s.2.1.length->(0<qN m->(PP t f).Perm (PP s f))/\(qN m<0->(PP t f).Perm ((PP s f).map swQ))
theorem yF1(m:Mp)(d e A B:Pt):(0<qN m->kp (wR m d) (wR m e) (wR m A) (wR m B)=kp d e A B)/\(qN m<0->kp (wR m d) (wR m e) (wR m A) (wR m B)=kp e d A B):=by
 unfold kp;rw[dV,dV,dV,dV];have O:∀X:Pt,yB X e d= -yB X d e:=λX=>by unfold yB zF zO;simp only;grind
 rw[O,O];generalize qN m=v;generalize yB A d e=a;generalize yB B d e=b;generalize yB A B d=x;generalize yB A B e=y;constructor
 · intro C
   rw[zMF C];have H:=vJ (y:=a) C;have D:=vJ (y:=b) C;unfold kq;dsimp only
   by_cases c1:(¬0<a/\0<b)/\(0<x/\y<0)
   · rw[zau c1,zau ⟨⟨λe=>c1.1.1 (H.1 e),D.2 c1.1.2⟩,c1.2⟩]
   · rw[zae c1,zae (c:=(¬0<v*a/\0<v*b)/\(0<x/\y<0)) λe=>c1 ⟨⟨λh=>e.1.1 (H.2 h),D.1 e.1.2⟩,e.2⟩]
     by_cases c2:(0<a/\¬0<b)/\(x<0/\0<y)
     · rw[zau c2,zau ⟨⟨H.2 c2.1.1,λh=>c2.1.2 (D.1 h)⟩,c2.2⟩]
     · rw[zae c2,zae (c:=(0<v*a/\¬0<v*b)/\(x<0/\0<y)) λe=>c2 ⟨⟨H.1 e.1.1,λh=>e.1.2 (D.2 h)⟩,e.2⟩]
 · intro C
   have J:0< -v:=by grind
   have M:∀r:Rat,0<v*r↔r<0:=λr=>by
    have:=vJ (y:=-r) J;rw[show v*r= -v*-r by grind,this];constructor<;>intro h<;>grind
   have Z:∀r:Rat,v*r<0↔0<r:=λr=>by
    have:=M (-r);constructor
    · intro h
      have:=this.1 zo0;grind
    · intro h
      have:=this.2 zo0;grind
   have U:∀r:Rat,0< -r↔r<0:=λr=>by constructor<;>intro h<;>grind
   unfold kq;simp only[M,Z,U]
   by_cases c1:¬a<0/\b<0
   · have c2:¬(a<0/\¬b<0):=λe=>c1.1 e.1
     by_cases c3:x<0/\0<y
     · rw[zau ⟨c1,c3⟩,zau ⟨c1,c3.2,c3.1⟩]
     · rw[zae λe=>c3 e.2,zae λe=>c2 e.1,zae λe=>c3 ⟨e.2.2,e.2.1⟩,zae λe=>c2 e.1]
   · rw[zae λe=>c1 e.1,zae (c:=_/\0<y/\x<0) λe=>c1 e.1]
     by_cases c2:(a<0/\¬b<0)/\0<x/\y<0
     · rw[zau c2,zau ⟨c2.1,c2.2.2,c2.2.1⟩]
     · rw[zae c2,zae λe=>c2 ⟨e.1,e.2.2,e.2.1⟩]
theorem zAF{κ κ':Int->Int->Int}:∀{l:List QI},(∀x,x∈l->κ x.1 x.2=κ' x.1 x.2)->cZ κ l=cZ κ' l
  |[],_=>rfl
  |x::l,h=>by
   show κ x.1 x.2+cZ κ l=κ' x.1 x.2+cZ κ' l
   rw[h x (.head _),zAF λy hy=>h y (.tail _ hy)]
section
variable {m:Mp}{s t:Sd}(hi:ImM m s t)(h:jQ s)(h':jQ t){f:Nat}(hf:f<s.2.1.length)
include hi h hf
theorem zTK{e:QI}(he:e∈PP s f):(ptI t.1 e.1=wD m (ptI s.1 e.1)/\ptI t.1 e.2=wD m (ptI s.1 e.2))/\hnF s (ptI s.1 e.1) f=0/\hnF s (ptI s.1 e.2) f=0:=by
 obtain⟨e5,H,rfl⟩:=zlu.1 he;obtain⟨l,U,D⟩:=u4 H;obtain⟨k,hk,rfl⟩:=zB5 D;have M:=(aY h hf).2;obtain⟨c1,c2⟩:=dW hf M;obtain⟨c3,Z⟩:=c2 l U;have C:=(fO h f hf).2 l zot;have g:∀k,k<((s.2.1.getD f zA).2.1.getD l []).length->ptI t.1 (((s.2.1.getD f zA).2.1.getD l []).getD k 0)=wD m (ptI s.1 (((s.2.1.getD f zA).2.1.getD l []).getD k 0))/\hnF s (ptI s.1 (((s.2.1.getD f zA).2.1.getD l []).getD k 0)) f=0:=λk hk=>by
  have hr:=M l U k hk;have J:=(C k zot).1;rw[Z k hk] at J;refine⟨?_,by unfold hnF;rw[J];grind⟩;unfold ptI;rw[hi.p];exact qI (wD m) zT zT zot
 have O:=zcu (k+1) (show 0<((s.2.1.getD f zA).2.1.getD l []).length by omega);exact⟨⟨(g k hk).1,(g _ O).1⟩,(g k hk).2,(g _ O).2⟩
omit hi h hf in
theorem zDV{s:Sd}{f:Nat}{A q:Pt}(h1:hnF s A f=0)(h2:hnF s q f=0):zF (xL s f) A=zF (xL s f) q:=by
 unfold hnF at h1 h2;grind
include h'
theorem zFQ{q:Pt}(hq:hnF s q f=0):whF t f (wD m q)=0↔whF s f q=0:=by
 have hN:=(fO h f hf).1;have O:f<t.2.1.length:=by rw[hi.l];exact hf
 have U:=(fO h' f O).1;obtain⟨r,hr,n1,n2⟩:=hi.n f hf;rw[zP5 h' O,zP5 h hf];have C:∀e,e∈PP s f->((onS (pr (ptI s.1 e.1) (axI (xL s f)) (axJ (xL s f))) (pr (ptI s.1 e.2) (axI (xL s f)) (axJ (xL s f))) (pr q (axI (xL s f)) (axJ (xL s f)))↔onG (ptI s.1 e.1) (ptI s.1 e.2) q)/\
  (onS (pr (ptI t.1 e.1) (axI (xL t f)) (axJ (xL t f))) (pr (ptI t.1 e.2) (axI (xL t f)) (axJ (xL t f))) (pr (wD m q) (axI (xL t f)) (axJ (xL t f)))↔onG (ptI s.1 e.1) (ptI s.1 e.2) q)/\
  (onS (pr (ptI t.1 e.2) (axI (xL t f)) (axJ (xL t f))) (pr (ptI t.1 e.1) (axI (xL t f)) (axJ (xL t f))) (pr (wD m q) (axI (xL t f)) (axJ (xL t f)))↔onG (ptI s.1 e.1) (ptI s.1 e.2) q)):=λe D=>by
  obtain⟨⟨p1,p2⟩,p3,Z⟩:=zTK hi h hf D;have z:∀A,hnF s A f=0->hnF t (wD m A) f=0:=λA hA=>by rw[n1,hA];grind
  refine⟨yJ6 hN (zDV p3 hq) (zDV Z hq),?_,?_⟩
  · rw[p1,p2,yJ6 U (zDV (z _ p3) (z _ hq)) (zDV (z _ Z) (z _ hq)),zZ8 hi.z]
  · rw[p1,p2,yJ6 U (zDV (z _ Z) (z _ hq)) (zDV (z _ p3) (z _ hq)),zZ8 hi.z]
    exact⟨zZ7,zZ7⟩
 rcases(show 0<qN m\/qN m<0 by have:=hi.z;grind) with hv|hv
 · have M:=(hi.e f hf).1 hv
   constructor
   · rintro⟨e,D,H⟩
     have D:=M.mem_iff.1 D;exact⟨e,D,(C e D).1.2 ((C e D).2.1.1 H)⟩
   · rintro⟨e,D,H⟩
     exact⟨e,M.mem_iff.2 D,(C e D).2.1.2 ((C e D).1.1 H)⟩
 · have M:=(hi.e f hf).2 hv
   constructor
   · rintro⟨e,D,H⟩
     obtain⟨e2,J,rfl⟩:=zlu.1 (M.mem_iff.1 D);exact⟨e2,J,(C e2 J).1.2 ((C e2 J).2.2.1 H)⟩
   · rintro⟨e,D,H⟩
     exact⟨swQ e,M.mem_iff.2 (zlu.2 ⟨e,D,I⟩),(C e D).2.2.2 ((C e D).1.1 H)⟩
theorem yHK{q:Pt}(hq:hnF s q f=0)(hb:whF s f q≠0):wnS t f (wD m q)=wnS s f q:=by
 have ad:=fO h;have U:=fO h';have hN:xL s f≠zT:=(ad f hf).1;have aa:f<t.2.1.length:=by rw[hi.l];exact hf
 have ab:xL t f≠zT:=(U f aa).1;obtain⟨r,hr,n1,n2⟩:=hi.n f hf;have D:=q5 hN;generalize C:xL s f=N at hN D;have ai:cnF s N f=zF N N:=by unfold cnF;rw[<-C]
 have ec:zF (xL t f) (wR m N)=r*zF N N:=by rw[<-ai,<-n2];rfl
 have Z:0<r*zF N N:=uD hr D;have J:∀a d:Pt,wV (yJ a d) (scT 1 d)=a:=λa d=>by
  unfold wV yJ scT;exact aX zo2 zo2 zo2
 have e2:hnF s (yJ q N) f=zF N N:=by
  have:hnF s (yJ q N) f=hnF s q f+zF N N:=by
   unfold hnF;rw[show(s.2.1.getD f zA).1.1=N from C];unfold zF yJ;simp only;grind
  rw[this,hq];grind
 have em:yJ (wD m q) (wR m N)=wD m (yJ q N):=by
  have:=j4 m q (yJ q N);unfold wD;rw[zND];unfold wV yJ;exact aX zo2 zo2 zo2
 have hE:=zH5 ad hf (yJ q N);rw[e2,C] at hE;have O:=zH5 U aa (wD m (yJ q N));rw[n1,e2] at O;have H:∀(u:Sd) (d b:Pt),whF u f b≠0->zMN (xL u f) (zF (xL u f) d) (edS u (yJ b d) f)->zF (xL u f) d≠0->iE (edS u (yJ b d) f) d:=λu d b aj am M x hx hm=>by
  obtain⟨sx,l,h0,h1,h2,e⟩:=hm;obtain⟨hA,hB⟩:=am x hx;have e3:zF (xL u f) (wV x.1 (scT sx (yJ x.2 x.1)))=zF (xL u f) d:=by rw[zH9,hA,hB];grind
  rw[e,zH8] at e3;have hl:l=1:=by
   have:(l-1)*zF (xL u f) d=0:=by grind
   rcases zoe.1 this with e4|e4
   · grind
   · exact absurd e4 M
  subst hl;exact aj (by have:=zD8 hx h0 h1 e;rw[J] at this;exact this)
 have ak:whF t f (wD m q)≠0:=λe=>hb ((zFQ hi h h' hf hq).1 e);have ah:=H s N q hb (by rw[C];exact hE) (by rw[C];exact sD hN);have ac:=H t (wR m N) (wD m q) ak (by rw[ec,em];exact O) (by rw[ec];grind);rw[em] at ac;have w1:=(zFW (p:=yJ q N) (d:=N) (c:=zF N N) (t:=1) (h:=zF N N) hN I zox zo0 (sD hN) (xR s f) (xR s f).length hE).1 D;have w2:=(zFW (p:=wD m (yJ q N)) (d:=wR m N) (c:=r*zF N N) (t:=1) (h:=r*zF N N) ab ec zox zo0 zo0 (xR t f) (xR t f).length O).1 Z;rw[J] at w1;rw[<-em,J] at w2
 show wnF (xR t f) (pr (wD m q) (axI (xL t f)) (axJ (xL t f))) (axI (xL t f)) (axJ (xL t f)) _=wnF (xR s f) (pr q (axI (xL s f)) (axJ (xL s f))) (axI (xL s f)) (axJ (xL s f)) _
 rw[w2,C,w1,em]
 show kE (wR m N) (eN (xL t f)) (edS t (wD m (yJ q N)) f)=kE N (eN N) (edS s (yJ q N) f)
 have o1:=zH7 hN;have o2:=zH7 ab;have ze:zF (xL t f) (wR m (eN N))=0:=by
  have:cnF t (wR m (eN N)) f=0:=by
   rw[n2];have:cnF s (eN N) f=0:=by unfold cnF;rw[show(s.2.1.getD f zA).1.1=N from C];exact o1.2.1
   rw[this];grind
  exact this
 have ae:wR m (eN N)≠zT:=λe=>o1.2.2 (zC2 hi.z e);have M:r*zF N N≠0:=by grind
 rw[show kE (wR m N) (eN (xL t f)) (edS t (wD m (yJ q N)) f)=kE (wR m N) (wR m (eN N)) (edS t (wD m (yJ q N)) f) from(zAW ab (oB _ _ _) O M ac (by rw[ec];exact M) o2.2.1 ze o2.2.2 ae).1];have k1:=zMH h' (wD m (yJ q N)) (wR m N) (wR m (eN N)) aa;have k2:=λd G=>zMH h (yJ q N) d G hf;have kk:∀e,e∈PP s f->(0<qN m->kIS t (wD m (yJ q N)) (wR m N) (wR m (eN N)) e.1 e.2=kIS s (yJ q N) N (eN N) e.1 e.2)/\(qN m<0->kIS t (wD m (yJ q N)) (wR m N) (wR m (eN N)) e.1 e.2=kIS s (yJ q N) (eN N) N e.1 e.2):=λe he=>by
  obtain⟨⟨p1,p2⟩,_,_⟩:=zTK hi h hf he;unfold kIS;rw[p1,p2,j4,j4];exact yF1 m N (eN N) _ _
 rw[k1]
 rcases(show 0<qN m\/qN m<0 by have:=hi.z;grind) with hv|hv
 · rw[k2]
   show cZ _ (PP t f)=cZ _ (PP s f)
   rw[zC4 ((hi.e f hf).1 hv)];exact zAF λe he=>(kk e he).1 hv
 · show cZ _ (PP t f)=_
   rw[zC4 ((hi.e f hf).2 hv),zC3 (κ:=kIS t (wD m (yJ q N)) (wR m N) (wR m (eN N))) (λa b=>zT3 _ _ _ _),zAF λe he=>(kk e he).2 hv];have k3:=(zAW hN (oB _ _ _) hE (sD hN) ah (sD hN) o1.2.1 o1.2.1 o1.2.2 o1.2.2).2;have k4:kE (eN N) N (edS s (yJ q N) f)=cZ (kIS s (yJ q N) (eN N) N) (PP s f):=k2 _ _;rw[<-k4];have k5:kE (eN N) N (edS s (yJ q N) f)= -kE N (eN N) (edS s (yJ q N) f):=k3;rw[k5];omega
end
theorem yNJ{N:Pt}(hN:N≠zT)(D:Rat)(q:Pt):∃p,zF N p=D/\pr p (axI N) (axJ N)=pr q (axI N) (axJ N):=by
 have H:¬(N.z=0/\N.y=0/\N.x=0):=λe=>hN (aX e.2.2 e.2.1 e.1);have g:∀n a:Rat,n≠0->n*((D-a)/n)=D-a:=λn a J=>by rw[y3e];exact z6u J
 have C:∀r:Rat,¬0<r->¬r<0->r=0:=λr a b=>by grind
 by_cases z:N.z=0
 · by_cases y:N.y=0
   · have x:N.x≠0:=λe=>H ⟨z,y,e⟩
     refine⟨T3.mk ((D-(N.y*q.y+N.z*q.z))/N.x) q.y q.z,?_,?_⟩
     · have:=g N.x (N.y*q.y+N.z*q.z) x
       unfold zF;simp only;grind
     · unfold axI axJ
       rw[z,y];simp only[y1i,if_false]
       repeat' split
       all_goals first|rfl|(exfalso;exact x (C _ zo4 zo4))
   · refine⟨T3.mk q.x ((D-(N.x*q.x+N.z*q.z))/N.y) q.z,?_,?_⟩
     · have:=g N.y (N.x*q.x+N.z*q.z) y
       unfold zF;simp only;grind
     · unfold axI axJ
       rw[z];simp only[y1i,if_false]
       repeat' split
       all_goals first|rfl|(exfalso;exact y (C _ zo4 zo4))
 · refine⟨T3.mk q.x q.y ((D-(N.x*q.x+N.y*q.y))/N.z),?_,?_⟩
   · have:=g N.z (N.x*q.x+N.y*q.y) z
     unfold zF;simp only;grind
   · unfold axI axJ
     repeat' split
     all_goals first|rfl|(exfalso;exact z (C _ zo4 zo4))
section
variable {m:Mp}{s t:Sd}(hi:ImM m s t)(h:jQ s)(h':jQ t)(hw:wnP s)
include hi h h' hw
theorem yB2:wnP t:=λf hf q hq=>by
 have hf0:f<s.2.1.length:=by rw[<-hi.l];exact hf
 have H:=(fO h' f hf).1;obtain⟨r,hr,M,n2⟩:=hi.n f hf0;obtain⟨p,O,D⟩:=yNJ H (t.2.1.getD f zA).1.2 q;obtain⟨C,rfl⟩:=yL9 hi.z p;have Z:whF t f q=whF t f (wD m C):=by rw[eR,eR,D]
 have U:wnS t f q=wnS t f (wD m C):=by unfold wnS;rw[D]
 have h0:hnF s C f=0:=by
  have e:hnF t (wD m C) f=0:=by unfold hnF;rw[O];grind
  rw[M] at e;exact(zoe.1 e).resolve_left zo0
 have J:whF s f C≠0:=λe=>hq (by rw[Z];exact(zFQ hi h h' hf0 h0).2 e);rw[U,yHK hi h h' hf0 h0 J];exact hw f hf0 C J
theorem yB3{f:Nat}(hf:f<s.2.1.length){q:Pt}(hq:hnF s q f=0):whF t f (wD m q)=whF s f q:=by
 by_cases hb:whF s f q=0
 · rw[hb,(zFQ hi h h' hf hq).2 hb]
 have D:whF t f (wD m q)≠0:=λe=>hb ((zFQ hi h h' hf hq).1 e);have H:=zS0 hw hf hb;have C:=zS0 (yB2 hi h h' hw) (by rw[hi.l];exact hf) D;rw[yHK hi h h' hf hq hb,H] at C;have r1:=zJD s f q;have r2:=zJD t f (wD m q)
 by_cases c1:whF s f q=1
 · by_cases c2:whF t f (wD m q)=1
   · omega
   · rw[zau c1,zae c2] at C;exact absurd C zox
 · by_cases c2:whF t f (wD m q)=1
   · rw[zae c1,zau c2] at C;exact absurd C zox
   · omega
theorem yHL{f:Nat}(hf:f<s.2.1.length)(p:Pt):onP t (wD m p) f↔onP s p f:=by
 have e:∀(r:Sd) (g:Nat) (p:Pt),sdZ (r.2.1.getD g zA).1 p=0↔hnF r p g=0:=λr g p=>by
  unfold sdZ hnF hgt;rw[zFC];constructor<;>intro h<;>grind
 obtain⟨r,H,C,D⟩:=hi.n f hf;unfold onP;rw[e,e,C];have z:r*hnF s p f=0↔hnF s p f=0:=⟨λe=>(zoe.1 e).resolve_left zo0,λe=>by rw[e];grind⟩;rw[z];constructor
 · rintro⟨a,b⟩
   exact⟨a,by rw[<-yB3 hi h h' hw hf a];exact b⟩
 · rintro⟨a,b⟩
   exact⟨a,by rw[yB3 hi h h' hw hf a];exact b⟩
theorem zMO(p:Pt):onB t (wD m p)↔onB s p:=by
 constructor
 · rintro⟨f,hf,C⟩
   rw[hi.l] at hf;exact⟨f,hf,(yHL hi h h' hw hf p).1 C⟩
 · rintro⟨f,hf,C⟩
   exact⟨f,by rw[hi.l];exact hf,(yHL hi h h' hw hf p).2 C⟩
omit h h' hw in
theorem yB4{f:Nat}(hf:f<s.2.1.length)(p d:Pt):skP t (wD m p) (wR m d) f↔skP s p d f:=by
 obtain⟨r,C,J,H⟩:=hi.n f hf;unfold skP;rw[nT,nT,J,H];have D:∀x:Rat,r*x<0↔x<0:=λx=>by
  have:=vJ (y:=-x) C;constructor<;>intro h<;>grind
 rw[vJ C,vJ C,D,D]
omit h h' hw in
theorem yF8{f:Nat}(hf:f<s.2.1.length)(p d:Pt)(hs:¬skP s p d f):aF (wD m p) (wR m d) (hnF t (wD m p) f/cnF t (wR m d) f)=wD m (aF p d (hnF s p f/cnF s d f))/\hnF s (aF p d (hnF s p f/cnF s d f)) f=0:=by
 obtain⟨r,M,J,H⟩:=hi.n f hf;have hc:=yM5 hs;have D:hnF t (wD m p) f/cnF t (wR m d) f=hnF s p f/cnF s d f:=by
  rw[J,H];have h1:=z6u (a:=hnF s p f) hc;have C:r*cnF s d f≠0:=λe=>(zoe.1 e).elim zo0 hc;have h2:=z6u (a:=r*hnF s p f) C;have:(r*hnF s p f/(r*cnF s d f)-hnF s p f/cnF s d f)*(r*cnF s d f)=0:=by grind
  rcases zoe.1 this with e|e
  · grind
  · exact absurd e C
 refine⟨?_,?_⟩
 · rw[D]
   unfold aF;rw[zU2,zKV]
 · have h1:=z6u (a:=hnF s p f) hc
   show(s.2.1.getD f zA).1.2-zF (xL s f) (aF p d (hnF s p f/cnF s d f))=0
   rw[zUJ];have D:zF (xL s f) d=cnF s d f:=I;have O:(s.2.1.getD f zA).1.2-zF (xL s f) p=hnF s p f:=I;rw[D];grind
theorem zSL{f:Nat}(hf:f<s.2.1.length)(p d:Pt)(hs:¬skP s p d f):whF t f (aF (wD m p) (wR m d) (hnF t (wD m p) f/cnF t (wR m d) f))=whF s f (aF p d (hnF s p f/cnF s d f)):=by
 obtain⟨D,C⟩:=yF8 hi hf p d hs;rw[D,yB3 hi h h' hw hf C]
theorem yN0(p d:Pt):nbS t (wD m p) (wR m d)↔nbS s p d:=by
 have C:∀f,f<s.2.1.length->(bdS t (wD m p) (wR m d) f↔bdS s p d f):=λf hf=>by
  unfold bdS;rw[yB4 hi hf];constructor
  · rintro⟨a,b⟩;exact⟨a,by rw[<-zSL hi h h' hw hf p d a];exact b⟩
  · rintro⟨a,b⟩;exact⟨a,by rw[zSL hi h h' hw hf p d a];exact b⟩
 unfold nbS;rw[hi.l];exact⟨λe f hf b=>e f hf ((C f hf).2 b),λe f hf b=>e f hf ((C f hf).1 b)⟩
theorem yLA{f:Nat}(hf:f<s.2.1.length)(p d:Pt):crE t (wD m p) (wR m d) f=crE s p d f:=by
 unfold crE
 by_cases hs:skP s p d f
 · rw[zau hs,zau ((yB4 hi hf p d).2 hs)]
 obtain⟨r,D,H,C⟩:=hi.n f hf;rw[zae hs,zae λe=>hs ((yB4 hi hf p d).1 e),zSL hi h h' hw hf p d hs,C];simp only[vJ D]
theorem yB5(p d:Pt):∀n,n<=s.2.1.length->crS t (wD m p) (wR m d) n=crS s p d n
  |0,_=>rfl
  |n+1,hn=>by
   show crS t _ _ n+crE t _ _ n=crS s p d n+crE s p d n
   rw[yB5 p d n zot,yLA hi h h' hw zot]
theorem yF7(p:Pt):zEE t (wD m p)=zEE s p:=by
 unfold zEE
 by_cases ho:onB s p
 · rw[zau ho,zau ((zMO hi h h' hw p).2 ho)]
 have C:¬onB t (wD m p):=λe=>ho ((zMO hi h h' hw p).1 e);rw[zae ho,zae C];have H:=zB1 h (dU (cG h) p).2.1;have D:=zB1 h' (dU (cG h') (wD m p)).2.1;rw[zJC h' (yB2 hi h h' hw) C (zXZ _) D (λe=>zXZ _ (zC2 hi.z e)) ((yN0 hi h h' hw p _).2 H),hi.l];exact yB5 hi h h' hw p _ _ (zbe _)
theorem yN1(p:Pt):inZ t (wD m p)=inZ s p:=by
 unfold inZ;rw[yF7 hi h h' hw]
 by_cases ho:onB s p
 · rw[zau ho,zau ((zMO hi h h' hw p).2 ho)]
 · rw[zae ho,zae λe=>ho ((zMO hi h h' hw p).1 e)]
end
end Bk
namespace Bk
def mI(a σ:Int)(u:I3):I3:=(u.1+a*u.2.1+2*u.2.2,σ*u.2.1,u.2.2)
def nI(a σ:Int)(n:I3):I3:=(n.1,σ*(n.2.1-a*n.1),n.2.2-2*n.1)
def lmI(σ:Int)(L:List (List Int)):List (List Int):=rvL L (if σ<0 then L.length else 0)
def mvI(a σ:Int)(I:SI):SI:=(I.1.map (mI a σ),I.2.map λf=>(nI a σ f.1,f.2.1,lmI σ f.2.2.1,f.2.2.2))
def zWR(P:List I3)(a σ:Int)(f:FI):Bool:=nsI ((lmI σ f.2.2.1).map (flI (tA (nI a σ f.1)) (P.map (mI a σ))))
def nsM(I:SI):Bool:=I.2.all λf=>zWR I.1 (-1) 1 f&&zWR I.1 0 1 f&&zWR I.1 1 1 f&&zWR I.1 (-1) (-1) f&&zWR I.1 0 (-1) f&&zWR I.1 1 (-1) f
theorem yKC:bxC nsM=true:=by decide +kernel
theorem yKD:baC nsM=true:=by decide +kernel
theorem yKA:trC nsM=true:=by decide +kernel
def zQL(c:SI->Bool)(p k:Nat):Bool:=(List.range 3).all λq=>(List.range 3).all λe=>(List.range 3).all λf=>(List.range 3).all λg=>c (nrI (teI p k q e f g))
theorem yKJ:zQL nsM 0 0=true:=by decide +kernel
theorem yKI:zQL nsM 0 1=true:=by decide +kernel
theorem yKH:zQL nsM 1 0=true:=by decide +kernel
theorem yKG:zQL nsM 1 1=true:=by decide +kernel
theorem yKF:zQL nsM 2 0=true:=by decide +kernel
theorem yKE:zQL nsM 2 1=true:=by decide +kernel
theorem yKB:teC nsM=true:=by
 refine zob.2 λp C=>zob.2 λk hk=>?_;have C:=zog.1 C;have hk:=zog.1 hk
 show zQL nsM p k=true
 match p,k,C,hk with
 |0,0,_,_=>exact yKJ
 |0,1,_,_=>exact yKI
 |1,0,_,_=>exact yKH
 |1,1,_,_=>exact yKG
 |2,0,_,_=>exact yKF
 |2,1,_,_=>exact yKE
 |_+3,_,h,_=>exact absurd h zot
 |_,_+2,_,h=>exact absurd h zot
end Bk
namespace Bk
open Classical
theorem zQJ{m:Mp}(hz:¬qN m=0)(N x:Pt):zF (tnN m N) (wR m x)=zF N x:=by
 have e:1/qN m*qN m=1:=z6u hz;unfold tnN ivM yGR;generalize 1/qN m=i at e ⊢;unfold qN yB at e;unfold wR;generalize m.1.x=a at e ⊢;generalize m.1.y=b at e ⊢;generalize m.1.z=c at e ⊢;unfold zO zF at e;unfold scP zO zF;simp only at e ⊢;have g:∀n u:Rat,n*u=n*u*(i*(a.x*(b.y*c.z-b.z*c.y)+a.y*(b.z*c.x-b.x*c.z)+a.z*(b.x*c.y-b.y*c.x))):=λn u=>by rw[e];grind
 rw[g N.x x.x,g N.y x.y,g N.z x.z];grind
theorem zTE{pl:Pl}(h:¬pl.1=zT):∃k:Rat,0<k/\scZ pl=scW k pl:=by
 have g:∀x:Rat,¬yQ x=0->0<ivA x:=λx hx=>by
  have C:¬x=0:=λe=>hx (by rw[e];exact zau I);have D:0<iB x:=by
   unfold iB
   split
   · rename_i e;have:=(pY _).1 e;grind
   · rename_i e;have:¬x<0:=λe'=>e ((pY _).2 e');grind
  unfold ivA;rw[zae zo0,show((1:Int):Rat)=1 from I,y0i,yoi];exact Rat.inv_pos.2 D
 unfold scZ
 split
 · rename_i e;exact⟨_,g _ e,I⟩
 · split
   · rename_i e;exact⟨_,g _ e,I⟩
   · split
     · rename_i e;exact⟨_,g _ e,I⟩
     · rename_i e1 e2 e3
       exact absurd (aX (zC9 (zdi e1)) (zC9 (zdi e2)) (zC9 (zdi e3))) h
section
variable {m:Mp}{s:Sd}(hz:¬qN m=0)(h:jQ s)
theorem oZ{f:Nat}(hf:f<s.2.1.length):(mvS m s).2.1.getD f zA=mvF m (s.1.map (wD m)) (s.2.1.getD f zA):=qI _ zA zA hf
theorem zHF:(mvS m s).2.1.length=s.2.1.length:=zde _
include h
theorem yNN{f:Nat}(hf:f<s.2.1.length):∃p0,hnF s p0 f=0/\(s.1.map (wD m)).getD (((s.2.1.getD f zA).2.1.getD 0 []).getD 0 0).toNat zT=wD m p0:=by
 obtain⟨C,H⟩:=aY h hf;have h1:=C.1.1;have h2:=(C.2 0 zot).1.1;have M:=H 0 zot 0 zot;obtain⟨U,c2⟩:=dW hf H;obtain⟨O,J⟩:=c2 0 zot;have D:=((fO h f hf).2 0 zot 0 zot).1;rw[J 0 zot] at D;exact⟨ptI s.1 (((s.2.1.getD f zA).2.1.getD 0 []).getD 0 0),by unfold hnF;rw[D];grind,qI (wD m) zT zT zot⟩
include hz
theorem yHF:ImM m s (mvS m s):=by
 refine⟨hz,I,zHF,λf hf=>?_,λf hf=>?_⟩
 · obtain⟨C,D,e0⟩:=yNN (m:=m) h hf
   have hN:=(fO h f hf).1;have hT:¬tnN m (xL s f)=zT:=λe=>by
    have Z:=zQJ hz (xL s f) (xL s f);rw[e] at Z;have e2:zF zT (wR m (xL s f))=0:=by unfold zF;simp only;grind
    exact sD hN (Z.symm.trans e2)
   obtain⟨k,hk,ek⟩:=zTE (pl:=(tnN m (xL s f),zF (tnN m (xL s f)) (wD m C))) hT;have M:((mvS m s).2.1.getD f zA).1=scW k (tnN m (xL s f),zF (tnN m (xL s f)) (wD m C)):=by
    rw[oZ hf,<-ek,<-e0];rfl
   have H:∀(a b:Pt),zF (T3.mk (k*a.x) (k*a.y) (k*a.z)) b=k*zF a b:=λa b=>by unfold zF;simp only;grind
   refine⟨k,hk,λp=>?_,λd=>?_⟩
   · unfold hnF
     rw[M]
     show k*_-zF (T3.mk (k*_) (k*_) (k*_)) _=_
     rw[H];have U:=zQJ hz (xL s f) (yJ C p);rw[<-j4] at U;have O:∀n a b:Pt,zF n (yJ a b)=zF n a-zF n b:=λn a b=>by unfold zF yJ;simp only;grind
     rw[O,O] at U;unfold hnF at D;have e5:(s.2.1.getD f zA).1.1=xL s f:=I;rw[e5] at D ⊢;grind
   · unfold cnF
     rw[M]
     show zF (T3.mk (k*_) (k*_) (k*_)) _=_
     rw[H,zQJ hz]
 · constructor
   · intro J
     have e:PP (mvS m s) f=PP s f:=by
      unfold PP;rw[oZ hf]
      show List.map rQ (edL (mvL m _) f (mvL m _).length)=_
      unfold mvL;rw[zae (λe=>by have:=qW.1 e;grind),zVP]
     rw[e]
   · intro J
     unfold PP;rw[oZ hf]
     show(List.map rQ (edL (mvL m _) f (mvL m _).length)).Perm _
     unfold mvL;rw[zau (qW.2 J),bG];exact zQ4 _ f _ (zbe _)
omit hz h in
theorem yNB{x:List Int}(hx:lpP x):lpP (lD x x.length):=by
 have C:(lD x x.length).length=x.length:=yW _ _;have D:∀i,i<x.length->(lD x x.length).getD i 0=x.getD (x.length-1-i) 0:=λi hi=>uE _ 0 hi;refine⟨by rw[C];exact hx.1,λi hi=>?_⟩;rw[C] at hi;rw[D i hi];refine⟨(hx.2 _ zot).1,λk hk e=>?_⟩;rw[D k zot] at e;exact(hx.2 (x.length-1-k) zot).2 (x.length-1-i) zot e.symm
omit hz in
theorem yHE{f:Nat}(hf:f<s.2.1.length):vfP ((mvS m s).2.1.getD f zA).2.1/\nmP (mvS m s) f:=by
 obtain⟨D,H⟩:=aY h hf;have C:(mvS m s).1.length=s.1.length:=zde _;have e:((mvS m s).2.1.getD f zA).2.1=mvL m (s.2.1.getD f zA).2.1:=by rw[oZ hf];rfl
 unfold nmP;rw[e,C];unfold mvL
 split
 · refine⟨⟨by rw[bG];exact D.1,λl C=>?_⟩,λl C=>?_⟩
   · rw[bG] at C
     rw[iW C,zau C];exact yNB (D.2 l C)
   · rw[bG] at C
     rw[iW C,zau C];intro k hk;have hk:k<((s.2.1.getD f zA).2.1.getD l []).length:=by
      have:(lD ((s.2.1.getD f zA).2.1.getD l []) ((s.2.1.getD f zA).2.1.getD l []).length).length=_:=yW _ _;omega
     have J:(lD ((s.2.1.getD f zA).2.1.getD l []) ((s.2.1.getD f zA).2.1.getD l []).length).getD k 0=((s.2.1.getD f zA).2.1.getD l []).getD (((s.2.1.getD f zA).2.1.getD l []).length-1-k) 0:=uE _ 0 hk;rw[J];exact H l C _ zot
 · rw[zVP]
   exact⟨D,H⟩
omit hz in
theorem yAY(a b:Int):((edZ (xP (mvS m s))).map rQ).count (a,b)<=((edZ (xP (mvS m s))).map rQ).count (b,a):=by
 by_cases hv:yQ (qN m)<0
 · have hp:∀n,n<=s.2.1.length->((edF (xP (mvS m s)) n).map rQ).Perm (((edF (xP s) n).map rQ).map swQ):=λn=>by
    induction n with
    |zero=>exactλ_=>.refl _
    |succ n ih=>
     intro hn;have e:(xP (mvS m s)).getD n []=rvL ((xP s).getD n []) ((xP s).getD n []).length:=by
      rw[rC (by rw[zHF];omega),rC zot,oZ zot]
      show mvL m _=_
      unfold mvL;rw[zau hv]
     show((edF (xP (mvS m s)) n++edL _ n _).map rQ).Perm (((edF (xP s) n++edL _ n _).map rQ).map swQ)
     rw[zle,zle,zle,e,bG];exact(ih zot).append (zQ4 _ n _ (zbe _))
   have hq:=hp _ (zbe _);have e1:edZ (xP (mvS m s))=edF (xP (mvS m s)) s.2.1.length:=by unfold edZ;rw[kQ,zHF]
   have e2:edZ (xP s)=edF (xP s) s.2.1.length:=by unfold edZ;rw[kQ]
   rw[e1,hq.count_eq,hq.count_eq,eW,eW,<-e2];exact zC7 h b a
 · have e:xP (mvS m s)=xP s:=by
    unfold xP;rw[zHF];refine tD _ λf hf=>?_;rw[oZ hf]
    show mvL m _=_
    unfold mvL;rw[zae hv,zVP]
   rw[e];exact zC7 h a b
theorem yKM(hn:∀f,f<s.2.1.length->uC (kY (mvS m s) f) 0 1=0/\ouZ (kY (mvS m s) f)=1/\∀l,l∈kY (mvS m s) f->cA l)(hk:okS s):jQ (mvS m s)/\okS (mvS m s):=by
 have J:(mvS m s).1.length=s.1.length:=zde _;have C:(mvS m s).2.1.length=s.2.1.length:=zHF;have hi:=yHF hz h;have D:=λf hf=>yHE (m:=m) h (f:=f) hf;have H:=(mF h).1;have hb:¬zIK s:=λe=>by
  unfold szZ at H;rw[zau e] at H;simp at H
 have U:vaP (xP (mvS m s)):=⟨by rw[kQ,C];unfold zIK at hb;omega,λf hf=>by rw[kQ,C] at hf;rw[rC zot];exact(D f hf).1⟩;refine⟨zK3 (zYH (by unfold zIK at hb ⊢;rw[J,C];exact hb) λf hf=>D f zot) (zX7 λi k hk hi2 e=>?_) (zZV (λf hf e=>?_) λf hf l hl k hk=>?_) (yAW λf hf=>⟨(hn f zot).1,(hn f zot).2.1⟩) ?_,⟨⟨by rw[J,C];exact hk.1.1,hk.1.2⟩,λf hf=>?_,λf hf x hx=>(hn f zot).2.2 x hx⟩⟩
 · have g:∀u,u<s.1.length->gp (mvS m s).1 u=wD m (gp s.1 u):=λu hu=>qI (wD m) zT zT hu
   rw[g i zot,g k zot] at e;exact zS8 h zot zot zot (zU1 hz e)
 · obtain⟨r,hr,M,n2⟩:=hi.n f zot
   have hN:=(fO h f zot).1;have e1:=n2 (xL s f);have e2:cnF (mvS m s) (wR m (xL s f)) f=0:=by
    unfold cnF;rw[e];unfold zF;simp only;grind
   rw[e2] at e1;have e3:cnF s (xL s f) f=zF (xL s f) (xL s f):=I;rw[e3] at e1;have:=q5 hN;exact(zoe.1 e1.symm).elim zo0 (sD hN)
 · rw[C] at hf
   obtain⟨c1,c2⟩:=dW (by rw[C];exact hf) (D f hf).2;obtain⟨c3,c4⟩:=c2 l zot;rw[c4 k zot]
   -- the corner is the yNR one of an edge
   have he:(((((mvS m s).2.1.getD f zA).2.1.getD l []).getD k 0),((((mvS m s).2.1.getD f zA).2.1.getD l []).getD ((k+1)%(((mvS m s).2.1.getD f zA).2.1.getD l []).length) 0))∈PP (mvS m s) f:=zlu.2 ⟨_,zSM (g:=λl=>edX ((((mvS m s).2.1.getD f zA).2.1.getD l [])) f l ((((mvS m s).2.1.getD f zA).2.1.getD l [])).length) (m:=l) zot (zR1 (m:=k) zot),I⟩;obtain⟨r,hr,M,n2⟩:=hi.n f hf;have O:hnF (mvS m s) (ptI (mvS m s).1 ((((mvS m s).2.1.getD f zA).2.1.getD l []).getD k 0)) f=0:=by
    rcases(show 0<qN m\/qN m<0 by grind) with hv|hv
    · obtain⟨⟨p1,p2⟩,p3,p4⟩:=zTK hi h hf (((hi.e f hf).1 hv).mem_iff.1 he)
      rw[p1,M,p3];grind
    · obtain⟨e2,Z,ee⟩:=zlu.1 (((hi.e f hf).2 hv).mem_iff.1 he)
      obtain⟨⟨p1,p2⟩,p3,p4⟩:=zTK hi h hf Z;have e3:((((mvS m s).2.1.getD f zA).2.1.getD l []).getD k 0)=e2.2:=(zbi Prod.fst ee).symm;rw[e3,p2,M,p4];grind
   unfold sdZ hgt;rw[zFC];unfold hnF at O;grind
 · unfold clZ
   rw[zau U];unfold yGS;refine cH λi hi2=>?_;unfold yCS tmZ;rw[zBA _ _ _ _ (zbe _),zBA _ _ _ _ (zbe _)];have e:∀L:List E5,(L.map rQ).take L.length=L.map rQ:=λL=>by rw[zvu (by rw[zde];exact zbe _)]
   rw[e];exact y2u.2 (Int.ofNat_le.2 (yAY (m:=m) h _ _))
 · have:=D f zot
   exact⟨this.1.1.2,λl hl=>(this.1.2 l hl).1.2⟩
end
def mM(a σ:Int)(τ:Pt):Mp:=(T3.mk (T3.mk ((1:Int):Rat) (a:Rat) ((2:Int):Rat)) (T3.mk 0 (σ:Rat) 0) (T3.mk 0 0 ((1:Int):Rat)),τ)
section
variable {a σ:Int}{τ:Pt}(ha:-1<=a/\a<=1)(hσ:σ=1\/σ= -1)
theorem zQD:qN (mM a σ τ)=(σ:Rat):=by
 unfold qN yB zF zO mM;rw[show((1:Int):Rat)=1 from I];simp only;grind
include hσ
theorem zXX:¬qN (mM a σ τ)=0:=by
 rw[zQD]
 rcases hσ with rfl|rfl<;>decide
theorem yMW(N:Pt):tnN (mM a σ τ) N=T3.mk N.x ((σ:Rat)*(N.y-(a:Rat)*N.x)) (N.z-2*N.x):=by
 have C:1/((σ:Int):Rat)=(σ:Rat):=by rcases hσ with rfl|rfl<;>decide +kernel
 have D:((σ:Int):Rat)*(σ:Rat)=1:=by rcases hσ with rfl|rfl<;>decide +kernel
 unfold tnN ivM yGR;rw[zQD,C];unfold mM scP zO zF;rw[show((1:Int):Rat)=1 from I,show((2:Int):Rat)=2 from I];exact aX zo2 zo2 zo2
theorem yN7(n u:I3):dt3 (nI a σ n) (mI a σ u)=dt3 n u:=by
 unfold dt3 nI mI
 rcases hσ with rfl|rfl<;>simp only<;>grind
theorem yNM{n:I3}(h:nI a σ n=z3):n=z3:=by
 unfold nI at h;have C:n.1=0:=zbi Prod.fst h;have H:σ*(n.2.1-a*n.1)=0:=zbi (λz:I3=>z.2.1) h;have D:n.2.2-2*n.1=0:=zbi (λz:I3=>z.2.2) h;rw[C] at H D
 rcases hσ with rfl|rfl
 · exact Prod.ext C (Prod.ext (by show n.2.1=0;omega) (by show n.2.2=0;omega))
 · exact Prod.ext C (Prod.ext (by show n.2.1=0;omega) (by show n.2.2=0;omega))
omit hσ in
theorem yDV(v u:I3):wD (mM a σ τ) (cP v u)=cQ (wD (mM a σ τ) (nr3 v)) (mI a σ u):=by
 unfold wD wR wV zF mM cP cQ nr3 mI;simp only[zli,zji,show((1:Int):Rat)=1 from I];exact aX zo2 zo2 zo2
theorem yKN{v:I3}{I:SI}{s:Sd}(hm:aH v I s)(hb:chI I=true):zI0 (wD (mM a σ τ) (nr3 v)) (mvI a σ I) (mvS (mM a σ τ) s):=by
 have hs:=(w8 hm hb).1;have hl:=hm.2.2.1;refine⟨?_,hm.2.1,?_,λf hf=>?_⟩
 · show s.1.map _=(I.1.map _).map _
   rw[hm.1,yri,yri];exact yge λu _=>yDV v u
 · show(s.2.1.map _).length=(I.2.map _).length
   rw[zde,zde,hl]
 · have hf:f<I.2.length:=by have:f<(I.2.map _).length:=hf;rwa [zde] at this
   have e1:(mvI a σ I).2.getD f fi0=(nI a σ (I.2.getD f fi0).1,(I.2.getD f fi0).2.1,lmI σ (I.2.getD f fi0).2.2.1,(I.2.getD f fi0).2.2.2):=qI _ fi0 fi0 hf;rw[e1,oZ zot];obtain⟨⟨b,J,e2⟩,U⟩:=hm.2.2.2 f hf;have C:=zHI hm hb hf;have D:=zR7 hm hb hf;have M:(s.2.1.getD f zA).2.1=(I.2.getD f fi0).2.2.1:=zbi Prod.fst U;have aa:=D.2.1.1;have Z:=(D.2.2 0 zot).1.1;have hr:=D.1 0 zot 0 zot;rw[w9 hm] at hr;have H:=(zCM C (l:=0) (by rw[<-M];omega)).2 0 (by rw[<-M];omega);rw[<-M] at H;have O:¬(I.2.getD f fi0).1=z3:=by
    unfold faB at C;simp only[zbu,zje,zgu] at C;exact C.2.1.2
   have hP:(s.1.map (wD (mM a σ τ))).getD (((s.2.1.getD f zA).2.1.getD 0 []).getD 0 0).toNat zT=cQ (wD (mM a σ τ) (nr3 v)) (mI a σ (g3 I.1 (((s.2.1.getD f zA).2.1.getD 0 []).getD 0 0).toNat)):=by
    rw[qI (wD (mM a σ τ)) zT zT (by rw[w9 hm];omega),hm.1,show(I.1.map (cP v)).getD (((s.2.1.getD f zA).2.1.getD 0 []).getD 0 0).toNat zT=_ from zT8 (v:=v) zot,yDV]
   constructor
   · generalize hw:wD (mM a σ τ) (nr3 v)=w at hP ⊢
     obtain⟨c,hc,ec⟩:=zTE (pl:=scW (1/(b:Rat)) (zM4 w (nI a σ (I.2.getD f fi0).1,(I.2.getD f fi0).2.1,lmI σ (I.2.getD f fi0).2.2.1,(I.2.getD f fi0).2.2.2))) (zY2 (v:=z3) (zCC J.1) λe=>O (yNM hσ e));refine⟨c*(1/(b:Rat)),uD hc (zCC J.1),?_⟩
     show mvP (mM a σ τ) (s.1.map (wD (mM a σ τ))) (s.2.1.getD f zA)=_
     rw[<-zTF,<-ec];unfold mvP;rw[hP];have eN:tnN (mM a σ τ) (s.2.1.getD f zA).1.1=scT (1/(b:Rat)) (nr3 (nI a σ (I.2.getD f fi0).1)):=by
      rw[yMW hσ,e2];unfold scW cPl scT nr3 nI;simp only[zru,zji,show((2:Int):Rat)=2 from rfl];exact aX (by simp only) zo2 zo2
     rw[eN];refine zbi scZ (Prod.ext rfl ?_)
     show zF (scT (1/(b:Rat)) _) (cQ w _)=1/(b:Rat)*_
     have e5:∀(q:Rat) (n u:I3),zF (scT q (nr3 n)) (cQ w u)=q*(((dt3 n u:Int):Rat)+zF (nr3 n) w):=λq n u=>by
      unfold zF scT nr3 cQ dt3;simp only[zli,zji];grind
     rw[e5,yN7 hσ,H];rfl
   · refine Prod.ext ?_ (show(s.2.1.getD f zA).2.2=(I.2.getD f fi0).2.2.2 from zbi Prod.snd U)
     show mvL (mM a σ τ) (s.2.1.getD f zA).2.1=lmI σ _
     unfold mvL lmI;have hs:yQ ((σ:Int):Rat)<0↔σ<0:=by rcases hσ with rfl|rfl<;>decide +kernel
     rw[zQD,M]
     by_cases c:σ<0
     · rw[zau c,zau (hs.2 c)]
     · rw[zae c,zae λe=>c (hs.1 e)]
include ha
theorem yKO{s:Sd}(hs:zIP s):(jQ (mvS (mM a σ τ) s)/\okS (mvS (mM a σ τ) s))/\mvR (mM a σ τ) s=mvS (mM a σ τ) s/\∀p,inZ (mvS (mM a σ τ) s) (wD (mM a σ τ) p)=inZ s p:=by
 have h0:=zBC hs;have hw:=zYP hs;obtain⟨v,I,U,hv,O⟩:=hs;have hb:=zMX U;have hz:¬qN (mM a σ τ)=0:=zXX hσ;have Z:=yKN (a:=a) (τ:=τ) hσ O hb;have hl:=O.2.2.1;have D:=zMW yKC yKD yKA yKB U;have H:∀f,f<s.2.1.length->uC (kY (mvS (mM a σ τ) s) f) 0 1=0/\ouZ (kY (mvS (mM a σ τ) s) f)=1/\∀l,l∈kY (mvS (mM a σ τ) s) f->cA l:=λf hf=>by
  have M:f<(mvI a σ I).2.length:=by show f<(I.2.map _).length;rw[zde];omega
  have J:=zR3 Z (yHE h0.1.1 hf).2 M;refine zHE zox zox J ?_;have e1:(mvI a σ I).2.getD f fi0=(nI a σ (I.2.getD f fi0).1,(I.2.getD f fi0).2.1,lmI σ (I.2.getD f fi0).2.2.1,(I.2.getD f fi0).2.2.2):=qI _ fi0 fi0 zot;rw[e1];have h1:=zob.1 D _ (kJ (d:=fi0) (show f<I.2.length by omega));simp only[zbu] at h1;obtain⟨⟨⟨⟨⟨a1,a2⟩,a3⟩,a4⟩,a5⟩,a6⟩:=h1;have:a= -1\/a=0\/a=1:=by omega
  rcases hσ with rfl|rfl<;>rcases this with rfl|rfl|rfl<;>assumption
 have C:=yKM hz h0.1.1 H h0.1.2;exact⟨C,zae hz,λp=>yN1 (yHF hz h0.1.1) h0.1.1 C.1 hw p⟩
end
end Bk
namespace Go.Proofs.YtpkaegemlpaenaaGreat
open Bk Go Tryz
attribute [local irreducible] GL GC GQ W OpV
set_option maxHeartbeats 1000000 in
theorem zCB{w0:World}{h0:Mem}(hs:MLe h0 (mem w0)){vl:Value}{xsl:List Int}(hl:Is h0 vl xsl):
 y8i 5 #[vl] w0 h0 (λ_ r=>r=.bool true):=by
 have cb:=hl.lt63;refine cb1 60 vl func5 hs ?_;refine go9 ?_;refine cL (ev1 I) call9 (λw hs=>zR9 hs hl) λeb h1 ev bd=>?_;subst bd;refine gc3 (λbe=>?_) λbe=>?_
 ·
  refine go2 ?_;refine cL (vs:=[]) trivial call10 (λw hs=>zHT hs) λea h2 cc bc=>?_;subst bc;refine go5 ?_;refine zC I I ?_
  rfl
 refine go5 ?_;refine uY (vs:=[_]) I I I I call11 ⟨I,y5i⟩ (λw hs=>zWW hs hl.up) ?_;intro dz h2 fh cc bb;obtain⟨fg,rfl,rfl⟩:=bb;refine go6 ?_;refine yH (A:=[]) (vs:=[_]) call24 ⟨I,y5i⟩ (λX w hs=>zLW hl.up zow hs) I ?_;intro dy fb eg cy ad;obtain⟨el,ae,rfl,co,aa,ad⟩:=ad;have C:=zBC aa;have em:=yET aa;refine nA (ρ:=(tSd 1 1 1 1)) (X:=([],([],[]))) qQ (yA wC (yA wC wC)) λb4 ff bk=>?_;have au:=(Le.p (Le.s (Le.t (Le.q (l:=2) dC))) (Le.p (Le.s (Le.p (Le.p (Le.t (Le.q (l:=2) dC)) (Le.q (l:=2) dC)) (Le.refl _))) (Le.refl _))).R bk;refine zP (A:=[]) (uB sizeOf39 pH au ad) λdc U=>(go5 ?_);refine lX (xB jP pH U) λdx bz=>?_;refine yH (A:=[_]) (vs:=[_,_]) call25 e2z (λX w hs=>zPC hl.up zow bz oM (by have:=C.1.2.1.1.1;omega) dC hs) I ?_;intro dw fa ef cw ac;obtain⟨ek,ax,rfl,cn,ac⟩:=ac;refine nA (ρ:=(tPt 59)) (X:=zT) yK (yR (yE dC)) λb5 fe bj=>(zP (A:=[]) (uB sizeOf31 pH bj ac) λdb ah=>(go4 ?_));refine cL (vs:=[]) trivial call26 (λw hs=>zIU hs) λdv h3 eu bx=>(nA (ρ:=(rpP (rpT (tPt 2)) (tPt 2))) (X:=((T3.mk zT zT zT),zT)) dO (yA (yR (yR (yE dC))) (yR (yE dC))) λb6 fd bi=>(zP (A:=[]) (uB sizeOf58 pH bi bx) λda aw=>(go5 ?_)));refine yH (A:=[_,_,_]) (vs:=[_,vI (3)]) call13 e2z (λX w hs=>wE hl.up zow oM oM hs) I ?_;intro du ez ee cu ba;obtain⟨ej,M,rfl,cm,rfl,cg,ci⟩:=ba;refine go1 ?_;refine cL (vs:=[vI (1),_,vI (2)]) e3z call12 (λw hs=>gM hs dC dC oM oM dC dC) λdt h4 es bw=>(go2 ?_);refine zP (A:=[]) (uB sizeOf31 (y6i (y6e pH)) aw bw) λcz av=>(go5 ?_);refine yH (A:=[_,_,_]) (vs:=[_,vI (2)]) call13 e2z (λX w hs=>wE hl.up zow oM oM hs) I ?_;intro dr ey ed ct az;obtain⟨ei,J,rfl,cl,rfl,cf,ch⟩:=az;refine gv (gK (p:=2) I I oM oM) I (gv (qT (p:=1) I I oM oM) I (cL (ev1 I) call27 (λw hs=>qP hs oM oM) λdq h5 er bv=>(go2 ?_)));refine gv ((zW (sz:=3) (q:=1) 1 underlying31 sizeOf29 I I I oM).cv (show _=vP b6 12 from zbi (vP b6) zo5)) I (zP (A:=[]) (uB sizeOf29 (y6i (y7i (y7i pH))) av bv) λce ao=>(go5 ?_));refine yH (A:=[_,_,_]) (vs:=[_]) call16 ⟨I,y5i⟩ (λX w hs=>zET hl.up zow hs) I ?_;intro dp cd ec cq ab;obtain⟨eh,O,rfl,ck,cj,ab⟩:=ab;refine go1 ?_;refine zP (A:=[]) (uB sizeOf31 (y6u pH) ao ab) λar an=>?_;have Z:(rpP (rpT (tPt 2)) (tPt 2)).R cd ar (mM (M-1) (1-2*J) O):=Rp.castR an zo5;refine go4 ?_;refine lX (xB jP pH U) λdn bu=>(lX (xB zE2 pH Z) λdm bt=>(cL (ev2 I I) call28 (λw hs=>yAI hs bu bt (by first|omega|exact C.1.2|exact C.1.1) (by first|omega|exact C.1.2|exact C.1.1) dC dC dC dC dC dC dC dC dC dC dC) λdl h6 eq bs=>?_));obtain⟨ai,rfl,H⟩:=bs
 change (tSd (3*2+3*2+2+10) (600*2+20*2+2000) (600*2+20*2+9*2+3*2+2+2000) 1).Is h6 ai (mvR (mM (M-1) (1-2*J) O) ae) at H
 replace H:=Rp.Is.le H (Le.p (Le.s (Le.t (Le.q (l:=24) oM))) (Le.p (Le.s (Le.p (Le.p (Le.t (Le.q (l:=3240) oM)) (Le.q (l:=3266) oM)) (Le.refl _))) (Le.refl _)));have D:=yKO (a:=M-1) (σ:=1-2*J) (τ:=O) ⟨zot,zot⟩ oM aa;have ca:¬qN (mM (M-1) (1-2*J) O)=0:=zXX oM;refine go3 ?_;refine nA (ρ:=(tSd 1 1 1 1)) (X:=([],([],[]))) qQ (yA wC (yA wC wC)) λb7 fc bh=>?_;have aj:=(Le.p (Le.s (Le.t (Le.q (l:=24) dC))) (Le.p (Le.s (Le.p (Le.p (Le.t (Le.q (l:=3240) dC)) (Le.q (l:=3266) dC)) (Le.refl _))) (Le.refl _))).R bh;refine zP (A:=[]) (uB sizeOf39 pH aj H) λaq am=>?_;have ak:(tSd 24 3240 3266 1).R h6 aq (mvS (mM (M-1) (1-2*J) O) ae):=Rp.castR am (by exact D.2.1);refine go4 ?_;refine zJ 17 _ [] (zai 0 6 [(8,.q),(9,.q),(6,.c),(7,.c),(10,.c),(11,.q),(12,.q),(13,.q),(14,.c),(15,.q),(16,.q)]) zX nX (wL zou) nX (λr hr=>hr) (go1 ?_);refine wZ I (λ_ _=>OpV.tr (by exact zae ca) (rR (q:=0) I I)) I (go1 ?_);refine oX I (xB jP pH ak) λdk br=>(oX I (xB zE2 pH Z) λdj bq=>(oX I (xB zK pH ah) λdi bp=>(oX I (xB jP pH U) λdf bn=>(oX I (xB zK pH ah) λde bm=>?_))));refine w_c I (iT I I (sC (ev2 I I) call29 (λw hs=>zG5 hs bq bp dC dC dC) λdh h7 ep ap=>?_));replace ap:=Rp.Is.le ap (Le.t (Le.q (l:=195) oM));refine w_c I (iT I I (sC (ev2 I I) call18 (λw hs=>zLU hs br.up ap (by first|omega|exact D.1.2|exact D.1.1|exact C.1.2|exact C.1.1) (by first|omega|exact D.1.2|exact D.1.1|exact C.1.2|exact C.1.1) dC dC dC dC) λbg h8 eo bo=>?_));obtain rfl:bg=vI (inM (tX (mvS (mM (M-1) (1-2*J) O) ae)) (wD (mM (M-1) (1-2*J) O) ax)):=bo;refine w_c I (iT I I (sC (ev2 I I) call18 (λw hs=>zLU hs bn.up bm.up (by first|omega|exact D.1.2|exact D.1.1|exact C.1.2|exact C.1.1) (by first|omega|exact D.1.2|exact D.1.1|exact C.1.2|exact C.1.1) dC dC dC dC) λbf h9 en bl=>?_));obtain rfl:bf=vI (inM (tX ae) ax):=bl;refine yV I I I (λh' L' hh hR=>OpV.tr (by exact(zMM D.1.1 _).trans ((D.2.2 _).trans (zMM C.1.1 _).symm)) (rR I I)) I (go2 ?_);refine w_c I (iT I I (sC (vs:=[]) trivial call10 (λw hs=>zHT hs) λdd ew cp ay=>?_));subst ay;refine go5 ?_;refine zC I I ?_
 rfl
end Go.Proofs.YtpkaegemlpaenaaGreat
