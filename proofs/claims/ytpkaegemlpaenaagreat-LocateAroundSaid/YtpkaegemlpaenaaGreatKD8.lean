/- Texts that the proof needs, part 8. -/
import Derived.Test.YtpkaegemlpaenaaGreatKD7
set_option linter.unusedVariables false
set_option linter.unusedSimpArgs false
noncomputable section
set_option maxRecDepth 10000
set_option maxHeartbeats 1000000
namespace Go.Proofs.YtpkaegemlpaenaaGreat
open Bk Go Tryz
attribute [local irreducible] GL GC GQ W OpV
theorem zGQ{w0:World}{h0:Mem}(hs:MLe h0 (mem w0)){k m n j j2 l2:Nat}{vs:Value}{s:Sq}(rs:(tSd k m n j).Is h0 vs s){vp:Value}{p:Tq}(rp:(tPt j2).Is h0 vp p){vd:Value}{d:Tq}(rd:(tPt l2).Is h0 vd d)(hcd0:okS s)(hcd1:kC s)(hcd2:k<=9000)(hcd3:j2<=900)(hcd4:l2<=300)(hcd5:m<=90)(hcd6:n<=90):
 Calls prog 41 #[vs,vp,vd] w0 (Ret w0 h0 (λh r=>r=.tuple #[vI (crX s p d),vI (crY s p d),vB (okR s p d)])):=by
 have D:=yG1 (s:=s) hcd0;refine cb3 32 vs vp vd func41 hs ?_;refine go2 ?_;refine nB rs λb3 ax ad=>(nB rp λb4 aw O=>(nB rd λb5 av M=>(go7 ?_)));refine lX (xB jV pH ad) λbh ar=>(cL (ev1 I) call69 (λw hs=>zEH hs ar (by first|omega|exact hcd0|exact hcd1|exact sG hcd1|exact D|rfl) (by first|omega|exact hcd0|exact hcd1|exact sG hcd1|exact D|rfl) oM oM oM) λbg h1 bj aq=>(nA (ρ:=(rpP (rpS (rpP (tPl 1 1) (rpP (tLL 1) (rpP rpI rpI)))) (rpS (rpA 2 (tPt 1))))) (X:=([],[])) zLY (yE wK wK) λb9 bk ac=>?_));have J:=(Le.p (Le.s (Le.p (Le.p (Le.t (Le.q (l:=m+1) oM)) (Le.q (l:=n+1) oM)) (Le.p (Le.s (Le.s (Le.t (Le.q (l:=k+1) oM)))) (Le.refl _)))) (Le.s (Le.a (Le.t (Le.q (l:=k+1) oM))))).R ac;refine yD (A:=[]) (uB sizeOf99 pH J aq) λaa H=>(go5 ?_);refine lX (xB zMU pH H) λbf ap=>(lX (xB zN pH O) λbe ao=>(cL (ev2 I I) call70 (λw hs=>zZR hs ap ao oM oM oM oM (by first|omega|exact D)) λbd h2 bi an=>?_));obtain rfl:=an;refine uQ ?_;refine qE (ι:=Mem) 4 (λm_=>MLe h2 m_) (λ_=>[(24,vB ((onA (kG s) p)\/(d=zT))),(4,vP b4 0),(5,vP b5 0),(9,vP b9 0)]) (λ_=>[.var b9 99 aa,.var b5 31 av,.var b4 31 aw,.var b3 39 ax]) (λm_=>m_) ?_ ?_
 ·
  refine zY (onA (kG s) p) (λhg=>?_) (λhg=>?_)
  ·
   refine gT hg I (go4 ?_);refine zV h2 (MLe.refl _) ⟨?_,I,I,I,y3e⟩ I I;exact y3u (vV hg)
  refine gF hg I (go1 ?_);refine lX (xB zN pH M) λbc am=>(go1 ?_);refine cL (ev1 I) call78 (λw hs=>zGI hs am oM) λab h3 Z ak=>?_;obtain rfl:ab=vB (d=zT):=ak;refine go2 ?_;refine zV h3 Z ⟨?_,I,I,I,y3e⟩ I I;exact y3u (vW hg)
 intro au U;refine sN ?_;refine gc2 (λC=>?_) λC=>?_
 ·
  obtain⟨e1,e2,e3⟩:=yF4 (d:=d) hcd1 C;refine go9 ?_;refine qJ I I I I ?_;rw[e1,e2,yN e3]
 obtain⟨e1,e2,e3⟩:=yLR (d:=d) hcd1 C;refine go4 ?_;refine lX (xB zMU pH H) λbb aj=>(lX (xB zN pH O) λba ai=>(lX (xB zN pH M) λaz ah=>(cL (ev3 I I I) call79 (λw hs=>j8 hs aj ai ah oM oM oM oM oM (by first|omega|exact D)) λay h3 Z ae=>?_)));obtain rfl:=ae;refine go9 ?_;refine qJ I I I I ?_;rw[e1,e2,kO e3]
set_option maxHeartbeats 1000000 in
theorem zQ9{w0 w:World}{h0 h:Mem}{b k:Nat}{vl:Value}{xs:List Int}(hl:Is h vl xs)(hk:k<=xs.length){L:List Res}(hs:St w0 h0 (.var b 72 [vl,vI ↑k]::L) h w):
 Calls prog 57 #[vP b 0] w (cS w0 h0 h L (λg r q'=>∃k':Nat,∃m:Sq,q'=.var b 72 [vl,vI ↑k']/\k'<=xs.length/\zA5 m/\(tSd 2 2 2 1).Is g r m)):=by
 have cd:=hl.lt63;refine qM (n:=39) (e:=[(0,vP b 0)]) (vs:=[vP b 0]) func57 rfl rfl (bL rfl) hs ⟨rfl,y3e⟩ (go2 ?_);refine nA (ρ:=(tSd 1 1 1 1)) (X:=([],([],[]))) qX (yE wK (yE wK wK)) λb2 dp br=>(go5 ?_);refine yP (A:=[_]) (vs:=[_,vI (3)]) call13 e2z (λX w hs=>wN hl zox oM oM hs) I ?_;intro v9 g9 q9 bx bt;obtain⟨k9,U,rfl,dh,rfl,bc,bd⟩:=bt;refine go1 ?_;refine yP (A:=[_]) (vs:=[_,vI (3)]) call13 e2z (λX w hs=>wN hl.up zox oM oM hs) I ?_;intro ct dm da bo bi;obtain⟨df,D,rfl,ci,rfl,aj,ap⟩:=bi;refine go1 ?_;refine yP (A:=[_]) (vs:=[_,vI (3)]) call13 e2z (λX w hs=>wN hl.up zox oM oM hs) I ?_;intro cq dl cz bn bh;obtain⟨de,C,rfl,ch,rfl,ai,ao⟩:=bh;refine uQ ?_;refine cL (ev3 I I I) call12 (λw hs=>fG hs oM oM oM oM oM oM) λcp h1 bw ax=>?_;replace ax:=Rp.Is.cast (y:=(pI U D C)) ax zo3;refine go3 ?_;refine yP (A:=[_]) (vs:=[_,vI (2)]) call13 e2z (λX w hs=>wN hl.up zox oM oM hs) I ?_;intro co dk cy bm bg;obtain⟨dd,O,rfl,cg,rfl,ah,an⟩:=bg;refine go4 ?_;refine yP (A:=[_]) (vs:=[_,vI (2)]) call13 e2z (λX w hs=>wN hl.up zox oM oM hs) I ?_;intro cn dj cw bl bf;obtain⟨dc,M,rfl,cf,rfl,ae,am⟩:=bf;refine go4 ?_;refine yP (A:=[_]) (vs:=[_,vI (2)]) call13 e2z (λX w hs=>wN hl.up zox oM oM hs) I ?_;intro cm di cv bk be;obtain⟨db,J,rfl,ce,rfl,ad,ak⟩:=be;refine go1 ?_;refine cL (ev3 I I I) call12 (λw hs=>fG hs oM oM oM oM oM oM) λcl h2 bv aw=>?_;replace aw:=Rp.Is.cast (y:=(pI (U+1+O) (D+1+M) (C+1+J))) aw zo3;refine uX (vs:=[_,_]) I I I I call15 e2z (λw hs=>zJO hs ax.up aw dC dC (by first|omega|exactλe=>yCM e)) ?_;intro ck h3 dq bu aa;obtain⟨cu,cb,bp,rfl,aa,rfl,cc,H⟩:=aa
 change RL (tFc (10000*2+10000*2+20000) (10000*2+10000*2+20000)) h3 bp (blF (pI U D C) (pI (U+1+O) (D+1+M) (C+1+J))) at H
 replace aa:=Rp.Is.le aa (Le.p (Le.s (Le.t (Le.q (l:=48) oM))) (Le.refl _));replace H:=(Le.p (Le.p (Le.t (Le.q (l:=60000) oM)) (Le.q (l:=60000) oM)) (Le.refl _)).rl H;refine go3 ?_;refine nA (ρ:=(rpP (tLs 1) (rpP rpV (rpS (rpP rpI (rpP rpI (rpQ 1))))))) (X:=([],((Value.slice none 0 0),[]))) qX (yE wK (yE fC wK)) λb6 dn bq=>?_;have ay:=(Le.p (Le.s (Le.t (Le.q (l:=48) dC))) (Le.p (Le.refl _) (Le.s (Le.p (Le.refl _) (Le.p (Le.refl _) (Le.q (l:=6) dC)))))).R bq;refine yD (A:=[]) (uB sizeOf39 pH ay aa) λab Z=>(go5 ?_);refine zQ (A:=[_]) (ρ:=(tFc 60000 60000)) H ?_;intro h4 bj az;replace Z:=Z.mono bj;have bb:(tSd 48 60000 60000 6).R h4 ab (blP (pI U D C) (pI (U+1+O) (D+1+M) (C+1+J)),(blF (pI U D C) (pI (U+1+O) (D+1+M) (C+1+J)),[])):=zFJ Z az;have ba:(tSd 48 60000 60000 6).R h4 ab (bkS (pI U D C) (pI (U+1+O) (D+1+M) (C+1+J))):=Rp.castR bb zo3;have av:(tSd 2 2 2 1).R h4 ab (bkS (pI U D C) (pI (U+1+O) (D+1+M) (C+1+J))):=zBD ba (cE (zX9 ⟨bc,bd⟩ ⟨aj,ap⟩ ⟨ai,ao⟩ ⟨ah,an⟩ ⟨ae,am⟩ ⟨ad,ak⟩)).2;refine lX (xB jV pH av) λcj bs=>?_;have aq:=(Le.p (Le.s (Le.t (Le.q (l:=2) dC))) (Le.p (Le.s (Le.p (Le.p (Le.t (Le.q (l:=2) dC)) (Le.q (l:=2) dC)) (Le.refl _))) (Le.refl _))).R br;refine yD (A:=[_]) (uB sizeOf39 pH aq bs) λbz au=>(go3 ?_);refine vM (gG (t:=2) jV mh1 I au) ?_;intro ca ac ar;refine fI (λE S=>yB I ac E S) ?_;exact⟨_,(.cons _ (.cons _ (zme _))),(((((((((bx.trans bo).trans bn).trans bw).trans bm).trans bl).trans bk).trans bv).trans bu).trans bj),_,_,I,by omega,(zX9 ⟨bc,bd⟩ ⟨aj,ap⟩ ⟨ai,ao⟩ ⟨ah,an⟩ ⟨ae,am⟩ ⟨ad,ak⟩),ar⟩
set_option maxHeartbeats 1000000 in
theorem zN2{w0:World}{h0:Mem}(hs:MLe h0 (mem w0)){k:Nat}{vl:Value}{l:(List Tq)}(rl:(tLs k).Is h0 vl l){vt:Value}{t:Tq}(rt:(tPt k).Is h0 vt t)(hcd0:k<=10)(hcd1:pyH l t):
 Calls prog 52 #[vl,vt] w0 (tO w0 h0 (λh r L_=>∃u0 vF cs,r=.tuple #[u0,vI 0]/\(rpP (tLs (k+2)) (rpP rpV (rpS (rpP rpI (rpP rpI (rpQ 6)))))).Is h u0 (nrP (pyR l t),(vF,[]))/\L_=[.gs 53 14 vF (nrF (pyR l t)).length cs]/\vF.oneCell'=true/\RL (tFc (1000*k+5000) (1000*k+5000)) h cs (nrF (pyR l t)))):=by
 have jk:=hcd1.1.1;obtain⟨jq,gr⟩:=zXL hcd1.1.2;refine cb2 113 vl vt func52 hs ?_;refine go2 ?_;refine nB rt λb3 dl da=>(nA (ρ:=(rpP (tLs 1) (rpP rpV (rpS (rpP rpI (rpP rpI (rpQ 1))))))) (X:=([],((Value.slice none 0 0),[]))) qX (yE wK (yE fC wK)) λb4 dk fk=>(mF ?_));refine cnd (λbn=>?_) λbn=>?_
 · exact absurd bn oM
 refine gc9 (λbm=>?_) λbm=>?_
 · exact absurd bm oM
 refine go3 ?_;refine zL 16 _ [(13,(7,50,[.bool false,.slice none 0 0,.slice none 0 0,.bool false,.slice none 0 0,.slice none 0 0,.bool false,.slice none 0 0,.slice none 0 0,.bool false,.slice none 0 0,.slice none 0 0]))] (zai 0 9 [(9,.c),(10,.q),(11,.q),(12,.q),(13,.a),(14,.c),(15,.q)]) yF (kL.cons I I (qQ rG I I) kL.nil) (wS zou) (qR I I gY) (λr hr=>hr) (go1 ?_);refine aI (F:=λv_=>AtP (tPt k) h0 v_ (l.getD 0 zT)) I (rM (q:=0) zT 0 underlying35 zN I I rl I oM nP) zBW I ?_;intro jc gh;refine wX I (xA zN gh) λjb gg=>(go1 ?_);refine aI (F:=λv_=>AtP (tPt k) h0 v_ (l.getD 1 zT)) I (rM (q:=1) zT 1 underlying35 zN I I rl I oM nP) zBW I ?_;intro ja gf;refine wX I (xA zN gf) λiz ge=>(go1 ?_);refine aI (F:=λv_=>AtP (tPt k) h0 v_ (l.getD 2 zT)) I (rM (q:=2) zT 2 underlying35 zN I I rl I oM nP) zBW I ?_;intro iy gc;refine wX I (xA zN gc) λix gb=>?_;refine w_c I (sC (ev3 I I I) call93 (λw hs=>zBP hs gg ge gb oM) λiw h1 jn ga=>?_);obtain⟨bq,rfl,ay⟩:=ga
 change (tPl (50*k+200) (200*k+900)).Is h1 bq (thZ (l.getD 0 zT) (l.getD 1 zT) (l.getD 2 zT)) at ay
 refine go3 ?_;refine w_a I I (λb7=>?_);have fj:(tPl 1 1).R h1 [.bool false,.slice none 0 0,.slice none 0 0,.bool false,.slice none 0 0,.slice none 0 0,.bool false,.slice none 0 0,.slice none 0 0,.bool false,.slice none 0 0,.slice none 0 0] (zT,(0:Rat)):=(yE (xW (yM dC)) (yM dC));refine w_c I ?_;have du:=(Le.p (Le.t (Le.q (l:=50*k+200) oM)) (Le.q (l:=200*k+900) oM)).R fj;refine lG (A:=[]) (uB sizeOf50 pH du ay) (xQ zoy) λbc av=>(go7 ?_);refine gv (OpV.fa (by rw[gr];exactλe=>e I) (bY (q:=0) I I)) I (go4 ?_);refine lX (xB lE pH av) λiv fz=>(go1 ?_);refine cL (ev2 I I) call94 (λw hs=>zQ1 hs rl.up fz oM oM oM (by first|omega|exact hcd1.2.1.1)) λfi h2 jm fy=>?_;obtain rfl:fi=vB (zHY (thZ (l.getD 0 zT) (l.getD 1 zT) (l.getD 2 zT)) l):=fy;refine go3 ?_;refine qE (ι:=Mem) 6 (λm_=>MLe h2 m_) (λ_=>[(49,vB ((¬(zHY (thZ (l.getD 0 zT) (l.getD 1 zT) (l.getD 2 zT)) l))\/((sdZ (thZ (l.getD 0 zT) (l.getD 1 zT) (l.getD 2 zT)) t)<=(0:Int)))),(0,vl),(3,vP b3 0),(4,vP b4 0),(6,vI (↑(l).length:Int)),(7,vP b7 0)]) (λ_=>[.var b7 50 bc,.var b4 39 dk,.var b3 31 dl]) (λm_=>m_) ?_ ?_
 ·
  refine zY (¬(zHY (thZ (l.getD 0 zT) (l.getD 1 zT) (l.getD 2 zT)) l)) (λhg=>?_) (λhg=>?_)
  ·
   refine gT hg I (go6 ?_);refine zV h2 (MLe.refl _) ⟨?_,I,I,I,I,I,y3e⟩ I I;exact y3u (vV hg)
  refine gF hg I (go1 ?_);refine lX (xB lE pH av) λiu fx=>(go1 ?_);refine lX (xB zN pH da) λir fw=>(go1 ?_);refine cL (ev2 I I) call23 (λw hs=>zJH hs fx fw oM oM oM) λfh h3 ab fv=>?_;obtain rfl:fh=vI (sdZ (thZ (l.getD 0 zT) (l.getD 1 zT) (l.getD 2 zT)) t):=fv;have gn:=lF (thZ (l.getD 0 zT) (l.getD 1 zT) (l.getD 2 zT)) t;refine go4 ?_;refine zV h3 ab ⟨?_,I,I,I,I,I,y3e⟩ I I;exact y3u (vW hg)
 intro ah en;refine sN ?_;refine gc2 (λbl=>?_) λbl=>?_
 ·
  rcases bl with e|e
  exact absurd hcd1.2.1.1 e;have:=hcd1.2.1.2;omega
 refine go2 ?_;refine jR (ι:=Nat×List Value×Mem) (λ(D,J,mc)=>MLe ah mc/\((rpP (tLs (k+1)) (rpP rpV (rpS (rpP rpI (rpP rpI (rpQ 1)))))).R mc J ((l++[t]),((Value.slice none 0 0),([]:List En)))/\True)) (λ(D,J,mc)=>[(0,vl),(3,vP b3 0),(4,vP b4 0),(6,vI (↑(l).length:Int)),(7,vP b7 0),(9,vP D 0)]) (λ(D,J,mc)=>[.var D 39 J,.var b7 50 bc,.var b4 39 dk,.var b3 31 dl]) (λ(D,J,mc)=>mc) ?_ ?_
 ·
  refine zL 7 _ [(6,(9,39,[.slice none 0 0,.slice none 0 0,.slice none 0 0]))] [(0,.q),(2,.q),(1,.b 3),(4,.c),(5,.c),(6,.a),(7,.t)] yF (kL.cons I I (qQ qX I I) kL.nil) zou (qR I I gY) (λr hr=>hr) (go1 ?_);refine wX I (xB zN pH da) λiq ed=>?_;refine w_b I I ?_ ?_
  ·
   refine iT 31 9 ?_;have dw:=RL.nil (ρ:=rpT (rpQ k)) (h:=ah);refine fL (A:=[]) (λX=>uE (zS (ρ:=(tPt k)) (bytes:=168) underlying35 yS I I I I nP I I dw rl.up bO bO)) I (xQ zoy) ?_
   rintro fg gm ⟨em,ew,rfl,H⟩
   refine jH (λX=>zJ (ρ:=(tPt (k+1))) (m:=1) (xs:=[t]) (ps':=[(0,_)]) underlying35 yS I I I (xW (yM oM)) e2z (zD I (y4u (y4i _) zT 0 dC) (ed.le (Le.t (Le.q (l:=k+1) oM))) zP) zok nP) I ?_;intro ff gk ek;obtain⟨ev,rfl,ar⟩:=ek;refine w_c I (xT (A:=[]) (ρ:=(tPt (k+1))) ar dK ?_);intro h3 ab dv;replace H:=H.mono ab;have dt:=(Le.t (Le.q (l:=k+1) oM)).rl H;refine fL (A:=[]) (λX=>uE (zS (ρ:=(tPt (k+1))) (bytes:=168) underlying35 yS I I I I nP I I dt dv bO bO)) I (xQ zoy) ?_
   rintro fe gj ⟨el,eu,rfl,aq⟩
   refine w_c I (xT (A:=[]) (ρ:=(tPt (k+1))) aq dK ?_);intro h4 am ci;refine sX (xV (ρ:=(rpP (tLs (k+1)) (rpP rpV (rpS (rpP rpI (rpP rpI (rpQ 1))))))) (wE (ps':=[(0,_)]) underlying39 qX I I (rK underlying39) e2z I (yE wK (yE fC wK)) (zD I (y4e (y4i _)) ci zP))) λfd db=>?_;refine w_a I I (λb9=>?_);have cz:(rpP (tLs 1) (rpP rpV (rpS (rpP rpI (rpP rpI (rpQ 1)))))).R h4 [.slice none 0 0,.slice none 0 0,.slice none 0 0] ([],((Value.slice none 0 0),[])):=(yE wK (yE fC wK));have bv:=(Le.p (Le.s (Le.t (Le.q (l:=k+1) oM))) (Le.refl _)).R cz;refine yJ (A:=[]) I (uB sizeOf39 pH bv db) λdj cy=>(go1 ?_);refine zV (b9,dj,h4) ?_ e6z I I;refine⟨(ab.trans am),?_⟩;refine⟨cy,?_⟩
   trivial
  refine jH (λX=>zJ (ρ:=(tPt (k+1))) (m:=1) (xs:=[t]) (ps':=[(0,_)]) underlying35 yS I I I (xW (yM oM)) e2z (zD I (y4u (y4i _) zT 0 dC) (ed.le (Le.t (Le.q (l:=k+1) oM))) zP) zok nP) I ?_
  rintro ff gk ⟨ev,rfl,ar⟩
  refine iT 31 9 ?_;have cm:=RL.nil (ρ:=rpT (rpQ k)) (h:=ah);refine fL (A:=[]) (λX=>uE (zS (ρ:=(tPt k)) (bytes:=168) underlying35 yS I I I I nP I I cm rl.up bO bO)) I (xQ zoy) ?_
  rintro fg gm ⟨em,ew,rfl,H⟩
  refine w_c I (xT (A:=[_]) (ρ:=(tPt (k+1))) ar dK ?_);intro h3 ab ch;replace H:=H.mono ab;have bu:=(Le.t (Le.q (l:=k+1) oM)).rl H;refine fL (A:=[]) (λX=>uE (zS (ρ:=(tPt (k+1))) (bytes:=168) underlying35 yS I I I I nP I I bu ch bO bO)) I (xQ zoy) ?_
  rintro fe gj ⟨el,eu,rfl,aq⟩
  refine w_c I (xT (A:=[]) (ρ:=(tPt (k+1))) aq dK ?_);intro h4 am cg;refine sX (xV (ρ:=(rpP (tLs (k+1)) (rpP rpV (rpS (rpP rpI (rpP rpI (rpQ 1))))))) (wE (ps':=[(0,_)]) underlying39 qX I I (rK underlying39) e2z I (yE wK (yE fC wK)) (zD I (y4e (y4i _)) cg zP))) λfd db=>?_;refine w_a I I (λb9=>?_);have cz:(rpP (tLs 1) (rpP rpV (rpS (rpP rpI (rpP rpI (rpQ 1)))))).R h4 [.slice none 0 0,.slice none 0 0,.slice none 0 0] ([],((Value.slice none 0 0),[])):=(yE wK (yE fC wK));have bt:=(Le.p (Le.s (Le.t (Le.q (l:=k+1) oM))) (Le.refl _)).R cz;refine yJ (A:=[]) I (uB sizeOf39 pH bt db) λdi cw=>(go1 ?_);refine zV (b9,di,h4) ?_ e6z I I;refine⟨(ab.trans am),?_⟩;refine⟨cw,?_⟩
  trivial
 rintro⟨D,J,mc⟩ ⟨hu,bk⟩
 refine xD ?_;obtain⟨eb,bk⟩:=bk;refine uY ?_;refine xN 3 1 ?_;have cl:=RL.nil (ρ:=rpI) (h:=mc);refine xN 53 14 ?_;have ck:=RL.nil (ρ:=rpP (tPl (150*k+700) (200*k+901)) (rpP tII qF)) (h:=mc);refine gcL (ι:=Nat×List Int×List Fc×List Value×Value×List Value×Value×List Value×Mem) (λ(i,LN,FF,ak,U,aj,C,ai,ma)=>(MLe mc ma/\((rpP (tLs (k+1)) (rpP rpV (rpS (rpP rpI (rpP rpI (rpQ 1)))))).R ma ak ((l++[t]),(C,([]:List En)))/\RL rpI ma aj LN/\RL (tFc (150*k+700) (200*k+901)) ma ai FF/\C.oneCell'=true/\i<=l.length/\LN=pyL l.length i/\FF=pyT l t i),[(0,vl),(3,vP b3 0),(4,vP b4 0),(6,vI (↑(l).length:Int)),(7,vP b7 0),(9,vP D 0),(10,U),(11,vI ↑i)],[.gs 53 14 C FF.length ai,.gs 3 1 U LN.length aj,.var D 39 ak,.var b7 50 bc,.var b4 39 dk,.var b3 31 dl],ma,l.length-i)) (0,[],[],J,(.slice none 0 0),[],(.slice none 0 0),[],mc) ?_ ?_
 · exact⟨mle,eb,cl,ck,I,by omega,I,I⟩
 rintro⟨i,LN,FF,ak,U,aj,C,ai,ma⟩ ⟨hv,aa,ap,ao,go,jl,bg,bh⟩
 refine xD ?_;have jo:LN.length=i:=by rw[bg];exact yY _ _
 have jp:FF.length=i:=by rw[bh];exact yY _ _
 refine gc8 (λep=>?_) λep=>?_
 ·
  have jh:=zA1 (((i:Int):Int):Rat);have ji:=sR (i:Int) oM oM;have jj:=Int.emod_nonneg ((↑i:Int)+1) (b:=(↑l.length:Int)) oM;have hq:=Int.emod_lt_of_pos ((↑i:Int)+1) (b:=(↑l.length:Int)) oM;refine qK ?_;refine zH (zJ (ρ:=rpI) (m:=1) (xs:=[(((↑(l).length:Int)-(1:Int))-(↑i:Int))]) (ps':=[(0,_)]) underlying22 jY I I I wL e2z (zD I (y4u (y4i _) (0:Int) 0 dC) (xZ oM oM) zP) zoj nP) I I I ?_
  rintro ip jg ⟨ib,rfl,ea⟩
  refine zQ (A:=[]) (ρ:=rpI) ea ?_;intro h3 ab cf;refine xP (A:=[_]) (uE (zS (ρ:=rpI) (bytes:=8) underlying22 jY I I I I nP I I ap.up cf bO bO)) I I I ?_
  rintro fc jf ⟨hp,es,rfl,dz⟩
  refine go8 ?_;refine gv (wI I I oM oM) I (go4 ?_);refine zL 16 _ [(13,(13,50,[.bool false,.slice none 0 0,.slice none 0 0,.bool false,.slice none 0 0,.slice none 0 0,.bool false,.slice none 0 0,.slice none 0 0,.bool false,.slice none 0 0,.slice none 0 0]))] (zai 0 9 [(9,.c),(10,.q),(11,.q),(12,.q),(13,.a),(14,.c),(15,.q)]) yF (kL.cons I I (qQ rG I I) kL.nil) (wS zou) (qR I I gY) (λr hr=>hr) (go2 ?_);refine wX I (xI zT i underlying35 zN rl) λio fu=>(wX I (xA zN fu) λim ft=>(go2 ?_));refine wX I (xI zT ((i+1)%l.length) underlying35 zN rl (hi:=by exact zcu _ oM)) λil fs=>(wX I (xA zN fs) λik fr=>(wX I (xB zN pH da) λij fq=>?_));refine w_c I (sC (ev3 I I I) call93 (λw hs=>zBP hs ft fr fq oM) λii h4 am fp=>?_);obtain⟨bp,rfl,ax⟩:=fp
  change (tPl (50*k+200) (200*k+900)).Is h4 bp (thZ (l.getD i zT) (l.getD ((i+1)%l.length) zT) t) at ax
  refine go3 ?_;refine w_a I I (λjr=>?_);have ec:(tPl 1 1).R h4 [.bool false,.slice none 0 0,.slice none 0 0,.bool false,.slice none 0 0,.slice none 0 0,.bool false,.slice none 0 0,.slice none 0 0,.bool false,.slice none 0 0,.slice none 0 0] (zT,(0:Rat)):=(yE (xW (yM dC)) (yM dC));refine w_c I ?_;have bs:=(Le.p (Le.t (Le.q (l:=50*k+200) oM)) (Le.q (l:=200*k+900) oM)).R ec;refine lG (A:=[]) (uB sizeOf50 pH bs ax) (xQ zoy) λgu cv=>(go3 ?_);refine qS (A:=[_]) 15 [] (zai 0 6 [(8,.q),(0,.x [10] [6,7] [9,10]),(11,.c),(12,.c),(13,.c),(14,.q),(15,.t)]) yF nX zou nX (go1 ?_);refine wX I (sE (xB gS (y5i (y4e pH)) aa)) λih fo=>?_;subst fo;refine wX I (xB lE pH cv) λig fm=>(go4 ?_);refine yHY (N:=4) I ?_;refine zEP I I I I ?x2 ?x3
  case' x2=>
   refine jH (λX=>zJ (ρ:=rpI) (m:=3) (xs:=[(↑i:Int),(((↑i:Int)+(1:Int))%(↑(l).length:Int)),(↑(l).length:Int)]) (ps':=[(0,_),(1,_),(2,_)]) underlying22 jY I I I wL e6z (zD I (y4u (y4i _) (0:Int) 0 dC) (xZ oM oM) (zD I (y4u (y4i _) (0:Int) 1 dC) (xZ oM oM) (zD I (y4u (y4i _) (0:Int) 2 dC) (xZ oM oM) zP))) zop nP) I ?_
   rintro fb gi ⟨er,rfl,M⟩
   refine zEP I I I I ?x4 ?x5
   case' x4=>
    refine xT (A:=[]) (ρ:=rpI) M dK ?_;intro h5 bf ce;refine jH (λX=>zJ (ρ:=(rpS rpI)) (m:=1) (xs:=[[(↑i:Int),(((↑i:Int)+(1:Int))%(↑(l).length:Int)),(↑(l).length:Int)]]) (ps':=[(0,_)]) underlying51 jD I I I wK e2z (zD I (y4u (y4i _) [] 0 dC) ce zP) zoj nP) I ?_;intro dp eh az;obtain⟨bo,rfl,ac⟩:=az;refine zPQ I I (sC (ev1 I) call88 (λw hs=>vY hs oM oM) λdn h6 be aw=>?_);obtain⟨rfl,ba⟩:=kU aw;refine yM3 I (aH I (λ_ _=>vN (pa:=([115]:List Nat)) (pb:=(qU (((↑i:Int):Int):Rat))) I I zov) I (s7 ?_));replace ac:=ac.mono be
   case' x5=>
    refine sC (ev1 I) call88 (λw hs=>vY hs oM oM) λdn h5 bf aw=>?_;obtain⟨rfl,ba⟩:=kU aw;refine yGE I I (aH I (λ_ _=>vN (pa:=([115]:List Nat)) (pb:=(qU (((↑i:Int):Int):Rat))) I I zov) I (zAW I I ?_));replace M:=M.mono bf;refine xT (A:=[]) (ρ:=rpI) M dK ?_;intro h6 be cd;refine jH (λX=>zJ (ρ:=(rpS rpI)) (m:=1) (xs:=[[(↑i:Int),(((↑i:Int)+(1:Int))%(↑(l).length:Int)),(↑(l).length:Int)]]) (ps':=[(0,_)]) underlying51 jD I I I wK e2z (zD I (y4u (y4i _) [] 0 dC) cd zP) zoj nP) I ?_;intro dp eh az;obtain⟨bo,rfl,ac⟩:=az;refine s7 ?_
  case' x3=>
   refine sC (ev1 I) call88 (λw hs=>vY hs oM oM) λdn h5 bf aw=>?_;obtain⟨rfl,ba⟩:=kU aw;refine yGE I I (aH I (λ_ _=>vN (pa:=([115]:List Nat)) (pb:=(qU (((↑i:Int):Int):Rat))) I I zov) I (zAW I I (jH (λX=>zJ (ρ:=rpI) (m:=3) (xs:=[(↑i:Int),(((↑i:Int)+(1:Int))%(↑(l).length:Int)),(↑(l).length:Int)]) (ps':=[(0,_),(1,_),(2,_)]) underlying22 jY I I I wL e6z (zD I (y4u (y4i _) (0:Int) 0 dC) (xZ oM oM) (zD I (y4u (y4i _) (0:Int) 1 dC) (xZ oM oM) (zD I (y4u (y4i _) (0:Int) 2 dC) (xZ oM oM) zP))) zop nP) I ?_)))
   rintro fb gi ⟨er,rfl,M⟩
   refine zAW I I (xT (A:=[]) (ρ:=rpI) M dK ?_);intro h6 be cc;refine jH (λX=>zJ (ρ:=(rpS rpI)) (m:=1) (xs:=[[(↑i:Int),(((↑i:Int)+(1:Int))%(↑(l).length:Int)),(↑(l).length:Int)]]) (ps':=[(0,_)]) underlying51 jD I I I wK e2z (zD I (y4u (y4i _) [] 0 dC) cc zP) zoj nP) I ?_
   rintro dp eh ⟨bo,rfl,ac⟩
   refine s7 ?_
  all_goals
   refine w_c I (xT (A:=[]) (ρ:=(rpS rpI)) ac dK ?_);intro h7 eo cb;refine sX (xV (ρ:=(tFc (50*k+200) (200*k+900))) (wE (ps':=[(0,_),(1,_),(2,_)]) underlying53 jJ I I (bV underlying53) e6z I (yE (yE (xW (yM oM)) (yM oM)) (yE wK gP)) (zD I (y4e (y4i _)) fm.up (zD I (y5i (y4e (y4i _))) cb (zD I (y5i (y5i (y4i _))) (bG ((show ByB [115] by unfold ByB;decide).app ba)) zP))))) λie fl=>?_;refine w_c I (jH (λX=>zJ (ρ:=(tFc (50*k+200) (200*k+900))) (m:=1) (xs:=[(thZ (l.getD i zT) (l.getD ((i+1)%l.length) zT) t,([[(↑i:Int),(((↑i:Int)+(1:Int))%(↑(l).length:Int)),(↑(l).length:Int)]],(([115]:List Nat)++(qU (((↑i:Int):Int):Rat)))))]) (ps':=[(0,_)]) underlying36 jJ I I I (yE (yE (xW (yM oM)) (yM oM)) (yE wK gP)) e2z (zD I (y4u (y4i _) zA 0 dC) fl zP) zom nP) I ?_)
   rintro id je ⟨ia,rfl,dy⟩
   refine w_c I (xT (A:=[]) (ρ:=(tFc (50*k+200) (200*k+900))) dy dK ?_);intro h8 gq ca;refine fL (A:=[_]) (λX=>uE (zS (ρ:=(tFc (150*k+700) (200*k+901))) (bytes:=264) underlying36 jJ I I I I nP I I ao.up (ca.le (Le.s (Le.p (Le.p (Le.t (Le.q (l:=150*k+700) oM)) (Le.q (l:=200*k+901) oM)) (Le.refl _)))) bO bO)) I (xQ zoy) ?_
   rintro ez jd ⟨bj,eq,rfl,dx⟩
   refine go1 ?_;refine yJ (A:=[_,_,_]) I (uB sizeOf36 (y5i (y4e pH)) aa (eM bj)) λdh cu=>(go8 ?_);refine yW (A:=[]) ?_;refine gqL ((i+1),(LN++[(((↑(l).length:Int)-(1:Int))-(↑i:Int))]),(FF++[(thZ (l.getD i zT) (l.getD ((i+1)%l.length) zT) t,([[(↑i:Int),(((↑i:Int)+(1:Int))%(↑(l).length:Int)),(↑(l).length:Int)]],(([115]:List Nat)++(qU (((↑i:Int):Int):Rat)))))]),dh,fc,es,ez,eq,h8) ?_ ?_
   · exact⟨mle,cu,dz.up,dx,bj,by omega,by rw[bg];rfl,by rw[bh];rfl⟩
   omega
 have ei:i=l.length:=by omega
 rw[ei] at bg bh;refine go6 ?_;refine zHJ (A:=[_]) (ρ:=rpI) ap.up ?_;intro h3 ab an;refine qS (A:=[]) 10 [] [(0,.q),(1,.q),(2,.q),(4,.q),(0,.x [] [3] [5]),(6,.c),(7,.c),(8,.c),(9,.q),(10,.t)] yF nX zou nX (go1 ?_);refine wX I (sE (xB gS (y5i (y4e pH)) aa)) λhm eg=>?_;subst eg;refine wX I (xB lE pH av) λhl bi=>(go1 ?_);refine yHY (N:=2) I ?_;refine zEP I I I I ?x6 ?x7
 case' x6=>
  refine sC (ev1 I) call76 (λw hs=>eD hs bi oM oM) λdr h4 am O=>?_;replace O:=Rp.Is.le O (Le.p (Le.t (Le.q (l:=150*k+610) oM)) (Le.q (l:=200*k+901) oM));refine zPQ I I (jH (λX=>zJ (ρ:=(rpS rpI)) (m:=1) (xs:=[LN]) (ps':=[(0,_)]) underlying51 jD I I I wK e2z (zD I (y4u (y4i _) [] 0 dC) an.up zP) zoj nP) I ?_);intro dq ej dc;obtain⟨dm,rfl,au⟩:=dc;refine s7 ?_
 case' x7=>
  refine jH (λX=>zJ (ρ:=(rpS rpI)) (m:=1) (xs:=[LN]) (ps':=[(0,_)]) underlying51 jD I I I wK e2z (zD I (y4u (y4i _) [] 0 dC) an.up zP) zoj nP) I ?_
  rintro dq ej ⟨dm,rfl,au⟩
  refine zAW I I (sC (ev1 I) call76 (λw hs=>eD hs bi oM oM) λdr h4 am O=>?_);replace O:=Rp.Is.le O (Le.p (Le.t (Le.q (l:=150*k+610) oM)) (Le.q (l:=200*k+901) oM));refine s7 ?_
 all_goals
  refine w_c I (xT (A:=[]) (ρ:=(rpS rpI)) au.up dK ?_);intro h5 bf bz;refine sX (xV (ρ:=(tFc (150*k+610) (200*k+901))) (wE (ps':=[(0,_),(1,_),(2,_)]) underlying53 jJ I I (bV underlying53) e6z I (yE (yE (xW (yM oM)) (yM oM)) (yE wK gP)) (zD I (y4e (y4i _)) O.up (zD I (y5i (y4e (y4i _))) bz (zD I (y5i (y5i (y4i _))) (bG (show ByB [98,97,115,101] by unfold ByB;decide)) zP))))) λhj ef=>?_;refine w_c I (jH (λX=>zJ (ρ:=(tFc (150*k+610) (200*k+901))) (m:=1) (xs:=[(opP (thZ (l.getD 0 zT) (l.getD 1 zT) (l.getD 2 zT)),([LN],([98,97,115,101]:List Nat)))]) (ps':=[(0,_)]) underlying36 jJ I I I (yE (yE (xW (yM oM)) (yM oM)) (yE wK gP)) e2z (zD I (y4u (y4i _) zA 0 dC) ef zP) zom nP) I ?_)
  rintro he ho ⟨gx,rfl,co⟩
  refine w_c I (xT (A:=[]) (ρ:=(tFc (150*k+610) (200*k+901))) co dK ?_);intro h6 be bx;refine fL (A:=[]) (λX=>uE (zS (ρ:=(tFc (150*k+700) (200*k+901))) (bytes:=264) underlying36 jJ I I I I nP I I ao.up (bx.le (Le.s (Le.p (Le.p (Le.t (Le.q (l:=150*k+700) oM)) (Le.refl _)) (Le.refl _)))) bO bO)) I (xQ zoy) ?_
  rintro hb hn ⟨de,gw,rfl,cn⟩
  refine go1 ?_;refine yJ (A:=[_]) I (uB sizeOf36 (y5i (y4e pH)) aa (eM de)) λbb ae=>(go4 ?_);refine zQ (A:=[]) (ρ:=(tFc (150*k+700) (200*k+901))) cn ?_;intro h7 eo bw;replace ae:=ae.mono eo;have ct:(tSd (k+1) (150*k+700) (200*k+901) 1).R h7 bb (((l++[t]),(C,([]:List En))).1,((FF++[(opP (thZ (l.getD 0 zT) (l.getD 1 zT) (l.getD 2 zT)),([LN],([98,97,115,101]:List Nat)))]),(((l++[t]),(C,([]:List En))).2).2)):=zFJ ae bw;have cq:(tSd (k+1) (150*k+700) (200*k+901) 1).R h7 bb (pyR l t):=Rp.castR ct (by rw[bh,bg];rfl);refine lX (xB jV pH cq) λha ee=>?_;refine uX (vs:=[_]) I I I I call47 ⟨I,y3e⟩ (λw hs=>zAH hs ee oM oM oM (by first|omega|exact hcd1.2.2|exact hcd1.2.1.1)) ?_;intro gz h8 ic gq ad;obtain⟨ey,df,ad,rfl,dd,Z⟩:=ad
  change RL (tFc (4*(150*k+700)+12) ((150*k+700)+(200*k+901)+12)) h8 df (nrF (pyR l t)) at Z
  replace ad:=Rp.Is.le ad (Le.p (Le.s (Le.t (Le.q (l:=k+2) oM))) (Le.p (Le.refl _) (Le.s (Le.p (Le.refl _) (Le.p (Le.refl _) (Le.q (l:=2) oM))))));replace Z:=(Le.p (Le.p (Le.t (Le.q (l:=600*k+2812) oM)) (Le.q (l:=350*k+1613) oM)) (Le.refl _)).rl Z;have br:=(Le.p (Le.s (Le.t (Le.q (l:=k+2) oM))) (Le.p (Le.refl _) (Le.s (Le.p (Le.refl _) (Le.p (Le.refl _) (Le.q (l:=2) dC)))))).R fk;refine yD (A:=[_,_,_]) (uB sizeOf39 pH br ad) λgt cp=>(go4 ?_);refine vM (gG (t:=4) jV mh3 I cp) ?_;intro gy bd cj;refine kV (.cons_cons _ (zsu _)) (λE S=>jW I bd (tH I) E S) ?_;exact⟨_,_,_,I,(Rp.Is.cast (Rp.Is.le cj (Le.p (Le.refl _) (Le.p (Le.refl _) (Le.s (Le.p (Le.refl _) (Le.p (Le.refl _) (Le.q (l:=6) dC))))))) (by rw[show nrE (pyR l t)=[] from by unfold nrE;split<;>rfl])),I,dd,((Le.p (Le.p (Le.t (Le.q (l:=1000*k+5000) oM)) (Le.q (l:=1000*k+5000) oM)) (Le.refl _)).rl Z)⟩
set_option maxHeartbeats 1000000 in
theorem zLC{w0 w:World}{h0 h:Mem}{b k:Nat}{vl:Value}{xs:List Int}(hl:Is h vl xs)(hk:k<=xs.length){L:List Res}(hs:St w0 h0 (.var b 72 [vl,vI ↑k]::L) h w):
 Calls prog 19 #[vP b 0] w (cS w0 h0 h L (λg r q'=>∃k':Nat,∃m:Sq,q'=.var b 72 [vl,vI ↑k']/\k'<=xs.length/\yNC m/\(tSd 2 2 2 1).Is g r m)):=by
 have dc:=hl.lt63;refine qM (n:=57) (e:=[(0,vP b 0)]) (vs:=[vP b 0]) func19 rfl rfl (bL rfl) hs ⟨rfl,y3e⟩ (go2 ?_);refine nA (ρ:=(tSd 1 1 1 1)) (X:=([],([],[]))) qX (yE wK (yE wK wK)) λb2 fi cl=>(go5 ?_);refine yP (A:=[_]) (vs:=[_,vI (3)]) call13 e2z (λX w hs=>wN hl zox oM oM hs) I ?_;intro v9 g9 q9 cw cn;obtain⟨k9,H,rfl,ey,rfl,bk,bl⟩:=cn;refine go1 ?_;refine yP (A:=[_]) (vs:=[_,vI (3)]) call13 e2z (λX w hs=>wN hl.up zox oM oM hs) I ?_;intro ed fg en ci bz;obtain⟨ew,D,rfl,dl,rfl,ao,ay⟩:=bz;refine go1 ?_;refine yP (A:=[_]) (vs:=[_,vI (3)]) call13 e2z (λX w hs=>wN hl.up zox oM oM hs) I ?_;intro ec ff em ch bx;obtain⟨ev,C,rfl,dk,rfl,an,ax⟩:=bx;refine uQ ?_;refine cL (ev3 I I I) call12 (λw hs=>fG hs oM oM oM oM oM oM) λeb h1 cv bj=>?_;replace bj:=Rp.Is.cast (y:=(pI H D C)) bj zo3;refine go3 ?_;refine yP (A:=[_]) (vs:=[_,vI (3)]) call13 e2z (λX w hs=>wN hl.up zox oM oM hs) I ?_;intro ea fe el cg bw;obtain⟨eu,O,rfl,dj,rfl,am,aw⟩:=bw;refine go3 ?_;refine cL (ev3 I I I) call12 (λw hs=>fG hs oM oM oM oM oM oM) λdz h2 cu bi=>?_;replace bi:=Rp.Is.cast (y:=(pI (H+1+O) D C)) bi zo3;refine go2 ?_;refine yP (A:=[_]) (vs:=[_,vI (2)]) call13 e2z (λX w hs=>wN hl.up zox oM oM hs) I ?_;intro dy fd ek cf bv;obtain⟨es,M,rfl,di,rfl,ak,av⟩:=bv;refine go4 ?_;refine yP (A:=[_]) (vs:=[_,vI (3)]) call13 e2z (λX w hs=>wN hl.up zox oM oM hs) I ?_;intro dx fc ej ce bu;obtain⟨er,J,rfl,dh,rfl,aj,au⟩:=bu;refine go2 ?_;refine cL (ev3 I I I) call12 (λw hs=>fG hs oM oM oM oM oM oM) λdw h3 ct bh=>?_;replace bh:=Rp.Is.cast (y:=(pI (H+M) (D+1+J) C)) bh zo3;refine zH (zJ (ρ:=(tPt 2)) (m:=3) (xs:=[(pI H D C),(pI (H+1+O) D C),(pI (H+M) (D+1+J) C)]) (ps':=[(0,_),(1,_),(2,_)]) underlying35 yS I I I (xW (yM dC)) e6z (zD I (y4u (y4i _) zT 0 dC) bj.up (zD I (y4u (y4i _) zT 1 dC) bi.up (zD I (y4u (y4i _) zT 2 dC) bh zP))) zol nP) I I I ?_
 rintro dv ei ⟨dm,rfl,bp⟩
 refine go2 ?_;refine yP (A:=[_,_]) (vs:=[_,vI (3)]) call13 e2z (λX w hs=>wN hl.up zox oM oM hs) I ?_;intro du fb eh cd bt;obtain⟨eq,aa,rfl,df,rfl,ai,ar⟩:=bt;refine go3 ?_;refine yP (A:=[_,_]) (vs:=[_,vI (3)]) call13 e2z (λX w hs=>wN hl.up zox oM oM hs) I ?_;intro dt fa eg cc bs;obtain⟨ep,Z,rfl,de,rfl,ah,aq⟩:=bs;refine go4 ?_;refine yP (A:=[_,_]) (vs:=[_,vI (3)]) call13 e2z (λX w hs=>wN hl.up zox oM oM hs) I ?_;intro dr ez ef cb br;obtain⟨eo,U,rfl,dd,rfl,ae,ap⟩:=br;refine go1 ?_;refine cL (ev3 I I I) call12 (λw hs=>fG hs oM oM oM oM oM oM) λdq h4 cq bg=>?_;replace bg:=Rp.Is.cast (y:=(pI (H+aa) (D+Z) (C+1+U))) bg zo3;refine zQ (A:=[]) (ρ:=(tPt 2)) bp.up ?_;intro h5 cp bo;refine uX (vs:=[_,_]) I I I I call52 e2z (λw hs=>zN2 hs bo bg.up dC (by first|omega|exact(zP4 ⟨bk,bl⟩ ⟨ao,ay⟩ ⟨an,ax⟩ ⟨am,aw⟩ ⟨ak,av⟩ ⟨aj,au⟩ ⟨ai,ar⟩ ⟨ah,aq⟩ ⟨ae,ap⟩).1)) ?_;intro dp h6 fj co ad;obtain⟨ee,da,cj,rfl,ad,rfl,db,ab⟩:=ad
 change RL (tFc (1000*2+5000) (1000*2+5000)) h6 cj (nrF (pyR [(pI H D C),(pI (H+1+O) D C),(pI (H+M) (D+1+J) C)] (pI (H+aa) (D+Z) (C+1+U)))) at ab
 replace ad:=Rp.Is.le ad (Le.p (Le.s (Le.t (Le.q (l:=4) oM))) (Le.refl _));replace ab:=(Le.p (Le.p (Le.t (Le.q (l:=7000) oM)) (Le.q (l:=7000) oM)) (Le.refl _)).rl ab;refine go3 ?_;refine nA (ρ:=(rpP (tLs 1) (rpP rpV (rpS (rpP rpI (rpP rpI (rpQ 1))))))) (X:=([],((Value.slice none 0 0),[]))) qX (yE wK (yE fC wK)) λb6 fh ck=>?_;have bm:=(Le.p (Le.s (Le.t (Le.q (l:=4) dC))) (Le.p (Le.refl _) (Le.s (Le.p (Le.refl _) (Le.p (Le.refl _) (Le.q (l:=6) dC)))))).R ck;refine yD (A:=[]) (uB sizeOf39 pH bm ad) λaz ac=>(go5 ?_);refine zQ (A:=[_]) (ρ:=(tFc 7000 7000)) ab ?_;intro h7 ca bn;replace ac:=ac.mono ca;have bq:(tSd 4 7000 7000 6).R h7 az (nrP (pyR [(pI H D C),(pI (H+1+O) D C),(pI (H+M) (D+1+J) C)] (pI (H+aa) (D+Z) (C+1+U))),(nrF (pyR [(pI H D C),(pI (H+1+O) D C),(pI (H+M) (D+1+J) C)] (pI (H+aa) (D+Z) (C+1+U))),[])):=zFJ ac bn;have bf:(tSd 4 7000 7000 6).R h7 az (nrP (pyR [(pI H D C),(pI (H+1+O) D C),(pI (H+M) (D+1+J) C)] (pI (H+aa) (D+Z) (C+1+U))),nrF (pyR [(pI H D C),(pI (H+1+O) D C),(pI (H+M) (D+1+J) C)] (pI (H+aa) (D+Z) (C+1+U))),([]:List En)):=Rp.castR bq zo3;have be:(tSd 2 2 2 1).R h7 az (nrP (pyR [(pI H D C),(pI (H+1+O) D C),(pI (H+M) (D+1+J) C)] (pI (H+aa) (D+Z) (C+1+U))),nrF (pyR [(pI H D C),(pI (H+1+O) D C),(pI (H+M) (D+1+J) C)] (pI (H+aa) (D+Z) (C+1+U))),([]:List En)):=zBD bf (cE (zEX (zP4 ⟨bk,bl⟩ ⟨ao,ay⟩ ⟨an,ax⟩ ⟨am,aw⟩ ⟨ak,av⟩ ⟨aj,au⟩ ⟨ai,ar⟩ ⟨ah,aq⟩ ⟨ae,ap⟩).2)).2;refine lX (xB jV pH be) λdn cm=>?_;have bb:=(Le.p (Le.s (Le.t (Le.q (l:=2) dC))) (Le.p (Le.s (Le.p (Le.p (Le.t (Le.q (l:=2) dC)) (Le.q (l:=2) dC)) (Le.refl _))) (Le.refl _))).R cl;refine yD (A:=[_]) (uB sizeOf39 pH bb cm) λcy bd=>(go3 ?_);refine vM (gG (t:=2) jV mh1 I bd) ?_;intro cz ba bc;refine fI (λE S=>yB I ba E S) ?_;exact⟨_,(.cons _ (.cons _ (zme _))),(((((((((((((((cw.trans ci).trans ch).trans cv).trans cg).trans cu).trans cf).trans ce).trans ct).trans cd).trans cc).trans cb).trans cq).trans cp).trans co).trans ca),_,_,I,by omega,(zP4 ⟨bk,bl⟩ ⟨ao,ay⟩ ⟨an,ax⟩ ⟨am,aw⟩ ⟨ak,av⟩ ⟨aj,au⟩ ⟨ai,ar⟩ ⟨ah,aq⟩ ⟨ae,ap⟩).2,bc⟩
theorem gK{w0:World}{h0:Mem}(hs:MLe h0 (mem w0)){x:Int}(hx1:-9223372036854775808<=x)(hx2:x<9223372036854775808){y:Int}(hy1:-9223372036854775808<=y)(hy2:y<9223372036854775808){vl:Value}{l:(List Int)}(rl:(rpS rpI).Is h0 vl l)(hcd0:(-1000<=x/\x<=1000)/\-1000<=y/\y<=1000)(hcd1:∀q,q∈l-> -1000<=q/\q<=1000)(hcd2:l.length<=1000):
 Calls prog 140 #[vI x,vI y,vl] w0 (Ret w0 h0 (λh r=>(tLs 2).Is h r (aG x y l))):=by
 refine cb3 36 (vI x) (vI y) vl func140 hs ?_;refine mF ?_;refine xN 31 9 ?_;have U:=RL.nil (ρ:=rpT (rpQ 2)) (h:=h0);refine gcL (ι:=Nat×List Tq×Value×List Value×Mem) (λ(u,D,C,H,ma)=>(MLe h0 ma/\(RL (tPt 2) ma H D/\(2*u<=l.length+1/\D.length=u)/\D++aG x y (l.drop (2*u))=aG x y l),[(0,vI x),(1,vI y),(2,vl),(7,C),(8,vI (2*↑u))],[.gs 31 9 C D.length H],ma,l.length+2-2*u)) (0,[],(.slice none 0 0),[],h0) ?_ ?_
 · exact⟨mle,U,⟨by omega,I⟩,I⟩
 rintro⟨u,D,C,H,ma⟩ ⟨au,J,⟨bi,ap⟩,hD⟩
 refine xD ?_;refine zDP (λab=>?_) λab=>?_
 ·
  have bk:=hcd1 _ (kR (d:=0) (show 2*u<l.length by omega));have bj:=hcd1 _ (kR (d:=0) (show 2*u+1<l.length by omega));refine go4 ?_;refine qS (A:=[]) 20 [] (zai 0 7 (zai 8 7 [(7,.c),(15,.c),(16,.c),(17,.c),(18,.c),(19,.q)])) yF nX (wS zou) nX (go4 ?_);refine wX I (xI (0:Int) (2*u) underlying22 ty3 rl) λbf an=>(wX I (xA ty3 an) λbe am=>?_);obtain⟨rfl,aw,ar⟩:=jM am;refine go5 ?_;refine wX I (xI (0:Int) (2*u+1) underlying22 ty3 rl) λbc aj=>(wX I (xA ty3 aj) λbb ai=>?_);obtain⟨rfl,av,aq⟩:=jM ai;refine go1 ?_;refine w_c I (sC (ev1 I) call27 (λw hs=>gJ hs oM oM) λbd h1 ao ak=>?_);refine w_c I (sC (ev1 I) call27 (λw hs=>gJ hs oM oM) λba h2 bm ah=>?_);refine w_c I (sX (xV (ρ:=(tPt 2)) (wH (ps':=[(0,_),(1,_)]) underlying31 yS I I sizeOf29 e4z I (xW (yM dC)) (zD I (y5u (y4i _)) ak.up (zD I (y5e (y4i _)) ah zP)))) λaz ae=>?_);refine w_c I (jH (λX=>zJ (ρ:=(tPt 2)) (m:=1) (xs:=[(T3.mk (((x+(l.getD (2*u) (0:Int))):Int):Rat) (((y+(l.getD (2*u+1) (0:Int))):Int):Rat) (0:Rat))]) (ps':=[(0,_)]) underlying35 yS I I I (xW (yM dC)) e2z (zD I (y4u (y4i _) zT 0 dC) ae zP) zok nP) I ?_)
  rintro ay bh ⟨ax,rfl,aa⟩
  refine w_c I (xT (A:=[]) (ρ:=(tPt 2)) aa dK ?_);intro h3 bl O;refine fL (A:=[]) (λX=>zS (ρ:=(tPt 2)) (bytes:=168) underlying35 yS I I I I nP I I J.up O bO bO) I (xQ zoy) ?_
  rintro ad bg ⟨ac,rfl,Z⟩
  refine go9 ?_;refine gqL ((u+1),(D++[(T3.mk (((x+(l.getD (2*u) (0:Int))):Int):Rat) (((y+(l.getD (2*u+1) (0:Int))):Int):Rat) (0:Rat))]),ad,ac,h3) ?_ ?_ (he:=⟨I,I,I,I,zbi (λz=>some (vI z)) oM,y3e⟩)
  · exact⟨mle,Z,⟨by omega,by rw[lAz,ap];rfl⟩,yB9 hD oM⟩
  omega
 refine uY ?_;refine wT (A:=[]) (ρ:=(tPt 2)) J.up ?_;intro h1 ao M;refine zC I I ?_;exact(Rp.Is.cast M (by exact yF7 hD oM))
set_option maxHeartbeats 1000000 in
theorem zN7{w0 w:World}{h0 h:Mem}{b k:Nat}{vl:Value}{xs:List Int}(hl:Is h vl xs)(hk:k<=xs.length){L:List Res}(hs:St w0 h0 (.var b 72 [vl,vI ↑k]::L) h w):
 Calls prog 95 #[vP b 0] w (cS w0 h0 h L (λg r q'=>∃k':Nat,∃m:List (List Tq),q'=.var b 72 [vl,vI ↑k']/\k'<=xs.length/\baP m/\(tLL 2).Is g r m)):=by
 have co:=hl.lt63;refine qM (n:=60) (e:=[(0,vP b 0)]) (vs:=[vP b 0]) func95 rfl rfl (bL rfl) hs ⟨rfl,y3e⟩ (go8 ?_);refine yP (A:=[]) (vs:=[_,vI (2)]) call13 e2z (λX w hs=>wN hl zox oM oM hs) I ?_;intro v6 g6 q6 ak cl;obtain⟨k6,z6,rfl,fg,rfl,D,J⟩:=cl;refine go1 ?_;refine yP (A:=[]) (vs:=[_,vI (2)]) call13 e2z (λX w hs=>wN hl.up zox oM oM hs) I ?_;intro v8 g8 q8 aj ck;obtain⟨k8,z8,rfl,ff,rfl,C,H⟩:=ck;refine go8 ?_;refine yP (A:=[]) (vs:=[_,vI (6)]) call13 e2z (λX w hs=>wN hl.up zox oM oM hs) I ?_;intro ei fk fa ai bu;obtain⟨fe,dj,rfl,cu,rfl,cm,cn⟩:=bu;refine gc9 (λcc=>?_) λcc=>?_
 ·
  refine go4 ?_;refine zH (zJ (ρ:=rpI) (m:=12) (xs:=[(0:Int),(0:Int),(2:Int),(0:Int),(2:Int),(1:Int),(1:Int),(1:Int),(1:Int),(2:Int),(0:Int),(2:Int)]) (ps':=[(0,_),(1,_),(2,_),(3,_),(4,_),(5,_),(6,_),(7,_),(8,_),(9,_),(10,_),(11,_)]) underlying22 jY I I I wL ⟨I,I,I,I,I,I,I,I,I,I,I,I,I,I,I,I,I,I,I,I,I,I,I,I,y3e⟩ (zD I (y4u (y4i _) (0:Int) 0 dC) (xZ dC dC) (zD I (y4u (y4i _) (0:Int) 1 dC) (xZ dC dC) (zD I (y4u (y4i _) (0:Int) 2 dC) (xZ dC dC) (zD I (y4u (y4i _) (0:Int) 3 dC) (xZ dC dC) (zD I (y4u (y4i _) (0:Int) 4 dC) (xZ dC dC) (zD I (y4u (y4i _) (0:Int) 5 dC) (xZ dC dC) (zD I (y4u (y4i _) (0:Int) 6 dC) (xZ dC dC) (zD I (y4u (y4i _) (0:Int) 7 dC) (xZ dC dC) (zD I (y4u (y4i _) (0:Int) 8 dC) (xZ dC dC) (zD I (y4u (y4i _) (0:Int) 9 dC) (xZ dC dC) (zD I (y4u (y4i _) (0:Int) 10 dC) (xZ dC dC) (zD I (y4u (y4i _) (0:Int) 11 dC) (xZ dC dC) zP)))))))))))) (show 12*1<=16777216 from by decide) nP) I I I ?_
  rintro eh ez ⟨di,rfl,bq⟩
  refine zQ (A:=[]) (ρ:=rpI) bq ?_;intro h1 Z be;refine cL (ev3 I I I) call140 (λw hs=>gK hs oM oM oM oM be (by first|omega|exact zce rfl|(intro q M;simp only[zfu,zgu,or_false] at M;omega)) (by first|omega|exact zce rfl|(intro q M;simp only[zfu,zgu,or_false] at M;omega)) (by first|omega|exact zce rfl|(intro q M;simp only[zfu,zgu,or_false] at M;omega))) λeg h2 U cj=>(zH (zJ (ρ:=(tLs 2)) (m:=1) (xs:=[aG z6 z8 [(0:Int),(0:Int),(2:Int),(0:Int),(2:Int),(1:Int),(1:Int),(1:Int),(1:Int),(2:Int),(0:Int),(2:Int)]]) (ps':=[(0,_)]) underlying76 bH I I I wK e2z (zD I (y4u (y4i _) [] 0 dC) cj zP) zoj nP) I I I ?_)
  rintro ef ey ⟨dh,rfl,bp⟩
  refine go6 ?_;refine wT (A:=[]) (ρ:=(tLs 2)) bp ?_;intro h3 O bd;refine qP I I ?_;exact⟨_,(zme _),(((((ak.trans aj).trans ai).trans Z).trans U).trans O),_,_,I,by omega,(by first|exact yCV ⟨D,J⟩ ⟨C,H⟩|exact yCU ⟨D,J⟩ ⟨C,H⟩|exact yCT ⟨D,J⟩ ⟨C,H⟩|exact yCS ⟨D,J⟩ ⟨C,H⟩|exact yCR ⟨D,J⟩ ⟨C,H⟩ ⟨ac,ah⟩ ⟨ab,ae⟩ ⟨aa,ad⟩),bd⟩
 refine gc6 (λcb=>?_) λcb=>?_
 ·
  refine go4 ?_;refine zH (zJ (ρ:=rpI) (m:=8) (xs:=[(0:Int),(0:Int),(3:Int),(0:Int),(3:Int),(3:Int),(0:Int),(3:Int)]) (ps':=[(0,_),(1,_),(2,_),(3,_),(4,_),(5,_),(6,_),(7,_)]) underlying22 jY I I I wL ⟨I,I,I,I,I,I,I,I,I,I,I,I,I,I,I,I,y3e⟩ (zD I (y4u (y4i _) (0:Int) 0 dC) (xZ dC dC) (zD I (y4u (y4i _) (0:Int) 1 dC) (xZ dC dC) (zD I (y4u (y4i _) (0:Int) 2 dC) (xZ dC dC) (zD I (y4u (y4i _) (0:Int) 3 dC) (xZ dC dC) (zD I (y4u (y4i _) (0:Int) 4 dC) (xZ dC dC) (zD I (y4u (y4i _) (0:Int) 5 dC) (xZ dC dC) (zD I (y4u (y4i _) (0:Int) 6 dC) (xZ dC dC) (zD I (y4u (y4i _) (0:Int) 7 dC) (xZ dC dC) zP)))))))) zoq nP) I I I ?_
  rintro ee ew ⟨df,rfl,bo⟩
  refine zQ (A:=[]) (ρ:=rpI) bo ?_;intro h1 Z bc;refine cL (ev3 I I I) call140 (λw hs=>gK hs oM oM oM oM bc (by first|omega|exact zce rfl|(intro q M;simp only[zfu,zgu,or_false] at M;omega)) (by first|omega|exact zce rfl|(intro q M;simp only[zfu,zgu,or_false] at M;omega)) (by first|omega|exact zce rfl|(intro q M;simp only[zfu,zgu,or_false] at M;omega))) λed h2 U ci=>(go2 ?_);refine zH (zJ (ρ:=rpI) (m:=8) (xs:=[(1:Int),(1:Int),(1:Int),(2:Int),(2:Int),(2:Int),(2:Int),(1:Int)]) (ps':=[(0,_),(1,_),(2,_),(3,_),(4,_),(5,_),(6,_),(7,_)]) underlying22 jY I I I wL ⟨I,I,I,I,I,I,I,I,I,I,I,I,I,I,I,I,y3e⟩ (zD I (y4u (y4i _) (0:Int) 0 dC) (xZ dC dC) (zD I (y4u (y4i _) (0:Int) 1 dC) (xZ dC dC) (zD I (y4u (y4i _) (0:Int) 2 dC) (xZ dC dC) (zD I (y4u (y4i _) (0:Int) 3 dC) (xZ dC dC) (zD I (y4u (y4i _) (0:Int) 4 dC) (xZ dC dC) (zD I (y4u (y4i _) (0:Int) 5 dC) (xZ dC dC) (zD I (y4u (y4i _) (0:Int) 6 dC) (xZ dC dC) (zD I (y4u (y4i _) (0:Int) 7 dC) (xZ dC dC) zP)))))))) zoq nP) I I I ?_
  rintro ec ev ⟨de,rfl,bn⟩
  refine zQ (A:=[]) (ρ:=rpI) bn ?_;intro h3 O aw;refine cL (ev3 I I I) call140 (λw hs=>gK hs oM oM oM oM aw (by first|omega|exact zce rfl|(intro q M;simp only[zfu,zgu,or_false] at M;omega)) (by first|omega|exact zce rfl|(intro q M;simp only[zfu,zgu,or_false] at M;omega)) (by first|omega|exact zce rfl|(intro q M;simp only[zfu,zgu,or_false] at M;omega))) λeb h4 ay ch=>(zH (zJ (ρ:=(tLs 2)) (m:=2) (xs:=[aG z6 z8 [(0:Int),(0:Int),(3:Int),(0:Int),(3:Int),(3:Int),(0:Int),(3:Int)],aG z6 z8 [(1:Int),(1:Int),(1:Int),(2:Int),(2:Int),(2:Int),(2:Int),(1:Int)]]) (ps':=[(0,_),(1,_)]) underlying76 bH I I I wK e4z (zD I (y4u (y4i _) [] 0 dC) ci.up (zD I (y4u (y4i _) [] 1 dC) ch zP)) zor nP) I I I ?_)
  rintro ea eu ⟨dd,rfl,bm⟩
  refine go6 ?_;refine wT (A:=[]) (ρ:=(tLs 2)) bm ?_;intro h5 ax av;refine qP I I ?_;exact⟨_,(zme _),(((((((ak.trans aj).trans ai).trans Z).trans U).trans O).trans ay).trans ax),_,_,I,by omega,(by first|exact yCV ⟨D,J⟩ ⟨C,H⟩|exact yCU ⟨D,J⟩ ⟨C,H⟩|exact yCT ⟨D,J⟩ ⟨C,H⟩|exact yCS ⟨D,J⟩ ⟨C,H⟩|exact yCR ⟨D,J⟩ ⟨C,H⟩ ⟨ac,ah⟩ ⟨ab,ae⟩ ⟨aa,ad⟩),av⟩
 refine gc6 (λca=>?_) λca=>?_
 ·
  refine go4 ?_;refine zH (zJ (ρ:=rpI) (m:=8) (xs:=[(0:Int),(0:Int),(3:Int),(0:Int),(3:Int),(3:Int),(0:Int),(3:Int)]) (ps':=[(0,_),(1,_),(2,_),(3,_),(4,_),(5,_),(6,_),(7,_)]) underlying22 jY I I I wL ⟨I,I,I,I,I,I,I,I,I,I,I,I,I,I,I,I,y3e⟩ (zD I (y4u (y4i _) (0:Int) 0 dC) (xZ dC dC) (zD I (y4u (y4i _) (0:Int) 1 dC) (xZ dC dC) (zD I (y4u (y4i _) (0:Int) 2 dC) (xZ dC dC) (zD I (y4u (y4i _) (0:Int) 3 dC) (xZ dC dC) (zD I (y4u (y4i _) (0:Int) 4 dC) (xZ dC dC) (zD I (y4u (y4i _) (0:Int) 5 dC) (xZ dC dC) (zD I (y4u (y4i _) (0:Int) 6 dC) (xZ dC dC) (zD I (y4u (y4i _) (0:Int) 7 dC) (xZ dC dC) zP)))))))) zoq nP) I I I ?_
  rintro dz es ⟨dc,rfl,bl⟩
  refine zQ (A:=[]) (ρ:=rpI) bl ?_;intro h1 Z au;refine cL (ev3 I I I) call140 (λw hs=>gK hs oM oM oM oM au (by first|omega|exact zce rfl|(intro q M;simp only[zfu,zgu,or_false] at M;omega)) (by first|omega|exact zce rfl|(intro q M;simp only[zfu,zgu,or_false] at M;omega)) (by first|omega|exact zce rfl|(intro q M;simp only[zfu,zgu,or_false] at M;omega))) λdy h2 U cg=>(go2 ?_);refine zH (zJ (ρ:=rpI) (m:=6) (xs:=[(1:Int),(1:Int),(0:Int),(0:Int),(1:Int),(2:Int)]) (ps':=[(0,_),(1,_),(2,_),(3,_),(4,_),(5,_)]) underlying22 jY I I I wL e12 (zD I (y4u (y4i _) (0:Int) 0 dC) (xZ dC dC) (zD I (y4u (y4i _) (0:Int) 1 dC) (xZ dC dC) (zD I (y4u (y4i _) (0:Int) 2 dC) (xZ dC dC) (zD I (y4u (y4i _) (0:Int) 3 dC) (xZ dC dC) (zD I (y4u (y4i _) (0:Int) 4 dC) (xZ dC dC) (zD I (y4u (y4i _) (0:Int) 5 dC) (xZ dC dC) zP)))))) zos nP) I I I ?_
  rintro dx er ⟨db,rfl,bk⟩
  refine zQ (A:=[]) (ρ:=rpI) bk ?_;intro h3 O ar;refine cL (ev3 I I I) call140 (λw hs=>gK hs oM oM oM oM ar (by first|omega|exact zce rfl|(intro q M;simp only[zfu,zgu,or_false] at M;omega)) (by first|omega|exact zce rfl|(intro q M;simp only[zfu,zgu,or_false] at M;omega)) (by first|omega|exact zce rfl|(intro q M;simp only[zfu,zgu,or_false] at M;omega))) λdw h4 ay cf=>(zH (zJ (ρ:=(tLs 2)) (m:=2) (xs:=[aG z6 z8 [(0:Int),(0:Int),(3:Int),(0:Int),(3:Int),(3:Int),(0:Int),(3:Int)],aG z6 z8 [(1:Int),(1:Int),(0:Int),(0:Int),(1:Int),(2:Int)]]) (ps':=[(0,_),(1,_)]) underlying76 bH I I I wK e4z (zD I (y4u (y4i _) [] 0 dC) cg.up (zD I (y4u (y4i _) [] 1 dC) cf zP)) zor nP) I I I ?_)
  rintro dv eq ⟨da,rfl,bj⟩
  refine go6 ?_;refine wT (A:=[]) (ρ:=(tLs 2)) bj ?_;intro h5 ax aq;refine qP I I ?_;exact⟨_,(zme _),(((((((ak.trans aj).trans ai).trans Z).trans U).trans O).trans ay).trans ax),_,_,I,by omega,(by first|exact yCV ⟨D,J⟩ ⟨C,H⟩|exact yCU ⟨D,J⟩ ⟨C,H⟩|exact yCT ⟨D,J⟩ ⟨C,H⟩|exact yCS ⟨D,J⟩ ⟨C,H⟩|exact yCR ⟨D,J⟩ ⟨C,H⟩ ⟨ac,ah⟩ ⟨ab,ae⟩ ⟨aa,ad⟩),aq⟩
 refine gc6 (λbz=>?_) λbz=>?_
 ·
  refine go4 ?_;refine zH (zJ (ρ:=rpI) (m:=10) (xs:=[(0:Int),(0:Int),(1:Int),(0:Int),(2:Int),(0:Int),(2:Int),(2:Int),(0:Int),(1:Int)]) (ps':=[(0,_),(1,_),(2,_),(3,_),(4,_),(5,_),(6,_),(7,_),(8,_),(9,_)]) underlying22 jY I I I wL ⟨I,I,I,I,I,I,I,I,I,I,I,I,I,I,I,I,I,I,I,I,y3e⟩ (zD I (y4u (y4i _) (0:Int) 0 dC) (xZ dC dC) (zD I (y4u (y4i _) (0:Int) 1 dC) (xZ dC dC) (zD I (y4u (y4i _) (0:Int) 2 dC) (xZ dC dC) (zD I (y4u (y4i _) (0:Int) 3 dC) (xZ dC dC) (zD I (y4u (y4i _) (0:Int) 4 dC) (xZ dC dC) (zD I (y4u (y4i _) (0:Int) 5 dC) (xZ dC dC) (zD I (y4u (y4i _) (0:Int) 6 dC) (xZ dC dC) (zD I (y4u (y4i _) (0:Int) 7 dC) (xZ dC dC) (zD I (y4u (y4i _) (0:Int) 8 dC) (xZ dC dC) (zD I (y4u (y4i _) (0:Int) 9 dC) (xZ dC dC) zP)))))))))) (show 10*1<=16777216 from by decide) nP) I I I ?_
  rintro du ep ⟨cz,rfl,bi⟩
  refine zQ (A:=[]) (ρ:=rpI) bi ?_;intro h1 Z ap;refine cL (ev3 I I I) call140 (λw hs=>gK hs oM oM oM oM ap (by first|omega|exact zce rfl|(intro q M;simp only[zfu,zgu,or_false] at M;omega)) (by first|omega|exact zce rfl|(intro q M;simp only[zfu,zgu,or_false] at M;omega)) (by first|omega|exact zce rfl|(intro q M;simp only[zfu,zgu,or_false] at M;omega))) λdt h2 U ce=>(zH (zJ (ρ:=(tLs 2)) (m:=1) (xs:=[aG z6 z8 [(0:Int),(0:Int),(1:Int),(0:Int),(2:Int),(0:Int),(2:Int),(2:Int),(0:Int),(1:Int)]]) (ps':=[(0,_)]) underlying76 bH I I I wK e2z (zD I (y4u (y4i _) [] 0 dC) ce zP) zoj nP) I I I ?_)
  rintro dr eo ⟨cy,rfl,bh⟩
  refine go6 ?_;refine wT (A:=[]) (ρ:=(tLs 2)) bh ?_;intro h3 O ao;refine qP I I ?_;exact⟨_,(zme _),(((((ak.trans aj).trans ai).trans Z).trans U).trans O),_,_,I,by omega,(by first|exact yCV ⟨D,J⟩ ⟨C,H⟩|exact yCU ⟨D,J⟩ ⟨C,H⟩|exact yCT ⟨D,J⟩ ⟨C,H⟩|exact yCS ⟨D,J⟩ ⟨C,H⟩|exact yCR ⟨D,J⟩ ⟨C,H⟩ ⟨ac,ah⟩ ⟨ab,ae⟩ ⟨aa,ad⟩),ao⟩
 refine go8 ?_;refine yP (A:=[]) (vs:=[_,vI (3)]) call13 e2z (λX w hs=>wN hl.up zox oM oM hs) I ?_;intro dq fj en bx bt;obtain⟨fd,bb,rfl,ct,rfl,ac,ah⟩:=bt;refine gv (zU (p:=1) I I oM oM) I (go1 ?_);refine yP (A:=[]) (vs:=[_,vI (2)]) call13 e2z (λX w hs=>wN hl.up zox oM oM hs) I ?_;intro dp fi em bw bs;obtain⟨fc,ba,rfl,cq,rfl,ab,ae⟩:=bs;refine go1 ?_;refine yP (A:=[]) (vs:=[_,vI (2)]) call13 e2z (λX w hs=>wN hl.up zox oM oM hs) I ?_;intro dn fh el bv br;obtain⟨fb,az,rfl,cp,rfl,aa,ad⟩:=br;refine gv (zU (p:=1) I I oM oM) I (zH (zJ (ρ:=rpI) (m:=6) (xs:=[(0:Int),(0:Int),((1:Int)+bb),(0:Int),ba,((1:Int)+az)]) (ps':=[(0,_),(1,_),(2,_),(3,_),(4,_),(5,_)]) underlying22 jY I I I wL e12 (zD I (y4u (y4i _) (0:Int) 0 dC) (xZ dC dC) (zD I (y4u (y4i _) (0:Int) 1 dC) (xZ dC dC) (zD I (y4u (y4i _) (0:Int) 2 dC) (xZ oM oM) (zD I (y4u (y4i _) (0:Int) 3 dC) (xZ dC dC) (zD I (y4u (y4i _) (0:Int) 4 dC) (xZ oM oM) (zD I (y4u (y4i _) (0:Int) 5 dC) (xZ oM oM) zP)))))) zos nP) I I I ?_)
 rintro dm ek ⟨cw,rfl,bg⟩
 refine zQ (A:=[]) (ρ:=rpI) bg ?_;intro h1 Z an;refine cL (ev3 I I I) call140 (λw hs=>gK hs oM oM oM oM an (by first|omega|exact zce rfl|(intro q M;simp only[zfu,zgu,or_false] at M;omega)) (by first|omega|exact zce rfl|(intro q M;simp only[zfu,zgu,or_false] at M;omega)) (by first|omega|exact zce rfl|(intro q M;simp only[zfu,zgu,or_false] at M;omega))) λdl h2 U cd=>(zH (zJ (ρ:=(tLs 2)) (m:=1) (xs:=[aG z6 z8 [(0:Int),(0:Int),((1:Int)+bb),(0:Int),ba,((1:Int)+az)]]) (ps':=[(0,_)]) underlying76 bH I I I wK e2z (zD I (y4u (y4i _) [] 0 dC) cd zP) zoj nP) I I I ?_)
 rintro dk ej ⟨cv,rfl,bf⟩
 refine go4 ?_;refine wT (A:=[]) (ρ:=(tLs 2)) bf ?_;intro h3 O am;refine qP I I ?_;exact⟨_,(zme _),((((((((ak.trans aj).trans ai).trans bx).trans bw).trans bv).trans Z).trans U).trans O),_,_,I,by omega,(by first|exact yCV ⟨D,J⟩ ⟨C,H⟩|exact yCU ⟨D,J⟩ ⟨C,H⟩|exact yCT ⟨D,J⟩ ⟨C,H⟩|exact yCS ⟨D,J⟩ ⟨C,H⟩|exact yCR ⟨D,J⟩ ⟨C,H⟩ ⟨ac,ah⟩ ⟨ab,ae⟩ ⟨aa,ad⟩),am⟩
set_option maxHeartbeats 1000000 in
theorem zLE{w0 w:World}{h0 h:Mem}{b k:Nat}{vl:Value}{xs:List Int}(hl:Is h vl xs)(hk:k<=xs.length){L:List Res}(hs:St w0 h0 (.var b 72 [vl,vI ↑k]::L) h w):
 Calls prog 58 #[vP b 0] w (cS w0 h0 h L (λg r q'=>∃k':Nat,∃m:Sq,q'=.var b 72 [vl,vI ↑k']/\k'<=xs.length/\zA5 m/\(tSd 2 2 2 1).Is g r m)):=by
 have bm:=hl.lt63;refine qM (n:=23) (e:=[(0,vP b 0)]) (vs:=[vP b 0]) func58 rfl rfl (bL rfl) hs ⟨rfl,y3e⟩ (go2 ?_);refine nA (ρ:=(tSd 1 1 1 1)) (X:=([],([],[]))) qX (yE wK (yE wK wK)) λb2 cf az=>(go5 ?_);refine yP (A:=[_]) (vs:=[_,vI (2)]) call13 e2z (λX w hs=>wN hl zox oM oM hs) I ?_;intro v7 g7 q7 bh bd;obtain⟨k7,O,rfl,cb,rfl,Z,aa⟩:=bd;refine go6 ?_;refine yP (A:=[_]) (vs:=[_]) call95 ⟨I,y3e⟩ (λX w hs=>zN7 hl.up zox hs) I ?_;intro bu cd bx aw ad;obtain⟨ca,M,rfl,bo,H,ad⟩:=ad;refine go1 ?_;refine cL (ev1 I) call27 (λw hs=>gJ hs oM oM) λbt h1 bg bc=>(go3 ?_);refine yP (A:=[_]) (vs:=[_,vI (2)]) call13 e2z (λX w hs=>wN hl.up zox oM oM hs) I ?_;intro bs cc bw av ar;obtain⟨bz,J,rfl,bn,rfl,C,D⟩:=ar;refine go1 ?_;refine cL (ev1 I) call27 (λw hs=>gJ hs oM oM) λbr h2 bf bb=>?_;refine uX (vs:=[_,_,_]) I I I I call46 e3z (λw hs=>zJK hs ad.up bc.up bb dC dC dC (by first|omega|exact(zC2 H ⟨Z,aa⟩ ⟨C,D⟩).1.1|exactλ_=>(zC2 H ⟨Z,aa⟩ ⟨C,D⟩).1.2.2) (by first|omega|exact(zC2 H ⟨Z,aa⟩ ⟨C,D⟩).1.1|exactλ_=>(zC2 H ⟨Z,aa⟩ ⟨C,D⟩).1.2.2)) ?_;intro bq h3 cg be ac;obtain⟨bv,bk,ax,rfl,ac,rfl,bl,U⟩:=ac
 change RL (tFc (1000*2+1000*2+1000*2+2000) (1000*2+1000*2+1000*2+2000)) h3 ax (prF M ((O:Int):Rat) ((((O+(1:Int))+J):Int):Rat)) at U
 replace ac:=Rp.Is.le ac (Le.p (Le.s (Le.t (Le.q (l:=26) oM))) (Le.refl _));replace U:=(Le.p (Le.p (Le.t (Le.q (l:=8000) oM)) (Le.q (l:=8000) oM)) (Le.refl _)).rl U;refine go3 ?_;refine nA (ρ:=(rpP (tLs 1) (rpP rpV (rpS (rpP rpI (rpP rpI (rpQ 1))))))) (X:=([],((Value.slice none 0 0),[]))) qX (yE wK (yE fC wK)) λb4 ce ay=>?_;have an:=(Le.p (Le.s (Le.t (Le.q (l:=26) dC))) (Le.p (Le.refl _) (Le.s (Le.p (Le.refl _) (Le.p (Le.refl _) (Le.q (l:=5) dC)))))).R ay;refine yD (A:=[]) (uB sizeOf39 pH an ac) λae ab=>(go5 ?_);refine zQ (A:=[_]) (ρ:=(tFc 8000 8000)) U ?_;intro h4 au ao;replace ab:=ab.mono au;have aq:(tSd 26 8000 8000 5).R h4 ae (prP M ((O:Int):Rat) ((((O+(1:Int))+J):Int):Rat),(prF M ((O:Int):Rat) ((((O+(1:Int))+J):Int):Rat),[])):=zFJ ab ao;have ap:(tSd 26 8000 8000 5).R h4 ae (prP M ((O:Int):Rat) ((O+1+J:Int):Rat),prF M ((O:Int):Rat) ((O+1+J:Int):Rat),([]:List En)):=Rp.castR aq zo3;have am:(tSd 2 2 2 1).R h4 ae (prP M ((O:Int):Rat) ((O+1+J:Int):Rat),prF M ((O:Int):Rat) ((O+1+J:Int):Rat),([]:List En)):=zBD ap (cE (zC2 H ⟨Z,aa⟩ ⟨C,D⟩).2).2;refine lX (xB jV pH am) λbp ba=>?_;have ai:=(Le.p (Le.s (Le.t (Le.q (l:=2) dC))) (Le.p (Le.s (Le.p (Le.p (Le.t (Le.q (l:=2) dC)) (Le.q (l:=2) dC)) (Le.refl _))) (Le.refl _))).R az;refine yD (A:=[_]) (uB sizeOf39 pH ai ba) λbi ak=>(go3 ?_);refine vM (gG (t:=2) jV mh1 I ak) ?_;intro bj ah aj;refine fI (λE S=>yB I ah E S) ?_;exact⟨_,(.cons _ (.cons _ (zme _))),((((((bh.trans aw).trans bg).trans av).trans bf).trans be).trans au),_,_,I,by omega,(zC2 H ⟨Z,aa⟩ ⟨C,D⟩).2,aj⟩
set_option maxHeartbeats 1000000 in
theorem zLD{w0 w:World}{h0 h:Mem}{b k:Nat}{vl:Value}{xs:List Int}(hl:Is h vl xs)(hk:k<=xs.length){L:List Res}(hs:St w0 h0 (.var b 72 [vl,vI ↑k]::L) h w):
 Calls prog 24 #[vP b 0] w (cS w0 h0 h L (λg r q'=>∃k':Nat,∃m:Sq,q'=.var b 72 [vl,vI ↑k']/\k'<=xs.length/\zA5 m/\(tSd 2 2 2 1).Is g r m)):=by
 have az:=hl.lt63;refine qM (n:=15) (e:=[(0,vP b 0)]) (vs:=[vP b 0]) func24 rfl rfl (bL rfl) hs ⟨rfl,y3e⟩ (go2 ?_);refine nA (ρ:=(tSd 1 1 1 1)) (X:=([],([],[]))) qX (yE wK (yE wK wK)) λb2 bu ab=>(go6 ?_);refine yP (A:=[_]) (vs:=[_,vI (5)]) call13 e2z (λX w hs=>wN hl zox oM oM hs) I ?_;intro v4 g4 q4 ai ar;obtain⟨k4,z4,rfl,br,rfl,bo,bp⟩:=ar;refine gc9 (λaw=>?_) λaw=>?_
 ·
  refine go3 ?_;refine yP (A:=[_]) (vs:=[_]) call57 ⟨I,y3e⟩ (λX w hs=>zQ9 hl.up zox hs) I ?_;intro v8 g8 q8 au ah;obtain⟨k8,p8,rfl,bq,ac,ah⟩:=ah;have ak:=(Le.p (Le.s (Le.t (Le.q (l:=2) dC))) (Le.p (Le.s (Le.p (Le.p (Le.t (Le.q (l:=2) dC)) (Le.q (l:=2) dC)) (Le.refl _))) (Le.refl _))).R ab;refine yD (A:=[]) (uB sizeOf39 pH ak ah) λbd ao=>(go5 ?_);refine vM (gG (t:=2) jV mh0 I ao) ?_;intro bf ae am;refine fI (λE S=>yB I ae E S) ?_;exact⟨_,(.cons _ (zme _)),(ai.trans au),_,_,I,by omega,(by first|exact ac|exact D|exact zEX C),am⟩
 refine gc6 (λav=>?_) λav=>?_
 ·
  refine go3 ?_;refine yP (A:=[_]) (vs:=[_]) call58 ⟨I,y3e⟩ (λX w hs=>zLE hl.up zox hs) I ?_;intro bh bt bj aq J;obtain⟨bn,bl,rfl,bb,D,J⟩:=J;have aj:=(Le.p (Le.s (Le.t (Le.q (l:=2) dC))) (Le.p (Le.s (Le.p (Le.p (Le.t (Le.q (l:=2) dC)) (Le.q (l:=2) dC)) (Le.refl _))) (Le.refl _))).R ab;refine yD (A:=[]) (uB sizeOf39 pH aj J) λbc an=>(go5 ?_);refine vM (gG (t:=2) jV mh0 I an) ?_;intro be ad Z;refine fI (λE S=>yB I ad E S) ?_;exact⟨_,(.cons _ (zme _)),(ai.trans aq),_,_,I,by omega,(by first|exact ac|exact D|exact zEX C),Z⟩
 refine go6 ?_;refine yP (A:=[_]) (vs:=[_]) call19 ⟨I,y3e⟩ (λX w hs=>zLC hl.up zox hs) I ?_;intro bg bs bi ap H;obtain⟨bm,bk,rfl,ba,C,H⟩:=H;have O:=(Le.p (Le.s (Le.t (Le.q (l:=2) dC))) (Le.p (Le.s (Le.p (Le.p (Le.t (Le.q (l:=2) dC)) (Le.q (l:=2) dC)) (Le.refl _))) (Le.refl _))).R ab;refine yD (A:=[]) (uB sizeOf39 pH O H) λax aa=>(go3 ?_);refine vM (gG (t:=2) jV mh0 I aa) ?_;intro ay M U;refine fI (λE S=>yB I M E S) ?_;exact⟨_,(.cons _ (zme _)),(ai.trans ap),_,_,I,by omega,(by first|exact ac|exact D|exact zEX C),U⟩
theorem zHC{w0:World}{h0:Mem}(hs:MLe h0 (mem w0)):
 Calls prog 10 #[] w0 (Ret w0 h0 (λ_ r=>r=.bool true)):=by
 refine cb0 48 func10 hs ?_;refine go7 ?_;refine cL (vs:=[vI (0),vI (0),vI (0)]) e3z call12 (λw hs=>fG hs dC dC dC dC dC dC) λv9 h1 cc r9=>(cL (vs:=[vI (1),vI (1),vI (1)]) e3z call12 (λw hs=>fG hs dC dC dC dC dC dC) λbt h2 cb az=>?_);refine uX (vs:=[_,_]) I I I I call15 e2z (λw hs=>zJO hs r9.up az dC dC (by first|omega|exact fS.b.oks|exact fS.b.snd|exactλ_=>fS.b.h)) ?_;intro bs h3 cg ca M;obtain⟨bu,bc,ad,rfl,M,rfl,bd,D⟩:=M
 change RL (tFc (10000*2+10000*2+20000) (10000*2+10000*2+20000)) h3 ad (blF (T3.mk (((0:Int):Int):Rat) (((0:Int):Int):Rat) (((0:Int):Int):Rat)) (T3.mk (((1:Int):Int):Rat) (((1:Int):Int):Rat) (((1:Int):Int):Rat))) at D
 replace M:=Rp.Is.le M (Le.p (Le.s (Le.t (Le.q (l:=48) oM))) (Le.refl _));replace D:=(Le.p (Le.p (Le.t (Le.q (l:=60000) oM)) (Le.q (l:=60000) oM)) (Le.refl _)).rl D;refine go3 ?_;refine nA (ρ:=(rpP (tLs 1) (rpP rpV (rpS (rpP rpI (rpP rpI (rpQ 1))))))) (X:=([],((Value.slice none 0 0),[]))) qX (yE wK (yE fC wK)) λb1 cf ai=>?_;have ac:=(Le.p (Le.s (Le.t (Le.q (l:=48) dC))) (Le.p (Le.refl _) (Le.s (Le.p (Le.refl _) (Le.p (Le.refl _) (Le.q (l:=6) dC)))))).R ai;refine yD (A:=[]) (uB sizeOf39 pH ac M) λO J=>(go5 ?_);refine cL (vs:=[vI (1),vI (2)]) e2z call21 (λw hs=>kQ hs dC dC dC dC) λbr h4 bb ay=>(nA (ρ:=(rpQ 1)) (X:=(0:Rat)) wD (yM dC) λb3 ce ah=>?_);have ab:=(Le.q (l:=2) dC).R ah;refine yD (A:=[]) (uB sizeOf29 pH ab ay) λbf H=>(go4 ?_);refine zQ (A:=[_,_]) (ρ:=(tFc 60000 60000)) D.up ?_;intro h5 ba U;replace J:=J.mono (bb.trans ba);have aa:(tSd 48 60000 60000 6).R h5 O (blP (T3.mk (((0:Int):Int):Rat) (((0:Int):Int):Rat) (((0:Int):Int):Rat)) (T3.mk (((1:Int):Int):Rat) (((1:Int):Int):Rat) (((1:Int):Int):Rat)),(blF (T3.mk (((0:Int):Int):Rat) (((0:Int):Int):Rat) (((0:Int):Int):Rat)) (T3.mk (((1:Int):Int):Rat) (((1:Int):Int):Rat) (((1:Int):Int):Rat)),[])):=zFJ J U;have Z:(tSd 48 60000 60000 6).R h5 O (bkS (pI 0 0 0) (pI 1 1 1)):=Rp.castR aa zo3;have C:(tSd 2 2 4 0).R h5 O (bkS (pI 0 0 0) (pI 1 1 1)):=zBD Z fS.b.sm;refine lX (xB jV pH C) λbq ax=>(lX (xB yI pH H) λbp aw=>(lX (xB yI pH H) λbo av=>(lX (xB yI pH H) λbn au=>(lX (xV (ρ:=(tPt 2)) (wH (ps':=[(0,_),(1,_),(2,_)]) underlying31 yS I I sizeOf29 e6z I (xW (yM dC)) (zD I (y5u (y4i _)) aw (zD I (y5e (y4i _)) av (zD I (y6i (y4i _)) au zP))))) λbm ar=>(cL (ev2 I I) call32 (λw hs=>cJ hs ax ar (by first|omega|exact fS.b.oks|exact fS.b.snd|exactλ_=>fS.b.h) (by first|omega|exact fS.b.oks|exact fS.b.snd|exactλ_=>fS.b.h) dC dC dC dC) λbl h6 bz aq=>?_)))));obtain rfl:=aq;refine go8 ?_;refine zL 8 _ [] ((0,.q)::(1,.c)::(2,.c)::zai 3 5 []) yF nX zou nX (λr hr=>hr) (wX I (xB jV pH C) λbk ap=>?_);refine w_c I (sC (vs:=[vI (2),vI (0),vI (0)]) e3z call12 (λw hs=>fG hs dC dC dC dC dC dC) λbj h7 bx ao=>?_);refine w_c I (sC (ev2 I I) call32 (λw hs=>cJ hs ap.up ao (by first|omega|exact fS.b.oks|exact fS.b.snd|exactλ_=>fS.b.h) (by first|omega|exact fS.b.oks|exact fS.b.snd|exactλ_=>fS.b.h) dC dC dC dC) λbi h8 bw an=>?_);obtain rfl:=an;refine go8 ?_;refine zL 19 _ [] (zai 0 14 [(14,.c),(15,.c),(16,.q),(17,.q),(18,.q)]) yF nX (wS zou) nX (λr hr=>hr) (xY I (λ_ _=>OpV.tr (by exact fS.o1) (xG I)) I (go1 ?_));refine yV I I I (λh' L' hh hR=>xG I) I (yV I I I (λh' L' hh hR=>OpV.tr (by exact fS.w1) (bZ (q:=1) I I)) I (go2 ?_));refine yV I I I (λh' L' hh hR=>OpV.tr (by exact fS.o2) (xG I)) I (go2 ?_);refine yV I I I (λh' L' hh hR=>xG I) I (yV I I I (λh' L' hh hR=>OpV.tr (by exact fS.w2) (bZ (q:=0) I I)) I (go2 ?_));refine oX I (xB jV pH C) λbh am=>?_;refine w_c I (zCW I I (sC (vs:=[vI (1),vI (1),vI (1)]) e3z call12 (λw hs=>fG hs dC dC dC dC dC dC) λbg h9 bv ak=>?_));refine w_c I (zCW I I (sC (ev2 I I) call18 (λw hs=>yEW hs am.up ak (by first|omega|exact fS.b.oks|exact fS.b.snd|exactλ_=>fS.b.h) (by first|omega|exact fS.b.oks|exact fS.b.snd|exactλ_=>fS.b.h) dC dC dC dC) λae cd be aj=>?_));obtain rfl:ae=vI (inM (kG (bkS (pI 0 0 0) (pI 1 1 1))) (T3.mk (((1:Int):Int):Rat) (((1:Int):Int):Rat) (((1:Int):Int):Rat))):=aj;refine yV I I I (λh' L' hh hR=>OpV.tr (by exact fS.i3) (bZ (q:=0) I I)) I (go5 ?_);refine zC I I ?_
 rfl
end Go.Proofs.YtpkaegemlpaenaaGreat
namespace Bk
def ngI(u:I3):I3:=(-u.1,-u.2.1,-u.2.2)
def flF(f:FI):FI:=(ngI f.1,-f.2.1,rvL f.2.2.1 f.2.2.1.length,f.2.2.2)
def zWL(I:SI):SI:=(I.1,I.2.map flF)
theorem yNX(v:I3)(f:FI)(r:Rat):opP (scW r (cPl v f))=scW r (cPl v (flF f)):=by
 have e:∀n:Int,((-1:Int):Rat)*(r*(n:Rat))=r*((-n:Int):Rat):=λn=>by
  rw[z2i n,show(((-1:Int):Rat))= -(1:Rat) from I];grind
 refine Prod.ext ?_ ?_
 · exact T3.mk.injEq _ _ _ _ _ _▸⟨e _,e _,e _⟩
 · show -(r*((f.2.1+dt3 f.1 v:Int):Rat))=r*((-f.2.1+dt3 (ngI f.1) v:Int):Rat)
   have:-f.2.1+dt3 (ngI f.1) v= -(f.2.1+dt3 f.1 v):=by unfold dt3 ngI;simp only[yru];omega
   rw[this,z2i];grind
theorem zG1{v:I3}{I:SI}{s:Sd}(h:aL v I s):aL v (zWL I) (flS s):=by
 obtain⟨h1,h2,h3,D⟩:=h;refine⟨h1,h2,by show(s.2.1.map fcS).length=(I.2.map flF).length;rw[zde,zde,h3],λf hf=>?_⟩;have hf:f<I.2.length:=by have:f<(I.2.map flF).length:=hf;rwa [zde] at this
 have O:(zWL I).2.getD f fi0=flF (I.2.getD f fi0):=kX _ _ _ hf;have M:(flS s).2.1.getD f zA=fcS (s.2.1.getD f zA):=kX _ _ _ zot;rw[O,M];obtain⟨⟨a,C,J⟩,H⟩:=D f hf;refine⟨⟨a,C,?_⟩,?_⟩
 · show opP (s.2.1.getD f zA).1=_
   rw[J,yNX]
 · show(rvL (s.2.1.getD f zA).2.1 (s.2.1.getD f zA).2.1.length,(s.2.1.getD f zA).2.2)=_
   rw[H];rfl
def chF(I:SI):Bool:=chI (zWL I)
theorem yL1:bxC chF=true:=by decide +kernel
theorem yL2:baC chF=true:=by decide +kernel
theorem yLZ:trC chF=true:=by decide +kernel
def teP(c:SI->Bool)(p k:Nat):Bool:=(List.range 3).all λq=>(List.range 3).all λe=>(List.range 3).all λf=>(List.range 3).all λg=>c (nrI (teI p k q e f g))
theorem yL8:teP chF 0 0=true:=by decide +kernel
theorem yL7:teP chF 0 1=true:=by decide +kernel
theorem yL6:teP chF 1 0=true:=by decide +kernel
theorem yL5:teP chF 1 1=true:=by decide +kernel
theorem yL4:teP chF 2 0=true:=by decide +kernel
theorem yL3:teP chF 2 1=true:=by decide +kernel
theorem yL0:teC chF=true:=by
 refine zob.2 λp C=>zob.2 λk hk=>?_;have C:=zog.1 C;have hk:=zog.1 hk
 show teP chF p k=true
 match p,k,C,hk with
 |0,0,_,_=>exact yL8
 |0,1,_,_=>exact yL7
 |1,0,_,_=>exact yL6
 |1,1,_,_=>exact yL5
 |2,0,_,_=>exact yL4
 |2,1,_,_=>exact yL3
 |_+3,_,h,_=>exact absurd h zot
 |_,_+2,_,h=>exact absurd h zot
theorem zHO{I:SI}(h:zWM I):chI (zWL I)=true:=zL9 (c:=chF) yL1 yL2 yLZ yL0 h
theorem iQ{s:Sd}(h:zA5 s):(kC (flS s)/\okS (flS s))/\smS 2 2 2 1 (flS s):=by
 obtain⟨v,I,D,H,C⟩:=h;exact⟨zBV (zG1 C) (zHO D),zXY (zG1 C) (zHO D) H⟩
end Bk
namespace Go.Proofs.YtpkaegemlpaenaaGreat
open Bk Go Tryz
attribute [local irreducible] GL GC GQ W OpV
theorem zLF{w0 w:World}{h0 h:Mem}{b k:Nat}{vl:Value}{xs:List Int}(hl:Is h vl xs)(hk:k<=xs.length){L:List Res}(hs:St w0 h0 (.var b 72 [vl,vI ↑k]::L) h w):
 Calls prog 40 #[vP b 0] w (cS w0 h0 h L (λg r q'=>∃k':Nat,∃m:T3 Rat,q'=.var b 72 [vl,vI ↑k']/\k'<=xs.length/\(tPt 2).Is g r m)):=by
 have ad:=hl.lt63;refine qM (n:=10) (e:=[(0,vP b 0)]) (vs:=[vP b 0]) func40 rfl rfl (bL rfl) hs ⟨rfl,y3e⟩ (go2 ?_);refine nA (ρ:=(tPt 1)) (X:=zT) yS (xW (yM dC)) λb2 am Z=>(go5 ?_);refine yP (A:=[_]) (vs:=[_]) call77 ⟨I,y3e⟩ (λX w hs=>mE hl zox hs) I ?_;intro v4 g4 q4 ac J;obtain⟨k4,p4,rfl,ak,J⟩:=J;refine go1 ?_;refine yP (A:=[_]) (vs:=[_]) call77 ⟨I,y3e⟩ (λX w hs=>mE hl.up zox hs) I ?_;intro v6 g6 q6 ab H;obtain⟨k6,p6,rfl,aj,H⟩:=H;refine go1 ?_;refine yP (A:=[_]) (vs:=[_]) call77 ⟨I,y3e⟩ (λX w hs=>mE hl.up zox hs) I ?_;intro v8 g8 q8 aa D;obtain⟨k8,p8,rfl,ai,D⟩:=D;refine lX (xV (ρ:=(tPt 2)) (wH (ps':=[(0,_),(1,_),(2,_)]) underlying31 yS I I sizeOf29 e6z I (xW (yM dC)) (zD I (y5u (y4i _)) J.up (zD I (y5e (y4i _)) H.up (zD I (y6i (y4i _)) D zP))))) λv9 r9=>?_;have M:=(Le.t (Le.q (l:=2) dC)).R Z;refine yD (A:=[]) (uB sizeOf31 pH M r9) λae U=>(go3 ?_);refine vM (gG (t:=2) zN mh0 I U) ?_;intro ah C O;refine fI (λE S=>yB I C E S) ?_;exact⟨_,(.cons _ (zme _)),((ac.trans ab).trans aa),_,_,I,by omega,O⟩
theorem zLG{w0 w:World}{h0 h:Mem}{b k:Nat}{vl:Value}{xs:List Int}(hl:Is h vl xs)(hk:k<=xs.length){L:List Res}(hs:St w0 h0 (.var b 72 [vl,vI ↑k]::L) h w):
 Calls prog 43 #[vP b 0] w (cS w0 h0 h L (λg r q'=>∃k':Nat,∃m:T3 Rat,q'=.var b 72 [vl,vI ↑k']/\k'<=xs.length/\(tPt 2).Is g r m)):=by
 have ce:=hl.lt63;refine qM (n:=20) (e:=[(0,vP b 0)]) (vs:=[vP b 0]) func43 rfl rfl (bL rfl) hs ⟨rfl,y3e⟩ (go2 ?_);refine nA (ρ:=(tPt 2)) (X:=zT) yS (xW (yM dC)) λb2 cc bv=>(go4 ?_);refine nA (ρ:=(tPt 2)) (X:=zT) yS (xW (yM dC)) λb3 cb bu=>(go9 ?_);refine gcL (ι:=Nat×T3 Rat×List Value×Nat×Mem) (λ(i,m0,ao,ai,ma)=>(MLe h ma/\((tPt 2).R ma ao m0/\ai<=xs.length/\i<=3),[(0,vP b 0),(2,vP b2 0),(3,vP b3 0),(4,vI ↑i)],(.var b3 31 ao::.var b2 31 cc::.var b 72 [vl,vI ↑ai]::L),ma,3-i)) (0,(T3.mk 0 0 0),cb,k,h) ?_ ?_
 · exact⟨mle,bu,oM,oM⟩
 rintro⟨i,m0,ao,ai,ma⟩ ⟨bq,J,bx,hi⟩
 refine xD ?_;refine gc7 (λbz=>?_) λbz=>?_
 ·
  refine go4 ?_;refine qS (A:=[_,_]) 10 [] [(0,.q),(1,.q),(5,.q),(0,.m [2,3] [4,6,7]),(8,.c),(9,.q),(10,.t)] yF nX zou nX (go3 ?_);refine w_m (N:=5) I ?_;refine zKH I I ?_ ?_
  ·
   refine lH (A:=[_,_]) (vs:=[_,vI (60)]) call13 e2z (λX w hs=>wN hl.up zox oM oM hs) I (xQ zoy) ?_;intro ar ab be an ac;obtain⟨aa,Z,rfl,am,rfl,aj,ak⟩:=ac;refine zKH I I ?_ ?_
   ·
    refine bT (λX=>vJ (q:=5) I I oM oM) I (zIA I (jH (λX=>zJ (ρ:=rpI) (m:=3) (xs:=[(7:Int),(11:Int),(13:Int)]) (ps':=[(0,_),(1,_),(2,_)]) underlying110 zTN I I I wL e6z (zD I (y4u (y4i _) (0:Int) 0 dC) (xZ dC dC) (zD I (y4u (y4i _) (0:Int) 1 dC) (xZ dC dC) (zD I (y4u (y4i _) (0:Int) 2 dC) (xZ dC dC) zP))) zop nP) I ?_));intro M bo bp;obtain⟨aq,rfl,H⟩:=bp;refine zIA I (bT (λX=>(yK i mh0 underlying110 sizeOf2 I I I bO nP).cv (show _=zG 1 M ((i*1+0)) from zbi (zG 1 M) zo3)) I (zIA I (s_x (F:=λv_=>rpI.Is ab v_ ([(7:Int),(11:Int),(13:Int)].getD i (0:Int))) (xE ty2 (y4u (y4i _) (0:Int) i bO) I nP I H I) (gC mh0) I ?_)));intro ae D;obtain⟨rfl,U,O⟩:=jM D;refine zIB ?_;refine w_c I (sC (ev2 I I) call21 (λw hs=>kQ hs oM oM oM oM) λad h1 ah C=>(xY I (λ_ _=>(zX (sz:=3) i underlying31 sizeOf29 I I I oM).cv (show _=vP b3 ((i*3+0)) from zbi (vP b3) oM)) I (yJ (A:=[_]) I (uB sizeOf29 (Pc.ta pH i oM) J C) λbt bn=>(go8 ?_))));refine yW (A:=[]) ?_;refine gqL ((i+1),(m0.set i (jP (Z-(5:Int)) ([(7:Int),(11:Int),(13:Int)].getD i (0:Int)))),bt,aa,h1) ?_ ?_
    · exact⟨mle,bn,oM,oM⟩
    omega
   refine jH (λX=>zJ (ρ:=rpI) (m:=3) (xs:=[(7:Int),(11:Int),(13:Int)]) (ps':=[(0,_),(1,_),(2,_)]) underlying110 zTN I I I wL e6z (zD I (y4u (y4i _) (0:Int) 0 dC) (xZ dC dC) (zD I (y4u (y4i _) (0:Int) 1 dC) (xZ dC dC) (zD I (y4u (y4i _) (0:Int) 2 dC) (xZ dC dC) zP))) zop nP) I ?_
   rintro M bo ⟨aq,rfl,H⟩
   refine zKH I I ?_ ?_
   ·
    refine bT (λX=>vJ (q:=5) I I oM oM) I (zIA I (bT (λX=>(yK i mh0 underlying110 sizeOf2 I I I bO nP).cv (show _=zG 1 M ((i*1+0)) from zbi (zG 1 M) zo3)) I (zIA I (s_x (F:=λv_=>rpI.Is ab v_ ([(7:Int),(11:Int),(13:Int)].getD i (0:Int))) (xE ty2 (y4u (y4i _) (0:Int) i bO) I nP I H I) (gC mh0) I ?_))));intro ae D;obtain⟨rfl,U,O⟩:=jM D;refine zIB ?_;refine w_c I (sC (ev2 I I) call21 (λw hs=>kQ hs oM oM oM oM) λad h1 ah C=>(xY I (λ_ _=>(zX (sz:=3) i underlying31 sizeOf29 I I I oM).cv (show _=vP b3 ((i*3+0)) from zbi (vP b3) oM)) I (yJ (A:=[_]) I (uB sizeOf29 (Pc.ta pH i oM) J C) λbs bm=>(go8 ?_))));refine yW (A:=[]) ?_;refine gqL ((i+1),(m0.set i (jP (Z-(5:Int)) ([(7:Int),(11:Int),(13:Int)].getD i (0:Int)))),bs,aa,h1) ?_ ?_
    · exact⟨mle,bm,oM,oM⟩
    omega
   refine bT (λX=>(yK i mh0 underlying110 sizeOf2 I I I bO nP).cv (show _=zG 1 M ((i*1+0)) from zbi (zG 1 M) zo3)) I ?_;refine zKH I I ?_ ?_
   ·
    refine bT (λX=>vJ (q:=5) I I oM oM) I (zIA I (s_x (F:=λv_=>rpI.Is ab v_ ([(7:Int),(11:Int),(13:Int)].getD i (0:Int))) (xE ty2 (y4u (y4i _) (0:Int) i bO) I nP I H I) (gC mh0) I ?_));intro ae D;obtain⟨rfl,U,O⟩:=jM D;refine zIB ?_;refine w_c I (sC (ev2 I I) call21 (λw hs=>kQ hs oM oM oM oM) λad h1 ah C=>(xY I (λ_ _=>(zX (sz:=3) i underlying31 sizeOf29 I I I oM).cv (show _=vP b3 ((i*3+0)) from zbi (vP b3) oM)) I (yJ (A:=[_]) I (uB sizeOf29 (Pc.ta pH i oM) J C) λbr bd=>(go8 ?_))));refine yW (A:=[]) ?_;refine gqL ((i+1),(m0.set i (jP (Z-(5:Int)) ([(7:Int),(11:Int),(13:Int)].getD i (0:Int)))),br,aa,h1) ?_ ?_
    · exact⟨mle,bd,oM,oM⟩
    omega
   refine s_x (F:=λv_=>rpI.Is ab v_ ([(7:Int),(11:Int),(13:Int)].getD i (0:Int))) (xE ty2 (y4u (y4i _) (0:Int) i bO) I nP I H I) (gC mh0) I ?_;intro ae D;obtain⟨rfl,U,O⟩:=jM D;refine zW8 I (bT (λX=>vJ (q:=5) I I oM oM) I (zIB ?_));refine w_c I (sC (ev2 I I) call21 (λw hs=>kQ hs oM oM oM oM) λad h1 ah C=>(xY I (λ_ _=>(zX (sz:=3) i underlying31 sizeOf29 I I I oM).cv (show _=vP b3 ((i*3+0)) from zbi (vP b3) oM)) I (yJ (A:=[_]) I (uB sizeOf29 (Pc.ta pH i oM) J C) λbl bc=>(go8 ?_))));refine yW (A:=[]) ?_;refine gqL ((i+1),(m0.set i (jP (Z-(5:Int)) ([(7:Int),(11:Int),(13:Int)].getD i (0:Int)))),bl,aa,h1) ?_ ?_
   · exact⟨mle,bc,oM,oM⟩
   omega
  refine jH (λX=>zJ (ρ:=rpI) (m:=3) (xs:=[(7:Int),(11:Int),(13:Int)]) (ps':=[(0,_),(1,_),(2,_)]) underlying110 zTN I I I wL e6z (zD I (y4u (y4i _) (0:Int) 0 dC) (xZ dC dC) (zD I (y4u (y4i _) (0:Int) 1 dC) (xZ dC dC) (zD I (y4u (y4i _) (0:Int) 2 dC) (xZ dC dC) zP))) zop nP) I ?_
  rintro M bo ⟨aq,rfl,H⟩
  refine zKH I I ?_ ?_
  ·
   refine lH (A:=[_,_,_]) (vs:=[_,vI (60)]) call13 e2z (λX w hs=>wN hl.up zox oM oM hs) I (xQ zoy) ?_;intro ar ab be an ac;obtain⟨aa,Z,rfl,am,rfl,aj,ak⟩:=ac;refine zKH I I ?_ ?_
   ·
    refine bT (λX=>vJ (q:=5) I I oM oM) I (zIA I (bT (λX=>(yK i mh0 underlying110 sizeOf2 I I I bO nP).cv (show _=zG 1 M ((i*1+0)) from zbi (zG 1 M) zo3)) I (zIA I (s_x (F:=λv_=>rpI.Is ab v_ ([(7:Int),(11:Int),(13:Int)].getD i (0:Int))) (xE ty2 (y4u (y4i _) (0:Int) i bO) I nP I H.up I) (gC mh0) I ?_))));intro ae D;obtain⟨rfl,U,O⟩:=jM D;refine zIB ?_;refine w_c I (sC (ev2 I I) call21 (λw hs=>kQ hs oM oM oM oM) λad h1 ah C=>(xY I (λ_ _=>(zX (sz:=3) i underlying31 sizeOf29 I I I oM).cv (show _=vP b3 ((i*3+0)) from zbi (vP b3) oM)) I (yJ (A:=[_]) I (uB sizeOf29 (Pc.ta pH i oM) J C) λbk bb=>(go8 ?_))));refine yW (A:=[]) ?_;refine gqL ((i+1),(m0.set i (jP (Z-(5:Int)) ([(7:Int),(11:Int),(13:Int)].getD i (0:Int)))),bk,aa,h1) ?_ ?_
    · exact⟨mle,bb,oM,oM⟩
    omega
   refine bT (λX=>(yK i mh0 underlying110 sizeOf2 I I I bO nP).cv (show _=zG 1 M ((i*1+0)) from zbi (zG 1 M) zo3)) I ?_;refine zKH I I ?_ ?_
   ·
    refine bT (λX=>vJ (q:=5) I I oM oM) I (zIA I (s_x (F:=λv_=>rpI.Is ab v_ ([(7:Int),(11:Int),(13:Int)].getD i (0:Int))) (xE ty2 (y4u (y4i _) (0:Int) i bO) I nP I H.up I) (gC mh0) I ?_));intro ae D;obtain⟨rfl,U,O⟩:=jM D;refine zIB ?_;refine w_c I (sC (ev2 I I) call21 (λw hs=>kQ hs oM oM oM oM) λad h1 ah C=>(xY I (λ_ _=>(zX (sz:=3) i underlying31 sizeOf29 I I I oM).cv (show _=vP b3 ((i*3+0)) from zbi (vP b3) oM)) I (yJ (A:=[_]) I (uB sizeOf29 (Pc.ta pH i oM) J C) λbj ba=>(go8 ?_))));refine yW (A:=[]) ?_;refine gqL ((i+1),(m0.set i (jP (Z-(5:Int)) ([(7:Int),(11:Int),(13:Int)].getD i (0:Int)))),bj,aa,h1) ?_ ?_
    · exact⟨mle,ba,oM,oM⟩
    omega
   refine s_x (F:=λv_=>rpI.Is ab v_ ([(7:Int),(11:Int),(13:Int)].getD i (0:Int))) (xE ty2 (y4u (y4i _) (0:Int) i bO) I nP I H.up I) (gC mh0) I ?_;intro ae D;obtain⟨rfl,U,O⟩:=jM D;refine zW8 I (bT (λX=>vJ (q:=5) I I oM oM) I (zIB ?_));refine w_c I (sC (ev2 I I) call21 (λw hs=>kQ hs oM oM oM oM) λad h1 ah C=>(xY I (λ_ _=>(zX (sz:=3) i underlying31 sizeOf29 I I I oM).cv (show _=vP b3 ((i*3+0)) from zbi (vP b3) oM)) I (yJ (A:=[_]) I (uB sizeOf29 (Pc.ta pH i oM) J C) λbi az=>(go8 ?_))));refine yW (A:=[]) ?_;refine gqL ((i+1),(m0.set i (jP (Z-(5:Int)) ([(7:Int),(11:Int),(13:Int)].getD i (0:Int)))),bi,aa,h1) ?_ ?_
   · exact⟨mle,az,oM,oM⟩
   omega
  refine bT (λX=>(yK i mh0 underlying110 sizeOf2 I I I bO nP).cv (show _=zG 1 M ((i*1+0)) from zbi (zG 1 M) zo3)) I ?_;refine zKH I I ?_ ?_
  ·
   refine lH (A:=[_,_,_]) (vs:=[_,vI (60)]) call13 e2z (λX w hs=>wN hl.up zox oM oM hs) I (xQ zoy) ?_;intro ar ab be an ac;obtain⟨aa,Z,rfl,am,rfl,aj,ak⟩:=ac;refine zKH I I ?_ ?_
   ·
    refine bT (λX=>vJ (q:=5) I I oM oM) I (zIA I (s_x (F:=λv_=>rpI.Is ab v_ ([(7:Int),(11:Int),(13:Int)].getD i (0:Int))) (xE ty2 (y4u (y4i _) (0:Int) i bO) I nP I H.up I) (gC mh0) I ?_));intro ae D;obtain⟨rfl,U,O⟩:=jM D;refine zIB ?_;refine w_c I (sC (ev2 I I) call21 (λw hs=>kQ hs oM oM oM oM) λad h1 ah C=>(xY I (λ_ _=>(zX (sz:=3) i underlying31 sizeOf29 I I I oM).cv (show _=vP b3 ((i*3+0)) from zbi (vP b3) oM)) I (yJ (A:=[_]) I (uB sizeOf29 (Pc.ta pH i oM) J C) λbh ay=>(go8 ?_))));refine yW (A:=[]) ?_;refine gqL ((i+1),(m0.set i (jP (Z-(5:Int)) ([(7:Int),(11:Int),(13:Int)].getD i (0:Int)))),bh,aa,h1) ?_ ?_
    · exact⟨mle,ay,oM,oM⟩
    omega
   refine s_x (F:=λv_=>rpI.Is ab v_ ([(7:Int),(11:Int),(13:Int)].getD i (0:Int))) (xE ty2 (y4u (y4i _) (0:Int) i bO) I nP I H.up I) (gC mh0) I ?_;intro ae D;obtain⟨rfl,U,O⟩:=jM D;refine zW8 I (bT (λX=>vJ (q:=5) I I oM oM) I (zIB ?_));refine w_c I (sC (ev2 I I) call21 (λw hs=>kQ hs oM oM oM oM) λad h1 ah C=>(xY I (λ_ _=>(zX (sz:=3) i underlying31 sizeOf29 I I I oM).cv (show _=vP b3 ((i*3+0)) from zbi (vP b3) oM)) I (yJ (A:=[_]) I (uB sizeOf29 (Pc.ta pH i oM) J C) λbg ax=>(go8 ?_))));refine yW (A:=[]) ?_;refine gqL ((i+1),(m0.set i (jP (Z-(5:Int)) ([(7:Int),(11:Int),(13:Int)].getD i (0:Int)))),bg,aa,h1) ?_ ?_
   · exact⟨mle,ax,oM,oM⟩
   omega
  refine s_x (F:=λv_=>rpI.Is ma v_ ([(7:Int),(11:Int),(13:Int)].getD i (0:Int))) (xE ty2 (y4u (y4i _) (0:Int) i bO) I nP I H.up I) (gC mh0) I ?_;intro ae D;obtain⟨rfl,U,O⟩:=jM D;refine zW8 I ?_;refine lH (A:=[_,_,_]) (vs:=[_,vI (60)]) call13 e2z (λX w hs=>wN hl.up zox oM oM hs) I (xQ zoy) ?_;intro ar ab be an ac;obtain⟨aa,Z,rfl,am,rfl,aj,ak⟩:=ac;refine zW8 I (bT (λX=>vJ (q:=5) I I oM oM) I (zIB ?_));refine w_c I (sC (ev2 I I) call21 (λw hs=>kQ hs oM oM oM oM) λad h1 ah C=>(xY I (λ_ _=>(zX (sz:=3) i underlying31 sizeOf29 I I I oM).cv (show _=vP b3 ((i*3+0)) from zbi (vP b3) oM)) I (yJ (A:=[_]) I (uB sizeOf29 (Pc.ta pH i oM) J C) λbf aw=>(go8 ?_))));refine yW (A:=[]) ?_;refine gqL ((i+1),(m0.set i (jP (Z-(5:Int)) ([(7:Int),(11:Int),(13:Int)].getD i (0:Int)))),bf,aa,h1) ?_ ?_
  · exact⟨mle,aw,oM,oM⟩
  omega
 refine go7 ?_;refine lX (xB zN pH J) λcf bw=>(yD (A:=[_]) (uB sizeOf31 pH bv bw) λca av=>(go3 ?_));refine vM (gG (t:=2) zN mh1 I av) ?_;intro cd ap au;refine fI (λE S=>yB I ap E S) ?_;exact⟨_,(.cons _ (.cons _ (zme _))),bq,_,_,I,by omega,au⟩
end Go.Proofs.YtpkaegemlpaenaaGreat
namespace Bk
open Classical
def yH9(P:Rat->Prop):Prop:=∀x,(P x->0<=x)/\(¬P x->x<=0)
def kq(P:Rat->Prop)(a b m n:Rat):Int:=if(¬P a/\P b)/\(0<m/\n<0) then 1 else if(P a/\¬P b)/\(m<0/\0<n) then -1 else 0
def ndR(ai aj ak bi bj bk:Rat):Prop:=∀s:Rat,0<=s->s<=1->ai+s*(bi-ai)=0->aj+s*(bj-aj)=0->¬0<=ak+s*(bk-ak)
def zLZ(p:Prop):Int:=if p then 1 else 0
def zeS(a b:Rat):Rat:=a/(a-b)
theorem yHO{a b:Rat}(h:(a<=0/\0<=b)\/(b<=0/\0<=a))(hne:a≠b):0<=zeS a b/\zeS a b<=1/\a+zeS a b*(b-a)=0:=by
 have hd:a-b≠0:=λe=>hne zo0;have e:zeS a b*(a-b)=a:=by unfold zeS;grind
 generalize zeS a b=s at *;have C:a-b<0\/0<a-b:=by grind
 refine⟨?_,?_,by grind⟩
 · refine Rat.not_lt.1 λhs=>?_
   rcases C with t|t
   · have:=vC (show 0< -s by grind) (show 0< -(a-b) by grind)
     grind
   · have:=vC (show 0< -s by grind) t
     grind
 · refine Rat.not_lt.1 λhs=>?_
   rcases C with t|t
   · have:=vC (show 0<s-1 by grind) (show 0< -(a-b) by grind)
     grind
   · have:=vC (show 0<s-1 by grind) t
     grind
theorem uN{d y:Rat}(hd:0<d):0<d*y↔0<y:=by
 constructor
 · intro h
   refine Rat.not_le.1 λe=>?_;have:=yji e (zee hd);grind
 · exact vC hd
def atS(a b s:Rat):Rat:=a+s*(b-a)
theorem yOU{a b s:Rat}(h0:0<=s)(h1:s<=1)(ha:0<=a)(hb:0<=b):0<=atS a b s:=by
 have D:=zod h0 hb;have C:=zod (show 0<=1-s by grind) ha;unfold atS;grind
theorem yML{a b s:Rat}(h0:0<=s)(h1:s<=1)(ha:a<=0)(hb:b<=0):atS a b s<=0:=by
 have D:=zod h0 (show 0<= -b by grind);have C:=zod (show 0<=1-s by grind) (show 0<= -a by grind);unfold atS;grind
theorem yOT{a b s:Rat}(hab:a<b):(0<atS a b s↔zeS a b<s)/\(atS a b s=0↔zeS a b=s):=by
 have e:zeS a b*(a-b)=a:=by unfold zeS;have:a-b≠0:=λe=>zo0;grind
 have C:atS a b s=(b-a)*(s-zeS a b):=by unfold atS;grind
 rw[C,uN (show 0<b-a by grind)];refine⟨by constructor<;>intro h<;>grind,λh=>?_,λh=>by rw[h];grind⟩
 rcases zoe.1 h with h|h<;>grind
theorem yOV{a b s:Rat}(hab:b<a):(0<atS a b s↔s<zeS a b)/\(atS a b s=0↔zeS a b=s):=by
 have e:zeS a b*(a-b)=a:=by unfold zeS;have:a-b≠0:=λe=>zo0;grind
 have C:atS a b s=(a-b)*(zeS a b-s):=by unfold atS;grind
 rw[C,uN (show 0<a-b by grind)];refine⟨by constructor<;>intro h<;>grind,λh=>?_,λh=>by rw[h];grind⟩
 rcases zoe.1 h with h|h<;>grind
section
variable {P:Rat->Prop}(hP:yH9 P)
include hP
theorem yAR{a1 a2 a3 b1 b2 b3:Rat}(h:¬P a3/\P b3):a3<b3/\kq P a3 b3 (a2*b3-a3*b2) (a3*b1-a1*b3)=zLZ (0<atS a1 b1 (zeS a3 b3)/\0<atS a2 b2 (zeS a3 b3)):=by
 have h1:=(hP a3).2 h.1;have h2:=(hP b3).1 h.2;have J:a3≠b3:=λe=>h.1 (e▸h.2);have C:a3<b3:=by grind
 refine⟨C,?_⟩;have hz:zeS a3 b3*(a3-b3)=a3:=by unfold zeS;have:a3-b3≠0:=λe=>zo0;grind
 have O:a2*b3-a3*b2=(b3-a3)*atS a2 b2 (zeS a3 b3):=by unfold atS;grind
 have M:-(a3*b1-a1*b3)=(b3-a3)*atS a1 b1 (zeS a3 b3):=by unfold atS;grind
 have H:0<a2*b3-a3*b2↔0<atS a2 b2 (zeS a3 b3):=by rw[O,uN (show 0<b3-a3 by grind)]
 have D:a3*b1-a1*b3<0↔0<atS a1 b1 (zeS a3 b3):=by rw[<-uN (show 0<b3-a3 by grind),<-M];constructor<;>intro h<;>grind
 unfold kq zLZ
 by_cases c:0<atS a1 b1 (zeS a3 b3)/\0<atS a2 b2 (zeS a3 b3)
 · rw[zau c,zau ⟨h,H.2 c.2,D.2 c.1⟩]
 · rw[zae c,zae (λe=>c ⟨D.1 e.2.2,H.1 e.2.1⟩),zae λe=>h.1 e.1.1]
theorem yAT{a1 a2 a3 b1 b2 b3:Rat}(h:P a3/\¬P b3):b3<a3/\kq P a3 b3 (a2*b3-a3*b2) (a3*b1-a1*b3)= -zLZ (0<atS a1 b1 (zeS a3 b3)/\0<atS a2 b2 (zeS a3 b3)):=by
 have h1:=(hP b3).2 h.2;have h2:=(hP a3).1 h.1;have J:a3≠b3:=λe=>h.2 (e▸h.1);have C:b3<a3:=by grind
 refine⟨C,?_⟩;have hz:zeS a3 b3*(a3-b3)=a3:=by unfold zeS;have:a3-b3≠0:=λe=>zo0;grind
 have O:-(a2*b3-a3*b2)=(a3-b3)*atS a2 b2 (zeS a3 b3):=by unfold atS;grind
 have M:a3*b1-a1*b3=(a3-b3)*atS a1 b1 (zeS a3 b3):=by unfold atS;grind
 have H:a2*b3-a3*b2<0↔0<atS a2 b2 (zeS a3 b3):=by rw[<-uN (show 0<a3-b3 by grind),<-O];constructor<;>intro h<;>grind
 have D:0<a3*b1-a1*b3↔0<atS a1 b1 (zeS a3 b3):=by rw[M,uN (show 0<a3-b3 by grind)]
 unfold kq zLZ;rw[zae λe=>e.1.1 h.1]
 by_cases c:0<atS a1 b1 (zeS a3 b3)/\0<atS a2 b2 (zeS a3 b3)
 · rw[zau c,zau ⟨h,H.2 c.2,D.2 c.1⟩]
 · rw[zae c,zae λe=>c ⟨D.1 e.2.2,H.1 e.2.1⟩];rfl
omit hP in
theorem zTG{a b m n:Rat}(h:P a↔P b):kq P a b m n=0:=by
 unfold kq;rw[zae (λe=>e.1.1 (h.2 e.1.2)),zae λe=>e.1.2 (h.1 e.1.1)]
theorem zD3{a b s:Rat}(h0:0<=s)(h1:s<=1):(¬P a/\P b->(0<atS a b s↔zeS a b<s)/\(atS a b s=0↔zeS a b=s))/\(P a/\¬P b->(0<atS a b s↔s<zeS a b)/\(atS a b s=0↔zeS a b=s))/\(P a/\P b->0<=atS a b s)/\(¬P a/\¬P b->atS a b s<=0):=by
 have D:=hP a;have C:=hP b;refine⟨λh=>yOT ?_,λh=>yOV ?_,λh=>yOU h0 h1 (D.1 h.1) (C.1 h.2),λh=>yML h0 h1 (D.2 h.1) (C.2 h.2)⟩
 · have H:a≠b:=λe=>h.1 (e▸h.2)
   have:=D.2 h.1;have:=C.1 h.2;grind
 · have H:a≠b:=λe=>h.2 (e▸h.1)
   have:=D.1 h.1;have:=C.2 h.2;grind
theorem zPP{a b:Rat}(h:(¬P a/\P b)\/(P a/\¬P b)):0<=zeS a b/\zeS a b<=1/\atS a b (zeS a b)=0:=by
 have H:=hP a;have D:=hP b;have C:a≠b:=λe=>by rcases h with h|h<;>rw[e] at h<;>grind
 refine yHO ?_ C
 rcases h with h|h
 · exact .inl ⟨H.2 h.1,D.1 h.2⟩
 · exact .inr ⟨D.2 h.2,H.1 h.1⟩
theorem yAS{a1 a2 a3 b1 b2 b3:Rat}(n1:ndR a2 a3 a1 b2 b3 b1)(n2:ndR a3 a1 a2 b3 b1 b2)(n3:ndR a1 a2 a3 b1 b2 b3):
 kq P a3 b3 (a2*b3-a3*b2) (a3*b1-a1*b3)+kq P a1 b1 (a3*b1-a1*b3) (a1*b2-a2*b1)+kq P a2 b2 (a1*b2-a2*b1) (a2*b3-a3*b2)=zLZ (P b1/\P b2/\P b3)-zLZ (P a1/\P a2/\P a3):=by
 have u1:=yAR hP (a1:=a2) (a2:=a3) (a3:=a1) (b1:=b2) (b2:=b3) (b3:=b1);have u2:=yAR hP (a1:=a3) (a2:=a1) (a3:=a2) (b1:=b3) (b2:=b1) (b3:=b2);have u3:=yAR hP (a1:=a1) (a2:=a2) (a3:=a3) (b1:=b1) (b2:=b2) (b3:=b3);have d1:=yAT hP (a1:=a2) (a2:=a3) (a3:=a1) (b1:=b2) (b2:=b3) (b3:=b1);have d2:=yAT hP (a1:=a3) (a2:=a1) (a3:=a2) (b1:=b3) (b2:=b1) (b3:=b2);have d3:=yAT hP (a1:=a1) (a2:=a2) (a3:=a3) (b1:=b1) (b2:=b2) (b3:=b3);have o1:=zTG (P:=P) (a:=a1) (b:=b1) (m:=a3*b1-a1*b3) (n:=a1*b2-a2*b1);have o2:=zTG (P:=P) (a:=a2) (b:=b2) (m:=a1*b2-a2*b1) (n:=a2*b3-a3*b2);have o3:=zTG (P:=P) (a:=a3) (b:=b3) (m:=a2*b3-a3*b2) (n:=a3*b1-a1*b3);have z1:=zPP hP (a:=a1) (b:=b1);have z2:=zPP hP (a:=a2) (b:=b2);have z3:=zPP hP (a:=a3) (b:=b3);have O:=λh0 h1=>zD3 hP (a:=a2) (b:=b2) (s:=zeS a1 b1) h0 h1;have M:=λh0 h1=>zD3 hP (a:=a3) (b:=b3) (s:=zeS a1 b1) h0 h1;have J:=λh0 h1=>zD3 hP (a:=a1) (b:=b1) (s:=zeS a2 b2) h0 h1;have H:=λh0 h1=>zD3 hP (a:=a3) (b:=b3) (s:=zeS a2 b2) h0 h1;have D:=λh0 h1=>zD3 hP (a:=a1) (b:=b1) (s:=zeS a3 b3) h0 h1;have C:=λh0 h1=>zD3 hP (a:=a2) (b:=b2) (s:=zeS a3 b3) h0 h1;have aa:(0<=zeS a1 b1/\zeS a1 b1<=1/\atS a1 b1 (zeS a1 b1)=0)->(atS a2 b2 (zeS a1 b1)=0->¬0<=atS a3 b3 (zeS a1 b1))/\(atS a3 b3 (zeS a1 b1)=0->¬0<=atS a2 b2 (zeS a1 b1)):=λh=>⟨λe=>n3 _ h.1 h.2.1 h.2.2 e,λe=>n2 _ h.1 h.2.1 e h.2.2⟩;have Z:(0<=zeS a2 b2/\zeS a2 b2<=1/\atS a2 b2 (zeS a2 b2)=0)->(atS a3 b3 (zeS a2 b2)=0->¬0<=atS a1 b1 (zeS a2 b2))/\(atS a1 b1 (zeS a2 b2)=0->¬0<=atS a3 b3 (zeS a2 b2)):=λh=>⟨λe=>n1 _ h.1 h.2.1 h.2.2 e,λe=>n3 _ h.1 h.2.1 e h.2.2⟩;have U:(0<=zeS a3 b3/\zeS a3 b3<=1/\atS a3 b3 (zeS a3 b3)=0)->(atS a1 b1 (zeS a3 b3)=0->¬0<=atS a2 b2 (zeS a3 b3))/\(atS a2 b2 (zeS a3 b3)=0->¬0<=atS a1 b1 (zeS a3 b3)):=λh=>⟨λe=>n2 _ h.1 h.2.1 h.2.2 e,λe=>n1 _ h.1 h.2.1 e h.2.2⟩;generalize kq P a1 b1 (a3*b1-a1*b3) (a1*b2-a2*b1)=K1 at *;generalize kq P a2 b2 (a1*b2-a2*b1) (a2*b3-a3*b2)=K2 at *;generalize kq P a3 b3 (a2*b3-a3*b2) (a3*b1-a1*b3)=K3 at *;generalize zeS a1 b1=t1 at *;generalize zeS a2 b2=t2 at *;generalize zeS a3 b3=t3 at *;generalize atS a2 b2 t1=y12 at *;generalize atS a3 b3 t1=y13 at *;generalize atS a1 b1 t2=y21 at *;generalize atS a3 b3 t2=y23 at *;generalize atS a1 b1 t3=y31 at *;generalize atS a2 b2 t3=y32 at *
 clear n1 n2 n3
 generalize P a1=A1 at *;generalize P a2=A2 at *;generalize P a3=A3 at *;generalize P b1=B1 at *;generalize P b2=B2 at *;generalize P b3=B3 at *;unfold zLZ at *
 by_cases cA1:A1<;>by_cases cB1:B1<;>by_cases cA2:A2<;>by_cases cB2:B2<;>by_cases cA3:A3<;>by_cases cB3:B3<;>
  simp only[cA1,cB1,cA2,cB2,cA3,cB3,not_true_eq_false,not_false_eq_true,true_and,and_true,false_and,and_false,and_self,false_or,or_false,forall_const,true_implies,false_implies,implies_true,if_true,if_false,iff_true,iff_false] at *<;>grind
end
def kp(d e A B:Pt):Int:=kq (λx=>0<x) (yH A d e) (yH B d e) (yH A B d) (yH A B e)
def mtR(A B d:Pt):Prop:=∃s l:Rat,0<=s/\s<=1/\0<=l/\uC A (scT s (yZ B A))=scT l d
theorem yM9:yH9 λx=>0<x:=λx=>⟨λh=>zee h,λh=>Rat.not_lt.1 h⟩
theorem yNA:yH9 λx=>0<=x:=λx=>⟨λh=>h,λh=>by grind⟩
theorem yKR{P:Rat->Prop}{a b m n m' n':Rat}(h1:0<m↔0<m')(h2:n<0↔n'<0)(h3:m<0↔m'<0)(h4:0<n↔0<n'):kq P a b m n=kq P a b m' n':=by
 unfold kq
 by_cases c1:(¬P a/\P b)/\(0<m/\n<0)
 · rw[zau c1,zau ⟨c1.1,h1.1 c1.2.1,h2.1 c1.2.2⟩]
 · rw[zae c1,zae (c:=(¬P a/\P b)/\(0<m'/\n'<0)) λe=>c1 ⟨e.1,h1.2 e.2.1,h2.2 e.2.2⟩]
   by_cases c2:(P a/\¬P b)/\(m<0/\0<n)
   · rw[zau c2,zau ⟨c2.1,h3.1 c2.2.1,h4.1 c2.2.2⟩]
   · rw[zae c2,zae (c:=(P a/\¬P b)/\(m'<0/\0<n')) λe=>c2 ⟨e.1,h3.2 e.2.1,h4.2 e.2.2⟩]
theorem zRR{a b m n r:Rat}(hr:0<r):kq (λx=>0<x) a b (r*m) (r*n)=kq (λx=>0<x) a b m n:=by
 have J:=uN (y:=m) hr;have H:=uN (y:=n) hr;have D:r*m<0↔m<0:=by have:=uN (y:=-m) hr;constructor<;>intro h<;>grind
 have C:r*n<0↔n<0:=by have:=uN (y:=-n) hr;constructor<;>intro h<;>grind
 exact yKR J C D H
theorem zRS{a b m n r:Rat}(hr:r<0):kq (λx=>0<=x) (-a) (-b) (r*m) (r*n)= -kq (λx=>0<x) a b m n:=by
 have C:0< -r:=by grind
 have U:0<r*m↔m<0:=by have:=uN (y:=-m) C;constructor<;>intro h<;>grind
 have O:0<r*n↔n<0:=by have:=uN (y:=-n) C;constructor<;>intro h<;>grind
 have M:r*m<0↔0<m:=by have:=uN (y:=m) C;constructor<;>intro h<;>grind
 have J:r*n<0↔0<n:=by have:=uN (y:=n) C;constructor<;>intro h<;>grind
 have H:0<= -a↔¬0<a:=by constructor<;>intro h<;>grind
 have D:0<= -b↔¬0<b:=by constructor<;>intro h<;>grind
 unfold kq;simp only[U,O,M,J,H,D,zfi]
 by_cases c1:0<a/\¬0<b
 · have c2:¬(¬0<a/\0<b):=λe=>e.1 c1.1
   simp only[c1,c2,not_true_eq_false,not_false_eq_true,and_self,true_and,false_and,and_false,if_false]
   split<;>rfl
 · by_cases c2:¬0<a/\0<b
   · simp only[c2,not_true_eq_false,not_false_eq_true,and_self,true_and,false_and,and_false,if_false]
     split<;>rfl
   · simp only[c1,c2,false_and,if_false];rfl
section
variable (A B d e g:Pt)
theorem pl_1:yH A g d*yH B d e-yH A d e*yH B g d=yH d e g*yH A B d:=by
 unfold yH zM yC;grind
theorem pl_2:yH A d e*yH B e g-yH A e g*yH B d e=yH d e g*yH A B e:=by
 unfold yH zM yC;grind
theorem pl_3:yH A e g*yH B g d-yH A g d*yH B e g=yH d e g*yH A B g:=by
 unfold yH zM yC;grind
theorem zDS(s:Rat):yH (uC A (scT s (yZ B A))) d e=yH A d e+s*(yH B d e-yH A d e):=by
 unfold yH zM yC uC scT yZ;grind
theorem yLQ(Y:Pt):scT (yH d e g) Y=uC (uC (scT (yH Y e g) d) (scT (yH Y g d) e)) (scT (yH Y d e) g):=by
 unfold yH zM yC uC scT
 congr 1<;>grind
end
theorem zYR{d e g Y:Pt}(hD:yH d e g≠0)(h2:yH Y g d=0)(h3:yH Y d e=0):Y=scT (yH Y e g/yH d e g) d:=by
 have h:=yLQ d e g Y;rw[h2,h3] at h;generalize yH d e g=D at *;generalize yH Y e g=t at *;rw[kJ] at h ⊢;obtain⟨J,H,C⟩:=h;unfold scT uC at *;simp only at J H C ⊢;exact⟨by grind,by grind,by grind⟩
theorem zZ2{A B d e g:Pt}(hD:yH d e g≠0)(hn:¬mtR A B d):(0<yH d e g->ndR (yH A g d) (yH A d e) (yH A e g) (yH B g d) (yH B d e) (yH B e g))/\(yH d e g<0->ndR (-yH A g d) (-yH A d e) (-yH A e g) (-yH B g d) (-yH B d e) (-yH B e g)):=by
 constructor
 · intro C s h0 h1 M J H
   refine hn ⟨s,_,h0,h1,?_,zYR (Y:=uC A (scT s (yZ B A))) hD ?_ ?_⟩
   · rw[zDS]
     generalize yH A e g+s*(yH B e g-yH A e g)=t at *;rw[Rat.div_def];exact zod H (zee (Rat.inv_pos.2 C))
   · rw[zDS];exact M
   · rw[zDS];exact J
 · intro C s h0 h1 M J H
   refine hn ⟨s,_,h0,h1,?_,zYR (Y:=uC A (scT s (yZ B A))) hD ?_ ?_⟩
   · rw[zDS]
     have U:0<= -(yH A e g+s*(yH B e g-yH A e g)):=by grind
     generalize yH A e g+s*(yH B e g-yH A e g)=t at *;generalize yH d e g=D at *;have O:t/D*D=t:=by grind
     refine Rat.not_lt.1 λh=>?_;have:=vC (show 0< -(t/D) by grind) (show 0< -D by grind);grind
   · rw[zDS];grind
   · rw[zDS];grind
def zVN(d e g X:Pt):Int:=if 0<yH d e g then zLZ (0<yH X e g/\0<yH X g d/\0<yH X d e) else -zLZ (0<= -yH X e g/\0<= -yH X g d/\0<= -yH X d e)
theorem yKS{A B d e g:Pt}(hD:yH d e g≠0)(h1:¬mtR A B d)(h2:¬mtR A B e)(h3:¬mtR A B g):kp d e A B+kp e g A B+kp g d A B=zVN d e g B-zVN d e g A:=by
 have r1:yH e g d=yH d e g:=by unfold yH zM yC;grind
 have r2:yH g d e=yH d e g:=by unfold yH zM yC;grind
 have U:=zZ2 hD h1;have H:=zZ2 (r1▸hD) h2;have D:=zZ2 (r2▸hD) h3;rw[r1] at H;rw[r2] at D;have O:=pl_1 A B d e g;have M:=pl_2 A B d e g;have J:=pl_3 A B d e g;have C:0<yH d e g\/yH d e g<0:=by grind
 unfold zVN
 rcases C with hp|hp
 · have h:=yAS yM9 (U.1 hp) (H.1 hp) (D.1 hp)
   rw[O,M,J,zRR hp,zRR hp,zRR hp] at h;rw[zau hp,zau hp];exact h
 · have Z:¬0<yH d e g:=λe=>by grind
   have h:=yAS yNA (U.2 hp) (H.2 hp) (D.2 hp);have m:∀x y:Rat,-x*-y=x*y:=λx y=>by grind
   rw[m,m,m,m,m,m,O,M,J,zRS hp,zRS hp,zRS hp] at h;rw[zae Z,zae Z];unfold kp;omega
abbrev EL:=List (Pt×Pt)
def kE(d e:Pt):EL->Int
  |[]=>0
  |x::r=>kp d e x.1 x.2+kE d e r
def dfE(f:Pt->Int):EL->Int
  |[]=>0
  |x::r=>f x.2-f x.1+dfE f r
def zCH(E:EL):Prop:=∀f:Pt->Int,dfE f E=0
def iC(E:EL)(d:Pt):Prop:=∀x,x∈E->¬mtR x.1 x.2 d
def zOT(N:Pt)(h:Rat)(E:EL):Prop:=∀x,x∈E->zM N x.1=h/\zM N x.2=h
theorem zFA{d e:Pt}:∀{E:EL},(∀x,x∈E->kp d e x.1 x.2=0)->kE d e E=0
  |[],_=>rfl
  |x::r,h=>by
   show kp d e x.1 x.2+kE d e r=0
   rw[h x (.head _),zFA λy hy=>h y (.tail _ hy)];rfl
theorem zHD{d e d' e':Pt}{m:Pt->Pt}:∀{E:EL},(∀x,x∈E->kp d e x.1 x.2=kp d' e' (m x.1) (m x.2))->kE d e E=kE d' e' (E.map λx=>(m x.1,m x.2))
  |[],_=>rfl
  |x::r,h=>by
   show kp d e x.1 x.2+kE d e r=kp d' e' (m x.1) (m x.2)+kE d' e' (r.map _)
   rw[h x (.head _),zHD λy hy=>h y (.tail _ hy)]
theorem bF(d e:Pt):∀E F:EL,kE d e (E++F)=kE d e E+kE d e F
  |[],F=>by show _=0+_;rw[ywi];rfl
  |x::r,F=>by
   show kp d e x.1 x.2+kE d e (r++F)=kp d e x.1 x.2+kE d e r+_
   rw[bF d e r F];omega
theorem yAV{d e g:Pt}(hD:yH d e g≠0){E:EL}(hc:zCH E)(h1:iC E d)(h2:iC E e)(h3:iC E g):kE d e E+kE e g E+kE g d E=0:=by
 have aux:∀E:EL,iC E d->iC E e->iC E g->kE d e E+kE e g E+kE g d E=dfE (zVN d e g) E:=by
  intro E
  induction E with
  |nil=>intro _ _ _;rfl
  |cons x r ih=>
   intro h1 h2 h3;have:=yKS hD (h1 x (.head _)) (h2 x (.head _)) (h3 x (.head _));have:=ih (λy hy=>h1 y (.tail _ hy)) (λy hy=>h2 y (.tail _ hy)) (λy hy=>h3 y (.tail _ hy))
   show kp d e x.1 x.2+kE d e r+(kp e g x.1 x.2+kE e g r)+(kp g d x.1 x.2+kE g d r)=zVN d e g x.2-zVN d e g x.1+dfE _ r
   omega
 rw[aux E h1 h2 h3];exact hc _
theorem zSK(x:Rat):0<=x*x:=by
 rcases(show x<=0\/0<=x by grind) with h|h
 · have:=zod (show 0<= -x by grind) (show 0<= -x by grind);grind
 · exact zod h h
theorem zCD{N:Pt}(h:N≠zT):0<zM N N:=by
 obtain⟨x,y,z⟩:=N;have h1:=zSK x;have h2:=zSK y;have h3:=zSK z;unfold zM;refine Rat.not_le.1 λe=>h ?_;have C:∀t:Rat,t*t=0->t=0:=λt e=>(zoe.1 e).elim id id;have J:=C x zo0;have H:=C y zo0;have D:=C z zo0;rw[J,H,D]
theorem sV{N:Pt}(h:N≠zT):zM N N≠0:=λe=>absurd (zCD h) (by rw[e];decide)
section
variable {N A B e e' d:Pt}{h:Rat}
theorem zMF(he:zM N e=0)(he':zM N e'=0):zM N N*yH A e e'=zM N A*yH N e e':=by
 have:zM N N*yH A e e'-zM N A*yH N e e'=zM N e'*zM (yC N A) e-zM N e*zM (yC N A) e':=by
  unfold yH zM yC;grind
 rw[he,he'] at this;grind
theorem yB1(hN:N≠zT)(he:zM N e=0)(he':zM N e'=0)(hA:zM N A=h)(hB:zM N B=h):yH A e e'=yH B e e':=by
 have h1:=zMF (A:=A) he he';have h2:=zMF (A:=B) he he';rw[hA] at h1;rw[hB,<-h1] at h2;have h3:=sV hN;generalize zM N N=n at *;have C:n*(yH B e e'-yH A e e')=0:=by grind
 have:=(zoe.1 C).resolve_left h3;grind
theorem zTH(hN:N≠zT)(he:zM N e=0)(he':zM N e'=0)(hA:zM N A=h)(hB:zM N B=h):kp e e' A B=0:=by
 unfold kp;rw[yB1 hN he he' hA hB];exact zTG Iff.rfl
theorem zMD(s:Rat):zM N (uC A (scT s (yZ B A)))=zM N A+s*(zM N B-zM N A):=by
 unfold zM uC scT yZ;grind
theorem zHT(l:Rat):zM N (scT l d)=l*zM N d:=by unfold zM scT;grind
theorem yGY(hA:zM N A=h)(hB:zM N B=h)(hm:mtR A B d):∃l,0<=l/\h=l*zM N d:=by
 obtain⟨s,l,h0,h1,C,e⟩:=hm;have:=zbi (zM N) e;rw[zMD,zHT,hA,hB] at this;exact⟨l,C,by grind⟩
end
theorem zLL{N e:Pt}{h:Rat}{E:EL}(hE:zOT N h E)(hh:h≠0)(he:zM N e=0):iC E e:=λx hx hm=>by
 obtain⟨l,_,e1⟩:=yGY (hE x hx).1 (hE x hx).2 hm;rw[he,y2e] at e1;exact hh e1
theorem zLV{N e e':Pt}{h:Rat}{E:EL}(hN:N≠zT)(hE:zOT N h E)(he:zM N e=0)(he':zM N e'=0):kE e e' E=0:=zFA λx hx=>zTH hN he he' (hE x hx).1 (hE x hx).2
section
variable {N d e e':Pt}{h:Rat}{E:EL}(hN:N≠zT)(hc:zCH E)(hE:zOT N h E)(hh:h≠0)(hd:iC E d)
include hN hc hE hh hd
theorem zDI(hcd:zM N d≠0)(he:zM N e=0)(he':zM N e'=0)(hi:yH N e e'≠0):kE d e E= -kE e' d E:=by
 have C:yH d e e'≠0:=λe0=>by
  have:=zMF (A:=d) he he';rw[e0,y2e] at this;exact(zoe.1 this.symm).elim hcd hi
 have h1:=yAV C hc hd (zLL hE hh he) (zLL hE hh he');have h2:=zLV hN hE he he';omega
omit hc hE hh hd in
theorem yGL(he:zM N e=0)(he':zM N e'=0)(z:e≠zT)(z':e'≠zT):∃g,zM N g=0/\yH N e g≠0/\yH N e' g≠0:=by
 by_cases hi:yH N e e'=0
 · refine⟨yC N e,by unfold zM yC;grind,?_,?_⟩
   · have:yH N e (yC N e)=zM N N*zM e e-zM N e*zM N e:=by unfold yH zM yC;grind
     rw[this,he];intro e0;have:zM N N*zM e e=0:=by grind
     exact(zoe.1 this).elim (sV hN) (sV z)
   · have h1:yH N e' (yC N e)=zM N N*zM e e'-zM N e*zM N e':=by unfold yH zM yC;grind
     rw[h1,he,y2i];intro e0;have h2:zM e e'=0:=(zoe.1 (show zM N N*zM e e'=0 by grind)).resolve_left (sV hN);have h3:zM N N*(zM e e*zM e' e'-zM e e'*zM e e')=yH N e e'*yH N e e'+(zM N e*(zM N e*zM e' e'-zM N e'*zM e e')+zM N e'*(zM N e'*zM e e-zM N e*zM e e')):=by unfold yH zM yC;grind
     rw[h2,hi,he,he'] at h3;have C:zM N N*(zM e e*zM e' e')=0:=by grind
     rcases zoe.1 C with h|h
     · exact sV hN h
     · exact(zoe.1 h).elim (sV z) (sV z')
 · refine⟨uC e e',by unfold zM uC at *;grind,?_,?_⟩
   · have:yH N e (uC e e')=yH N e e':=by unfold yH zM yC uC;grind
     rw[this];exact hi
   · have:yH N e' (uC e e')= -yH N e e':=by unfold yH zM yC uC;grind
     rw[this];intro e0;exact hi zo0
theorem zDJ(hcd:zM N d≠0)(he:zM N e=0)(he':zM N e'=0)(z:e≠zT)(z':e'≠zT):kE d e E=kE d e' E/\kE e' d E= -kE d e E:=by
 obtain⟨g,C,H,J⟩:=yGL hN he he' z z';have a1:=zDI hN hc hE hh hd hcd he C H;have a2:=zDI hN hc hE hh hd hcd he' C J;have i3:yH N g e'≠0:=by
  have:yH N g e'= -yH N e' g:=by unfold yH zM yC;grind
  rw[this];intro e0;exact J zo0
 have Z:yH N g e≠0:=by
  have:yH N g e= -yH N e g:=by unfold yH zM yC;grind
  rw[this];intro e0;exact H zo0
 have a3:=zDI hN hc hE hh hd hcd C he' i3;have M:g≠zT:=λe0=>H (by rw[e0];unfold yH zM yC;grind);have a4:=zDI hN hc hE hh hd hcd C he Z;obtain⟨g2,D,U,O⟩:=yGL hN he C z M;have b1:=zDI hN hc hE hh hd hcd he D U;have b2:=zDI hN hc hE hh hd hcd C D O;exact⟨by omega,by omega⟩
theorem yFE{G:Pt}(hG:iC E G)(hcG:zM N G≠0)(hr:uC (scT (zM N d) G) (scT (-zM N G) d)≠zT)(he:zM N e=0)(z:e≠zT):kE d G E=kE d e E-kE G e E:=by
 generalize C:uC (scT (zM N d) G) (scT (-zM N G) d)=r at hr;have D:zM N (yC N r)=0:=by unfold zM yC;grind
 have M:yH d G (yC N r)=zM r r:=by
  rw[<-C];unfold yH zM yC uC scT;grind
 have H:zM N r=0:=by rw[<-C];unfold zM uC scT;grind
 have J:yC N r≠zT:=λe0=>by
  have h1:zM (yC N r) (yC N r)=zM N N*zM r r-zM N r*zM N r:=by unfold zM yC;grind
  rw[e0,H] at h1;have h2:zM N N*zM r r=0:=by
   have:zM zT zT=0:=by show(0:Rat)*0+0*0+0*0=0;grind
   grind
  exact(zoe.1 h2).elim (sV hN) (sV hr)
 have h1:=yAV (by rw[M];exact sV hr) hc hd hG (zLL hE hh D);have h2:=(zDJ hN hc hE hh hG hcG D he J z).1
 by_cases hcd:zM N d=0
 · have h3:=zLV hN hE D hcd
   have O:=zLV hN hE hcd he;omega
 · have h3:=(zDJ hN hc hE hh hd hcd he D z J).2
   omega
end
def c2Z(u v q:P2):Int:=if uU u v q then(if u.2<=q.2 then 1 else -1) else 0
def nkN(n:Pt):Rat:=if 0<n.z then n.z else if n.z<0 then -n.z else if 0<n.y then n.y else if n.y<0 then -n.y else if 0<n.x then n.x else -n.x
def eN(n:Pt):Pt:=if 0<n.z then T3.mk n.z 0 (-n.x) else if n.z<0 then T3.mk 0 (-n.z) n.y else if 0<n.y then T3.mk 0 (-n.z) n.y else if n.y<0 then T3.mk (-n.y) n.x 0 else if 0<n.x then T3.mk (-n.y) n.x 0 else T3.mk n.z 0 (-n.x)
section
variable {N:Pt}(hN:N≠zT)
include hN
theorem six{M:Nat->Nat->Rat->Pt->Prop}(h1:0<N.z->M 0 1 N.z (T3.mk N.z 0 (-N.x)))(h2:N.z<0->M 1 0 (-N.z) (T3.mk 0 (-N.z) N.y))(h3:N.z=0->0<N.y->M 2 0 N.y (T3.mk 0 (-N.z) N.y))(h4:N.z=0->N.y<0->M 0 2 (-N.y) (T3.mk (-N.y) N.x 0))(h5:N.z=0->N.y=0->0<N.x->M 1 2 N.x (T3.mk (-N.y) N.x 0))(h6:N.z=0->N.y=0->N.x<0->M 2 1 (-N.x) (T3.mk N.z 0 (-N.x))):
 M (axI N) (axJ N) (nkN N) (eN N):=by
 unfold axI axJ nkN eN
 by_cases c1:0<N.z
 · simp only[zau c1];exact h1 c1
 · by_cases c2:N.z<0
   · simp only[zae c1,zau c2];exact h2 c2
   · have C:N.z=0:=by grind
     by_cases c3:0<N.y
     · simp only[zae c1,zae c2,zau c3];exact h3 C c3
     · by_cases c4:N.y<0
       · simp only[zae c1,zae c2,zae c3,zau c4];exact h4 C c4
       · have D:N.y=0:=by grind
         by_cases c5:0<N.x
         · simp only[zae c1,zae c2,zae c3,zae c4,zau c5];exact h5 C D c5
         · have H:N.x<0:=by
            refine Rat.not_le.1 λe=>hN ?_;rw[kJ];exact⟨by show N.x=0;grind,D,C⟩
           simp only[zae c1,zae c2,zae c3,zae c4,zae c5,zau H];exact h6 C D H
theorem zHS:0<nkN N/\zM N (eN N)=0/\eN N≠zT:=by
 refine six hN (M:=λi j C e=>0<C/\zM N e=0/\e≠zT) (λh=>⟨h,?_,λe=>?_⟩) (λh=>⟨by grind,?_,λe=>?_⟩) (λz h=>⟨h,?_,λe=>?_⟩) (λz h=>⟨by grind,?_,λe=>?_⟩) (λz y h=>⟨h,?_,λe=>?_⟩) (λz y h=>⟨by grind,?_,λe=>?_⟩)
 any_goals (unfold zM;grind)
 · have:=zbi T3.x e;simp only at this;have:N.z=0:=this;grind
 · have:=zbi T3.y e;simp only at this;have:-N.z=0:=this;grind
 · have:=zbi T3.z e;simp only at this;have:N.y=0:=this;grind
 · have:=zbi T3.x e;simp only at this;have:-N.y=0:=this;grind
 · have:=zbi T3.y e;simp only at this;have:N.x=0:=this;grind
 · have:=zbi T3.z e;simp only at this;have:-N.x=0:=this;grind
theorem yOH{A d:Pt}{h c:Rat}(hA:zM N A=h)(hd:zM N d=c):yH A d (eN N)=c*A.at (axJ N)-h*d.at (axJ N):=by
 subst hA hd;refine six hN (M:=λi j C e=>yH A d e=zM N d*A.at j-zM N A*d.at j) (λh=>?_) (λh=>?_) (λz h=>?_) (λz h=>?_) (λz y h=>?_) (λz y h=>?_)
 all_goals (unfold yH zM yC;simp only[T3.at];grind)
theorem eN_o{A B d:Pt}{h c t:Rat}(hA:zM N A=h)(hB:zM N B=h)(hd:zM N d=c)(ht:t*c=h):c*cr (pr A (axI N) (axJ N)) (pr B (axI N) (axJ N)) (pr (scT t d) (axI N) (axJ N))=nkN N*yH A B d:=by
 refine six hN (M:=λi j C e=>c*cr (pr A i j) (pr B i j) (pr (scT t d) i j)=C*yH A B d) (λh=>?_) (λh=>?_) (λz h=>?_) (λz h=>?_) (λz y h=>?_) (λz y h=>?_)
 all_goals (unfold yH zM yC cr pr scT at *;simp only[T3.at];grind)
end
theorem yOG{N A B d e:Pt}{h c:Rat}(hA:zM N A=h)(hB:zM N B=h)(hd:zM N d=c)(he:zM N e=0):c*yH A B e= -h*(yH B d e-yH A d e):=by
 unfold yH zM yC at *;grind
theorem yOP{N A B d:Pt}{h c t:Rat}(hN:N≠zT)(hA:zM N A=h)(hB:zM N B=h)(hd:zM N d=c)(ht:0<t)(htc:t*c=h)(hc:c≠0):
 (0<c->c2Z (pr A (axI N) (axJ N)) (pr B (axI N) (axJ N)) (pr (scT t d) (axI N) (axJ N))=kp d (eN N) A B)/\(c<0->c2Z (pr A (axI N) (axJ N)) (pr B (axI N) (axJ N)) (pr (scT t d) (axI N) (axJ N))=kp (eN N) d A B):=by
 obtain⟨M,he,_⟩:=zHS hN;have a1:=yOH hN hA hd;have b1:=yOH hN hB hd;have o1:=eN_o hN hA hB hd htc;have s1:=yOG (A:=A) (B:=B) hA hB hd he;have e1:yH A (eN N) d= -yH A d (eN N):=by unfold yH zM yC;grind
 have e2:yH B (eN N) d= -yH B d (eN N):=by unfold yH zM yC;grind
 have D:(pr (scT t d) (axI N) (axJ N)).2=t*d.at (axJ N):=by
  unfold pr scT;generalize axJ N=j
  match j with
  |0=>rfl
  |1=>rfl
  |_+2=>rfl
 have hu:(pr A (axI N) (axJ N)).2=A.at (axJ N):=I;have hv:(pr B (axI N) (axJ N)).2=B.at (axJ N):=I;unfold c2Z uU orZ kp;rw[D,hu,hv,e1,e2,a1,b1];rw[a1,b1] at s1;simp only[nM,jI];generalize cr (pr A (axI N) (axJ N)) (pr B (axI N) (axJ N)) (pr (scT t d) (axI N) (axJ N))=o at *;generalize A.at (axJ N)=x at *;generalize B.at (axJ N)=y at *;generalize d.at (axJ N)=z at *;generalize yH A B d=m at *;generalize yH A B (eN N)=n at *;generalize nkN N=k at *;subst htc
 -- n = -(t) * c * (y - x)
 have hn:n= -(t*c)*(y-x):=by
  have:c*(n- -(t*c)*(y-x))=0:=by grind
  have:=(zoe.1 this).resolve_left hc;grind
 have ax:c*x-t*c*z=c*(x-t*z):=by grind
 have bx:c*y-t*c*z=c*(y-t*z):=by grind
 rw[ax,bx];generalize hz:t*z=w at *;have go:∀(p q r s:Prop) {_:Decidable p} {_:Decidable q} {_:Decidable r} {_:Decidable s},(p↔q\/r)->(q->s)->(r->¬s)->(if p then(if s then(1:Int) else -1) else 0)=if q then 1 else if r then -1 else 0:=by
  intro p q r s _ _ _ _ h1 h2 h3
  by_cases D:q
  · rw[zau (h1.2 (.inl D)),zau (h2 D),zau D]
  · by_cases hr:r
    · rw[zau (h1.2 (.inr hr)),zae (h3 hr),zae D,zau hr]
    · rw[zae (λe=>(h1.1 e).elim D hr),zae D,zae hr]
 constructor
 · intro J
   have H:0<c*(x-w)↔w<x:=by rw[uN J];constructor<;>intro h<;>grind
   have f2:0<c*(y-w)↔w<y:=by rw[uN J];constructor<;>intro h<;>grind
   have f3:0<m↔0<o:=by rw[<-uN M,<-o1,uN J]
   have Z:m<0↔o<0:=by
    have:=uN (y:=-m) M;have:=uN (y:=-o) J;constructor<;>intro h<;>grind
   have htc:=vC ht J;have U:n<0↔x<y:=by
    have:=uN (y:=y-x) htc;constructor<;>intro h<;>grind
   have O:0<n↔y<x:=by
    have:=uN (y:=x-y) htc;constructor<;>intro h<;>grind
   unfold kq;refine go _ _ _ _ ?_ ?_ ?_
   · simp only[H,f2,f3,Z,U,O]
     constructor<;>intro h<;>grind
   · simp only[H];intro h;grind
   · simp only[H];intro h;grind
 · intro J
   have C:0< -c:=by grind
   have H:0< -(c*(x-w))↔w<x:=by rw[show -(c*(x-w))= -c*(x-w) by grind,uN C];constructor<;>intro h<;>grind
   have f2:0< -(c*(y-w))↔w<y:=by rw[show -(c*(y-w))= -c*(y-w) by grind,uN C];constructor<;>intro h<;>grind
   have f3:m<0↔0<o:=by
    have:=uN (y:=-m) M;have:=uN (y:=o) C;constructor<;>intro h<;>grind
   have Z:0<m↔o<0:=by
    have:=uN (y:=m) M;have:=uN (y:=-o) C;constructor<;>intro h<;>grind
   have htc:=vC ht C;have U:0<n↔x<y:=by
    have:=uN (y:=y-x) htc;constructor<;>intro h<;>grind
   have O:n<0↔y<x:=by
    have:=uN (y:=x-y) htc;constructor<;>intro h<;>grind
   unfold kq;refine go _ _ _ _ ?_ ?_ ?_
   · simp only[H,f2,f3,Z,U,O]
     constructor<;>intro h<;>grind
   · simp only[H];intro h;grind
   · simp only[H];intro h;grind
theorem yOO{u v q u' v' q':P2}(h1:u.2<=q.2↔u'.2<=q'.2)(h2:v.2<=q.2↔v'.2<=q'.2)(h3:orZ u v q=orZ u' v' q'):c2Z u v q=c2Z u' v' q':=by
 have hc:uU u v q↔uU u' v' q':=by unfold uU;rw[h1,h2,h3]
 unfold c2Z
 by_cases e:uU u v q
 · rw[zau e,zau (hc.1 e)]
   by_cases e2:u.2<=q.2
   · rw[zau e2,zau (h1.1 e2)]
   · rw[zae e2,zae λe'=>e2 (h1.2 e')]
 · rw[zae e,zae λe'=>e (hc.2 e')]
theorem zPG{u v q:P2}(s:P2):c2Z (u.1+s.1,u.2+s.2) (v.1+s.1,v.2+s.2) (q.1+s.1,q.2+s.2)=c2Z u v q:=by
 have h1:∀x y z:Rat,x+z<=y+z↔x<=y:=λx y z=>by constructor<;>intro h<;>grind
 have h2:orZ (u.1+s.1,u.2+s.2) (v.1+s.1,v.2+s.2) (q.1+s.1,q.2+s.2)=orZ u v q:=by
  unfold orZ cr
  congr 1
  grind
 exact yOO (h1 _ _ _) (h1 _ _ _) h2
def mH(p:Pt)(l:List Pt):Nat->EL:=wO λm=>(yZ (gp l m) p,yZ (gp l ((m+1)%l.length)) p)
def oB(p:Pt)(L:List (List Pt)):Nat->EL:=gM λm=>mH p (gl L m) (gl L m).length
theorem zAS(f:Pt->Int):∀E F:EL,dfE f (E++F)=dfE f E+dfE f F
  |[],F=>by show _=0+_;rw[ywi];rfl
  |x::r,F=>by
   show f x.2-f x.1+dfE f (r++F)=f x.2-f x.1+dfE f r+_
   rw[zAS f r F];omega
theorem yHA(f:Pt->Int)(p:Pt)(l:List Pt):∀m,m<=l.length->dfE f (mH p l m)=f (yZ (gp l (m%l.length)) p)-f (yZ (gp l 0) p)
  |0,_=>by rw[Nat.zero_mod];show(0:Int)=_;omega
  |m+1,h=>by
   have ih:=yHA f p l m zot;rw[zoh (show m<l.length by omega)] at ih
   show dfE f (mH p l m++[(yZ (gp l m) p,yZ (gp l ((m+1)%l.length)) p)])=_
   rw[zAS,ih]
   show _+(f (yZ (gp l ((m+1)%l.length)) p)-f (yZ (gp l m) p)+0)=_
   omega
theorem yCC(p:Pt)(l:List Pt):zCH (mH p l l.length):=λf=>by
 rw[yHA f p l _ (zbe _),y2u];omega
theorem dR(p:Pt)(L:List (List Pt)):∀n,zCH (oB p L n)
  |0=>λ_=>rfl
  |n+1=>λf=>by
   show dfE f (oB p L n++mH p (gl L n) (gl L n).length)=0
   rw[zAS,dR p L n f,yCC p _ f];rfl
theorem zG2{α:Type}{g:Nat->α}{x:α}:∀{n},x∈wO g n->∃m,m<n/\x=g m
  |0,h=>by cases h
  |n+1,h=>by
   have h':x∈wO g n++[g n]:=h;rw[zli] at h'
   rcases h' with h'|h'
   · obtain⟨m,hm,e⟩:=zG2 h'
     exact⟨m,by omega,e⟩
   · exact⟨n,by omega,by simpa using h'⟩
theorem zDE{α:Type}{g:Nat->List α}{x:α}:∀{n},x∈gM g n->∃m,m<n/\x∈g m
  |0,h=>by cases h
  |n+1,h=>by
   have h':x∈gM g n++g n:=h;rw[zli] at h'
   rcases h' with h'|h'
   · obtain⟨m,hm,e⟩:=zDE h'
     exact⟨m,by omega,e⟩
   · exact⟨n,by omega,h'⟩
theorem zOG{p:Pt}{L:List (List Pt)}{x:Pt×Pt}(h:x∈oB p L L.length):∃l k,l<L.length/\k<(gl L l).length/\x=(yZ (gp (gl L l) k) p,yZ (gp (gl L l) ((k+1)%(gl L l).length)) p):=by
 obtain⟨l,C,h⟩:=zDE h;obtain⟨k,hk,h⟩:=zG2 h;exact⟨l,k,C,hk,h⟩
def wnT(l:List Pt)(q:P2)(i j:Nat):Nat->Int
  |0=>0
  |m+1=>wnT l q i j m+c2Z (vG l i j m) (vD l i j m) q
def wnF(L:List (List Pt))(q:P2)(i j:Nat):Nat->Int
  |0=>0
  |m+1=>wnF L q i j m+wnT (gl L m) q i j (gl L m).length
theorem zZK(l:List Pt)(q:P2)(i j:Nat):∀m,jN l q i j m↔wnT l q i j m%2=1
  |0=>by show False↔(0:Int)%2=1;exact⟨False.elim,λe=>absurd e zow⟩
  |m+1=>by
   have ih:=zZK l q i j m
   show((uU _ _ _/\¬jN _ _ _ _ m)\/(¬uU _ _ _/\jN _ _ _ _ m))↔(wnT l q i j m+c2Z (vG l i j m) (vD l i j m) q)%2=1
   rw[ih];unfold c2Z
   by_cases h:uU (vG l i j m) (vD l i j m) q
   · rw[zau h]
     constructor
     · rintro(e|e)
       · split<;>omega
       · exact absurd h e.1
     · intro e
       refine .inl ⟨h,?_⟩
       split at e<;>omega
   · rw[zae h]
     constructor
     · rintro(e|e)
       · exact absurd e.1 h
       · omega
     · intro e;exact .inr ⟨h,by omega⟩
theorem yGG(L:List (List Pt))(q:P2)(i j:Nat):∀m,(∀k,k<m->kW (gl L k) q i j≠0)->mL L q i j m=if wnF L q i j m%2=1 then 1 else -1
  |0,_=>rfl
  |m+1,h=>by
   have ih:=yGG L q i j m λk hk=>h k zot;have hm:=h m zot;have ho:=zZK (gl L m) q i j (gl L m).length;have h1:kW (gl L m) q i j=1↔wnT (gl L m) q i j (gl L m).length%2=1:=by
    rw[<-ho];unfold kW at hm ⊢
    split
    · rename_i e;rw[zau e] at hm;exact absurd I hm
    · split
      · rename_i e;exact⟨λ_=>e,λ_=>I⟩
      · rename_i e;exact⟨λe'=>absurd e' zow,λe'=>absurd e' e⟩
   show(if kW (L.getD m []) q i j=1 then -(mL L q i j m) else mL L q i j m)=_
   rw[ih]
   show _=if(wnF L q i j m+wnT (gl L m) q i j (gl L m).length)%2=1 then(1:Int) else -1
   by_cases e:kW (L.getD m []) q i j=1
   · have C:=h1.1 e
     rw[zau e]
     by_cases e3:wnF L q i j m%2=1
     · rw[zau e3,zae zot]
     · rw[zae e3,zau zot];rfl
   · have C:¬wnT (gl L m) q i j (gl L m).length%2=1:=λe'=>e (h1.2 e')
     rw[zae e]
     by_cases e3:wnF L q i j m%2=1
     · rw[zau e3,zau zot]
     · rw[zae e3,zae zot]
theorem yHU{L:List (List Pt)}{q:P2}{i j:Nat}(h:whZ L q i j≠0):whZ L q i j=if wnF L q i j L.length%2=1 then 1 else -1:=by
 unfold whZ at h ⊢
 split
 · rename_i e;rw[zau e] at h;exact absurd I h
 · rename_i e
   exact yGG L q i j _ λk hk e'=>e ⟨k,hk,e'⟩
section
variable {N p d:Pt}{h c t:Rat}{i j:Nat}
theorem zYZ(p:Pt)(X:Pt)(i j:Nat):pr (uC p X) i j=((pr X i j).1+(pr p i j).1,(pr X i j).2+(pr p i j).2):=by
 have e:∀k,(uC p X).at k=X.at k+p.at k:=λk=>by
  unfold uC
  match k with
  |0=>show p.x+X.x=X.x+p.x;grind
  |1=>show p.y+X.y=X.y+p.y;grind
  |_+2=>show p.z+X.z=X.z+p.z;grind
 unfold pr;rw[e,e]
theorem yDW(A p:Pt):uC p (yZ A p)=A:=by
 unfold uC yZ;rw[kJ];exact⟨by grind,by grind,by grind⟩
theorem yMC(A B X:Pt)(i j:Nat):c2Z (pr A i j) (pr B i j) (pr (uC p X) i j)=c2Z (pr (yZ A p) i j) (pr (yZ B p) i j) (pr X i j):=by
 have D:=zYZ p (yZ A p) i j;have C:=zYZ p (yZ B p) i j;rw[yDW] at D C;rw[D,C,zYZ];exact zPG (pr p i j)
variable (hN:N≠zT)(hd:zM N d=c)(ht:0<t)(htc:t*c=h)(hc:c≠0)
include hN hd ht htc hc
theorem zW7(l:List Pt):∀m,m<=l.length->zOT N h (mH p l m)->(0<c->wnT l (pr (uC p (scT t d)) (axI N) (axJ N)) (axI N) (axJ N) m=kE d (eN N) (mH p l m))/\(c<0->wnT l (pr (uC p (scT t d)) (axI N) (axJ N)) (axI N) (axJ N) m=kE (eN N) d (mH p l m))
  |0,_,_=>⟨λ_=>rfl,λ_=>rfl⟩
  |m+1,hm,hE=>by
   have hE':zOT N h (mH p l m++[(yZ (gp l m) p,yZ (gp l ((m+1)%l.length)) p)]):=hE;obtain⟨h1,h2⟩:=zW7 l m zot λx hx=>hE' x (zqe _ hx);have h3:=hE' _ (zve _ (.head _));obtain⟨g1,g2⟩:=yOP hN h3.1 h3.2 hd ht htc hc;have e0:=yMC (p:=p) (gp l m) (gp l ((m+1)%l.length)) (scT t d) (axI N) (axJ N);constructor
   · intro hp
     show wnT l _ _ _ m+c2Z (pr (gp l m) _ _) (pr (gp l ((m+1)%l.length)) _ _) _=kE d (eN N) (mH p l m++[_])
     rw[bF,h1 hp,e0,g1 hp]
     show _=_+(_+0);rw[y3i]
   · intro hp
     show wnT l _ _ _ m+c2Z (pr (gp l m) _ _) (pr (gp l ((m+1)%l.length)) _ _) _=kE (eN N) d (mH p l m++[_])
     rw[bF,h2 hp,e0,g2 hp]
     show _=_+(_+0);rw[y3i]
theorem zFH(L:List (List Pt)):∀m,zOT N h (oB p L m)->(0<c->wnF L (pr (uC p (scT t d)) (axI N) (axJ N)) (axI N) (axJ N) m=kE d (eN N) (oB p L m))/\(c<0->wnF L (pr (uC p (scT t d)) (axI N) (axJ N)) (axI N) (axJ N) m=kE (eN N) d (oB p L m))
  |0,_=>⟨λ_=>rfl,λ_=>rfl⟩
  |m+1,hE=>by
   have hE':zOT N h (oB p L m++mH p (gl L m) (gl L m).length):=hE;obtain⟨h1,h2⟩:=zFH L m λx hx=>hE' x (zqe _ hx);obtain⟨g1,g2⟩:=zW7 hN hd ht htc hc (gl L m) _ (zbe _) λx hx=>hE' x (zve _ hx);constructor
   · intro hp
     show wnF L _ _ _ m+wnT (gl L m) _ _ _ (gl L m).length=kE d (eN N) (oB p L m++_)
     rw[bF,h1 hp,g1 hp]
   · intro hp
     show wnF L _ _ _ m+wnT (gl L m) _ _ _ (gl L m).length=kE (eN N) d (oB p L m++_)
     rw[bF,h2 hp,g2 hp]
end
abbrev xJ(s:Sd)(f:Nat):Pt:=(s.2.1.getD f zA).1.1
def edS(s:Sd)(p:Pt)(f:Nat):EL:=oB p (xR s f) (xR s f).length
def wnS(s:Sd)(f:Nat)(q:Pt):Int:=wnF (xR s f) (pr q (axI (xJ s f)) (axJ (xJ s f))) (axI (xJ s f)) (axJ (xJ s f)) (xR s f).length
def wnP(s:Sd):Prop:=∀f,f<s.2.1.length->∀q,whF s f q≠0->wnS s f q=0\/wnS s f q=1
theorem zSD{s:Sd}(hw:wnP s){f:Nat}(hf:f<s.2.1.length){q:Pt}(h:whF s f q≠0):wnS s f q=if whF s f q=1 then 1 else 0:=by
 have h1:=hw f hf q h;rw[zB9] at h ⊢;have h2:=yHU h
 rcases h1 with e|e
 · unfold wnS at e ⊢
   rw[h2];rw[e];rw[zae (show ¬(0:Int)%2=1 by decide),zae (show ¬(-1:Int)=1 by decide)]
 · unfold wnS at e ⊢
   rw[h2];rw[e];rw[zau (show(1:Int)%2=1 by decide),zau I]
section
variable {s:Sd}{f:Nat}(hs:zTU s)(hf:f<s.2.1.length)
include hs hf
theorem zHQ(p:Pt):zOT (xJ s f) (hnF s p f) (edS s p f):=λx hx=>by
 obtain⟨l,k,hl,hk,rfl⟩:=zOG hx;have h1:=((hs f hf).2 l hl k hk).1;have h2:=((hs f hf).2 l hl _ (zcu (k+1) (show 0<(gl (xR s f) l).length by omega))).1;have e:∀A:Pt,zM (xJ s f) A=(s.2.1.getD f zA).1.2->zM (xJ s f) (yZ A p)=hnF s p f:=λA h=>by
  unfold hnF;rw[<-h];unfold zM yZ;grind
 exact⟨e _ h1,e _ h2⟩
omit hs hf in
theorem zDY{p d:Pt}{x:Pt×Pt}{sx l:Rat}(hx:x∈edS s p f)(h0:0<=sx)(h1:sx<=1)(e:uC x.1 (scT sx (yZ x.2 x.1))=scT l d):whF s f (uC p (scT l d))=0:=by
 obtain⟨m,k,O,hk,rfl⟩:=zOG hx;rw[zB9];generalize axI (s.2.1.getD f zA).1.1=i;generalize axJ (s.2.1.getD f zA).1.1=j;have C:onS (vG (gl (xR s f) m) i j k) (vD (gl (xR s f) m) i j k) (pr (uC p (scT l d)) i j):=by
  unfold vG vD;generalize gp (gl (xR s f) m) k=A at *;generalize gp (gl (xR s f) m) ((k+1)%(gl (xR s f) m).length)=B at *;have D:∀n,(uC p (scT l d)).at n=A.at n+sx*(B.at n-A.at n):=λn=>by
   rw[<-e];unfold uC scT yZ
   match n with
   |0=>simp only[T3.at];grind
   |1=>simp only[T3.at];grind
   |_+2=>simp only[T3.at];grind
  have H:∀a b:Rat,qY a b (a+sx*(b-a)):=λa b=>by
   unfold qY
   rcases(show a<=b\/b<=a by grind) with h|h
   · have M:=zod h0 (show 0<=b-a by grind)
     have J:=zod (show 0<=1-sx by grind) (show 0<=b-a by grind);exact .inl ⟨by grind,by grind⟩
   · have M:=zod h0 (show 0<=a-b by grind)
     have J:=zod (show 0<=1-sx by grind) (show 0<=a-b by grind);exact .inr ⟨by grind,by grind⟩
  unfold pr;rw[D,D];refine⟨H _ _,H _ _,?_⟩;unfold cr;simp only;grind
 unfold whZ;rw[zau ⟨m,O,zau ⟨k,hk,C⟩⟩]
theorem zMB{p d:Pt}(hh:hnF s p f≠0)(hb:¬bdS s p d f):iC (edS s p f) d:=λx hx hm=>by
 obtain⟨sx,l,h0,h1,hl,e⟩:=hm;have hE:=zHQ hs hf p x hx;obtain⟨l2,hl2,e2⟩:=yGY hE.1 hE.2 ⟨sx,l,h0,h1,hl,e⟩;have e3:hnF s p f=l*cnF s d f:=by
  have:=zbi (zM (xJ s f)) e;rw[zMD,zHT,hE.1,hE.2] at this
  show _=l*zM (xJ s f) d
  grind
 have hw:=zDY hx h0 h1 e;have hc:cnF s d f≠0:=λe0=>hh (by rw[e3,e0];grind);have C:0<l:=by
  have:l≠0:=λe0=>hh (by rw[e3,e0];grind);grind
 have et:hnF s p f/cnF s d f=l:=by
  rw[e3];generalize cnF s d f=c at *;grind
 refine hb ⟨?_,by rw[et];exact hw⟩;unfold skP;rw[aJ,e3];generalize cnF s d f=c at *;intro D;refine D ?_
 rcases(show 0<c\/c<0 by grind) with h|h
 · exact .inl ⟨h,vC C h⟩
 · refine .inr ⟨h,?_⟩
   have:=vC C (show 0< -c by grind);grind
omit hs hf in
theorem yFD{N A B d:Pt}{h c:Rat}(hN:N≠zT)(hA:zM N A=h)(hB:zM N B=h)(hd:zM N d=c)(hs:¬((0<c/\0<h)\/(c<0/\h<0)))(hh:h≠0):kp d (eN N) A B=0:=by
 obtain⟨nk,H,_⟩:=zHS hN
 by_cases hc:c=0
 · exact zTH hN (hd.trans hc) H hA hB
 · have Z:=yOG (A:=A) (B:=B) hA hB hd H
   unfold kp kq;generalize yH A d (eN N)=a at *;generalize yH B d (eN N)=b at *;generalize yH A B (eN N)=n at *;have D:0< -(c*h):=by
    rcases(show 0<c\/c<0 by grind) with h1|h1<;>rcases(show 0<h\/h<0 by grind) with h2|h2
    · exact absurd (.inl ⟨h1,h2⟩) hs
    · have:=vC h1 (show 0< -h by grind);grind
    · have:=vC (show 0< -c by grind) h2;grind
    · exact absurd (.inr ⟨h1,h2⟩) hs
   have C:0<c*c:=by
    have:=zSK c;have:c*c≠0:=λe=>(zoe.1 e).elim hc hc;grind
   have U:c*c*n= -(c*h)*(b-a):=by grind
   rw[zae,zae]
   · rintro⟨⟨h1,h2⟩,h3,J⟩
     have O:=vC C J;have M:=zod (zee D) (show 0<=a-b by grind);grind
   · rintro⟨⟨h1,h2⟩,h3,J⟩
     have O:=vC C (show 0< -n by grind);have M:=zod (zee D) (show 0<=b-a by grind);grind
theorem yB8(hw:wnP s){p d:Pt}(hh:hnF s p f≠0)(hb:¬bdS s p d f):crE s p d f=kE d (eN (xJ s f)) (edS s p f):=by
 have hN:=(hs f hf).1;have hE:=zHQ hs hf p;have Z:=zMB hs hf hh hb;obtain⟨nk,J,hz⟩:=zHS hN;unfold crE
 by_cases hk:skP s p d f
 · rw[zau hk]
   unfold skP at hk;rw[aJ] at hk;exact(zFA λx hx=>yFD hN (hE x hx).1 (hE x hx).2 I hk hh).symm
 · rw[zae hk]
   have H:whF s f (pW p d (hnF s p f/cnF s d f))≠0:=λe=>hb ⟨hk,e⟩;have D:=zSD hw hf H;have C:(0<cnF s d f/\0<hnF s p f)\/(cnF s d f<0/\hnF s p f<0):=zdi λe=>hk (by unfold skP;rw[aJ];exact e);have hc:cnF s d f≠0:=λe=>by rw[e] at C;rcases C with h|h<;>exact absurd h.1 zow
   have htc:hnF s p f/cnF s d f*cnF s d f=hnF s p f:=by generalize cnF s d f=c at *;grind
   have ht:0<hnF s p f/cnF s d f:=by
    refine Rat.not_le.1 λe=>?_
    rcases C with h|h
    · have:=zod (show 0<= -(hnF s p f/cnF s d f) by grind) (zee h.1);grind
    · have:=zod (show 0<= -(hnF s p f/cnF s d f) by grind) (show 0<= -cnF s d f by grind);grind
   obtain⟨U,O⟩:=zFH hN (c:=cnF s d f) I ht htc hc (xR s f) _ hE;have M:wnF (xR s f) (pr (uC p (scT (hnF s p f/cnF s d f) d)) (axI (xJ s f)) (axJ (xJ s f))) (axI (xJ s f)) (axJ (xJ s f)) (xR s f).length=if whF s f (pW p d (hnF s p f/cnF s d f))=1 then 1 else 0:=D
   rcases C with h|h
   · rw[<-show _=kE d (eN (xJ s f)) (edS s p f) from U h.1,M,zau h.1]
   · have h0:¬0<cnF s d f:=λe=>absurd (show(0:Rat)<0 by grind) zow
     have h3:=(zDJ hN (dR p (xR s f) _) hE hh Z hc J J hz hz).2;rw[show kE (eN (xJ s f)) d (oB p (xR s f) (xR s f).length)=_ from(O h.1).symm,M] at h3
     show _=kE d (eN (xJ s f)) (oB p (xR s f) (xR s f).length)
     rw[zae h0]
     by_cases e:whF s f (pW p d (hnF s p f/cnF s d f))=1
     · rw[zau e] at h3 ⊢
       have h4:(1:Int)= -kE d (eN (xJ s f)) (oB p (xR s f) (xR s f).length):=h3;omega
     · rw[zae e] at h3 ⊢
       have h4:(0:Int)= -kE d (eN (xJ s f)) (oB p (xR s f) (xR s f).length):=h3;omega
end
theorem kq_0{P:Rat->Prop}{a b m n:Rat}(h:¬(0<m/\n<0)/\¬(m<0/\0<n)):kq P a b m n=0:=by
 unfold kq;rw[zae λe=>h.1 e.2,zae λe=>h.2 e.2]
def tuT(N d G:Pt):Pt:=uC (scT (zM N d) G) (scT (-zM N G) d)
section
variable {N A B d G:Pt}(hN:N≠zT)(hA:zM N A=0)(hB:zM N B=0)
include hN hA hB
omit hN in
theorem zOS(x:Pt):zM N N*yH A B x=zM N x*yH A B N:=by
 have D:yH A B x=yH x A B:=by unfold yH zM yC;grind
 have C:yH A B N=yH N A B:=by unfold yH zM yC;grind
 rw[D,C];exact zMF hA hB
omit hN hB in
theorem yN8:zM N N*yH A d G=yH A N (tuT N d G):=by
 have:zM N N*yH A d G-yH A N (tuT N d G)=zM N A*yH N d G:=by
  unfold tuT yH zM yC uC scT;grind
 rw[hA] at this;grind
theorem yFH(h:¬(0<zM N d/\zM N G<0)/\¬(zM N d<0/\0<zM N G)):kp d G A B=0:=by
 have O:=zOS hA hB d;have M:=zOS hA hB G;have D:=zCD hN;unfold kp;generalize zM N N=n at *;generalize yH A B d=u at *;generalize yH A B G=v at *;generalize yH A B N=w at *;generalize zM N d=c at *;generalize zM N G=g at *;refine kq_0 ⟨λe=>?_,λe=>?_⟩
 · have J:=vC D e.1
   have H:=vC D (show 0< -v by grind)
   rcases(show w<=0\/0<=w by grind) with hw|hw
   · have hc:c<0:=Rat.not_le.1 λhc=>by have:=zod hc (show 0<= -w by grind);grind
     have C:0<g:=Rat.not_le.1 λC=>by have:=zod (show 0<= -g by grind) (show 0<= -w by grind);grind
     exact h.2 ⟨hc,C⟩
   · have hc:0<c:=Rat.not_le.1 λhc=>by have:=zod (show 0<= -c by grind) hw;grind
     have C:g<0:=Rat.not_le.1 λC=>by have:=zod C hw;grind
     exact h.1 ⟨hc,C⟩
 · have J:=vC D (show 0< -u by grind)
   have H:=vC D e.2
   rcases(show w<=0\/0<=w by grind) with hw|hw
   · have hc:0<c:=Rat.not_le.1 λhc=>by have:=zod (show 0<= -c by grind) (show 0<= -w by grind);grind
     have C:g<0:=Rat.not_le.1 λC=>by have:=zod C (show 0<= -w by grind);grind
     exact h.1 ⟨hc,C⟩
   · have hc:c<0:=Rat.not_le.1 λhc=>by have:=zod hc hw;grind
     have C:0<g:=Rat.not_le.1 λC=>by have:=zod (show 0<= -g by grind) hw;grind
     exact h.2 ⟨hc,C⟩
theorem yA6:(0<zM N d/\zM N G<0->kp d G A B=kp N (tuT N d G) (uC A N) (uC B N))/\(zM N d<0/\0<zM N G->kp d G A B=kp (scT (-1) (tuT N d G)) N (uC A N) (uC B N)):=by
 have m1:=zOS hA hB d;have m2:=zOS hA hB G;have a1:=yN8 (d:=d) (G:=G) hA;have b1:=yN8 (d:=d) (G:=G) hB;have hn:=zCD hN;have hr:zM N (tuT N d G)=0:=by unfold tuT zM uC scT;grind
 have U:=zOS hA hB (tuT N d G);rw[hr,y2i] at U;have C:yH A B (tuT N d G)=0:=(zoe.1 U).resolve_left (sV hN);generalize aa:tuT N d G=r at *;have a2:yH (uC A N) N r=yH A N r:=by unfold yH zM yC uC;grind
 have b2:yH (uC B N) N r=yH B N r:=by unfold yH zM yC uC;grind
 have a3:yH (uC A N) (scT (-1) r) N=yH A N r:=by unfold yH zM yC uC scT;grind
 have b3:yH (uC B N) (scT (-1) r) N=yH B N r:=by unfold yH zM yC uC scT;grind
 have s1:yH (uC A N) (uC B N) N=yH A B N:=by unfold yH zM yC uC;grind
 have s2:yH (uC A N) (uC B N) r=yH A B r+yH A N r-yH B N r:=by unfold yH zM yC uC;grind
 have s3:yH (uC A N) (uC B N) (scT (-1) r)= -yH A B r-yH A N r+yH B N r:=by unfold yH zM yC uC scT;grind
 unfold kp;rw[a2,b2,a3,b3,s1,s2,s3,C,<-a1,<-b1];generalize zM N N=n at *;generalize yH A B d=u at *;generalize yH A B G=v at *;generalize yH A B N=w at *;generalize zM N d=c at *;generalize zM N G=g at *;generalize yH A d G=a at *;generalize yH B d G=b at *;have sg:∀x:Rat,0<n*x↔0<x:=λx=>uN hn;have f1:=sg u;have f2:=sg (-v);have f3:=sg (-u);have f4:=sg v;have f5:=sg a;have f6:=sg b;have f7:=sg (b-a);have f8:=sg (a-b);constructor
 · rintro⟨hc,D⟩
   have Z:=uN (y:=w) hc;have g2:=uN (y:=w) (show 0< -g by grind);have g3:=uN (y:=-w) hc;have g4:=uN (y:=-w) (show 0< -g by grind);have O:0<u↔0<w:=by rw[<-f1,m1,Z]
   have M:v<0↔0<w:=by constructor<;>intro h<;>grind
   have J:u<0↔w<0:=by constructor<;>intro h<;>grind
   have H:0<v↔w<0:=by constructor<;>intro h<;>grind
   unfold kq;simp only[f5,f6,O,M,J,H]
   by_cases c1:¬0<a/\0<b
   · have c2:¬(0<a/\¬0<b):=λe=>c1.1 e.1
     by_cases hw:0<w
     · rw[zau ⟨c1,hw,hw⟩,zau ⟨c1,hw,by grind⟩]
     · rw[zae λe=>hw e.2.1,zae λe=>c2 e.1,zae λe=>hw e.2.1,zae λe=>c2 e.1]
   · by_cases c2:0<a/\¬0<b
     · by_cases hw:w<0
       · rw[zae λe=>c1 e.1,zau ⟨c2,hw,hw⟩,zae λe=>c1 e.1,zau ⟨c2,hw,by grind⟩]
       · rw[zae λe=>c1 e.1,zae λe=>hw e.2.1,zae λe=>c1 e.1,zae λe=>hw e.2.1]
     · rw[zae λe=>c1 e.1,zae λe=>c2 e.1,zae λe=>c1 e.1,zae λe=>c2 e.1]
 · rintro⟨hc,D⟩
   have Z:=uN (y:=w) D;have g2:=uN (y:=w) (show 0< -c by grind);have g3:=uN (y:=-w) D;have g4:=uN (y:=-w) (show 0< -c by grind);have O:0<u↔w<0:=by constructor<;>intro h<;>grind
   have M:v<0↔w<0:=by constructor<;>intro h<;>grind
   have J:u<0↔0<w:=by constructor<;>intro h<;>grind
   have H:0<v↔0<w:=by constructor<;>intro h<;>grind
   unfold kq;simp only[f5,f6,O,M,J,H]
   by_cases c1:¬0<a/\0<b
   · have c2:¬(0<a/\¬0<b):=λe=>c1.1 e.1
     by_cases hw:w<0
     · rw[zau ⟨c1,hw,hw⟩,zau ⟨c1,by grind,hw⟩]
     · rw[zae λe=>hw e.2.1,zae λe=>c2 e.1,zae λe=>hw e.2.2,zae λe=>c2 e.1]
   · by_cases c2:0<a/\¬0<b
     · by_cases hw:0<w
       · rw[zae λe=>c1 e.1,zau ⟨c2,hw,hw⟩,zae λe=>c1 e.1,zau ⟨c2,by grind,hw⟩]
       · rw[zae λe=>c1 e.1,zae λe=>hw e.2.1,zae λe=>c1 e.1,zae λe=>hw e.2.2]
     · rw[zae λe=>c1 e.1,zae λe=>c2 e.1,zae λe=>c1 e.1,zae λe=>c2 e.1]
end
theorem zT1(p N:Pt)(L:List (List Pt)):∀n,(oB p L n).map (λx=>(uC x.1 N,uC x.2 N))=oB (yZ p N) L n
  |0=>rfl
  |n+1=>by
   have ha:∀A:Pt,uC (yZ A p) N=yZ A (yZ p N):=λA=>by
    unfold uC yZ;rw[kJ];exact⟨by grind,by grind,by grind⟩
   have hX:∀l m,(mH p l m).map (λx=>(uC x.1 N,uC x.2 N))=mH (yZ p N) l m:=λl m=>by
    induction m with
    |zero=>rfl
    |succ m ih=>
     show(mH p l m++[_]).map _=mH (yZ p N) l m++[_]
     rw[znu,ih]
     show _++[(uC (yZ (gp l m) p) N,uC (yZ (gp l ((m+1)%l.length)) p) N)]=_
     rw[ha,ha]
   show(oB p L n++mH p _ _).map _=oB (yZ p N) L n++mH (yZ p N) _ _
   rw[znu,zT1 p N L n,hX]
section
variable {s:Sd}{f:Nat}(hs:zTU s)(hw:wnP s)(hf:f<s.2.1.length)
include hs hw hf
theorem yN3{p d G:Pt}(hh:hnF s p f=0)(hp:whF s f p≠0/\whF s f p≠1)(hG:zM (xJ s f) G≠0)(hr:tuT (xJ s f) d G≠zT):kE d G (edS s p f)=0:=by
 have hN:=(hs f hf).1;have hE:=zHQ hs hf p;rw[hh] at hE;obtain⟨nk,he,hz⟩:=zHS hN;have H:=sV hN
 by_cases ho:(0<zM (xJ s f) d/\zM (xJ s f) G<0)\/(zM (xJ s f) d<0/\0<zM (xJ s f) G)
 · -- seen from a point behind the face
   have D:=zHQ hs hf (yZ p (xJ s f));have C:hnF s (yZ p (xJ s f)) f=zM (xJ s f) (xJ s f):=by
    have:hnF s (yZ p (xJ s f)) f=hnF s p f+zM (xJ s f) (xJ s f):=by unfold hnF zM yZ;grind
    rw[this,hh];grind
   have hb:uC (yZ p (xJ s f)) (scT 1 (xJ s f))=p:=by
    unfold uC yZ scT;rw[kJ];exact⟨by grind,by grind,by grind⟩
   have hm:iC (edS s (yZ p (xJ s f)) f) (xJ s f):=λx hx ad=>by
    obtain⟨sx,l,h0,h1,hl,e⟩:=ad;have Z:=D x hx;have:=zbi (zM (xJ s f)) e;rw[zMD,zHT,Z.1,Z.2,C] at this;have l1:l=1:=by
     generalize zM (xJ s f) (xJ s f)=n at *;have:n*(l-1)=0:=by grind
     have:=(zoe.1 this).resolve_left H;grind
    have U:=zDY hx h0 h1 e;rw[l1,hb] at U;exact hp.1 U
   have J:=zSD hw hf hp.1;rw[zae hp.2] at J;have w1:=(zFH hN (p:=yZ p (xJ s f)) (d:=xJ s f) (c:=zM (xJ s f) (xJ s f)) (t:=1) I zow (h:=hnF s (yZ p (xJ s f)) f) (by rw[C];grind) H (xR s f) _ D).1 (zCD hN);rw[hb] at w1;have k0:kE (xJ s f) (eN (xJ s f)) (edS s (yZ p (xJ s f)) f)=0:=w1.symm.trans J;have M:zM (xJ s f) (tuT (xJ s f) d G)=0:=by unfold tuT zM uC scT;grind
   have O:zCH (edS s (yZ p (xJ s f)) f):=dR (yZ p (xJ s f)) (xR s f) (xR s f).length;have aa:edS s (yZ p (xJ s f)) f=(edS s p f).map λx=>(uC x.1 (xJ s f),uC x.2 (xJ s f)):=(zT1 p (xJ s f) (xR s f) _).symm
   rcases ho with h|h
   · rw[zHD (d':=xJ s f) (e':=tuT (xJ s f) d G) (m:=λX=>uC X (xJ s f)) λx hx=>(yA6 hN (hE x hx).1 (hE x hx).2).1 h,<-aa]
     rw[<-(zDJ hN O D (by rw[C];exact H) hm H he M hz hr).1];exact k0
   · have ac:zM (xJ s f) (scT (-1) (tuT (xJ s f) d G))=0:=by rw[zHT,M];grind
     have ab:scT (-1) (tuT (xJ s f) d G)≠zT:=λe=>hr (by
      generalize tuT (xJ s f) d G=r at *;unfold scT at e;rw[kJ] at e ⊢;obtain⟨e1,e2,e3⟩:=e;have z:(zT:Pt).x=0/\(zT:Pt).y=0/\(zT:Pt).z=0:=⟨I,I,I⟩;simp only at e1 e2 e3;exact⟨by grind,by grind,by grind⟩)
     rw[zHD (d':=scT (-1) (tuT (xJ s f) d G)) (e':=xJ s f) (m:=λX=>uC X (xJ s f)) λx hx=>(yA6 hN (hE x hx).1 (hE x hx).2).2 h,<-aa];have:=(zDJ hN O D (by rw[C];exact H) hm H he ac hz ab).2;rw[show kE (xJ s f) (eN (s.2.1.getD f zA).1.1) (edS s (yZ p (xJ s f)) f)=0 from k0] at this;exact this.trans zow
 · exact zFA λx hx=>yFH hN (hE x hx).1 (hE x hx).2 ⟨λe=>ho (.inl e),λe=>ho (.inr e)⟩
theorem zWN{p d G:Pt}(ho:¬onP s p f)(hd:¬bdS s p d f)(hg:¬bdS s p G f)(hG:cnF s G f≠0)(hr:tuT (xJ s f) d G≠zT):kE d G (edS s p f)=crE s p d f-crE s p G f:=by
 have hN:=(hs f hf).1;obtain⟨Z,U,hz⟩:=zHS hN
 by_cases hh:hnF s p f=0
 · have C:∀x,skP s p x f:=λx=>by unfold skP;rw[hh,show yX 0=0 from zau I,yuu];exact Int.le_refl 0
   have J:∀x,crE s p x f=0:=λx=>zau (C x);rw[J,J];have D:sdZ (s.2.1.getD f zA).1 p=0:=by
    unfold sdZ hgt;have:zM (s.2.1.getD f zA).1.1 p-(s.2.1.getD f zA).1.2=0:=by unfold hnF at hh;grind
    rw[this];exact zau I
   have M:¬0<=whF s f p:=λe=>ho ⟨D,e⟩;exact yN3 hs hw hf hh ⟨by omega,by omega⟩ hG hr
 · have O:=zMB hs hf hh hd
   have H:=zMB hs hf hh hg;rw[yB8 hs hf hw hh hd,yB8 hs hf hw hh hg];exact yFE hN (dR p (xR s f) _) (zHQ hs hf p) hh O H hG hr U hz
end
abbrev QI:=Int×Int
def nF(κ:Int->Int->Int):List QI->Int
  |[]=>0
  |x::r=>κ x.1 x.2+nF κ r
theorem zI5{κ:Int->Int->Int}{a b:List QI}(h:a.Perm b):nF κ a=nF κ b:=by
 induction h with
 |nil=>rfl
 |cons x _ ih=>show κ x.1 x.2+_=κ x.1 x.2+_;rw[ih]
 |swap x y l=>show κ y.1 y.2+(κ x.1 x.2+_)=κ x.1 x.2+(κ y.1 y.2+_);omega
 |trans _ _ h1 h2=>exact h1.trans h2
theorem nJ(κ:Int->Int->Int):∀a b:List QI,nF κ (a++b)=nF κ a+nF κ b
  |[],b=>by show _=0+_;rw[ywi];rfl
  |x::r,b=>by
   show κ x.1 x.2+nF κ (r++b)=κ x.1 x.2+nF κ r+_
   rw[nJ κ r b];omega
def swQ(x:QI):QI:=(x.2,x.1)
theorem zCS{κ:Int->Int->Int}(h:∀a b,κ b a= -κ a b):∀l:List QI,nF κ (l.map swQ)= -nF κ l
  |[]=>rfl
  |x::r=>by
   show κ x.2 x.1+nF κ (r.map swQ)= -(κ x.1 x.2+nF κ r)
   rw[zCS h r,h];omega
theorem zHX(a b:Int):∀l:List QI,(l.map swQ).count (a,b)=l.count (b,a)
  |[]=>rfl
  |x::r=>by
   rw[zue,List.count_cons,List.count_cons,zHX a b r];have e:(swQ x==(a,b))=(x==(b,a)):=by
    obtain⟨u,v⟩:=x;unfold swQ;rw[yei,beq_iff_eq,beq_iff_eq,Prod.mk.injEq,Prod.mk.injEq];exact And.comm
   rw[e]
theorem zUS{κ:Int->Int->Int}(h:∀a b,κ b a= -κ a b){l:List QI}(hl:∀a b,l.count (a,b)<=l.count (b,a)):nF κ l=0:=by
 have C:l.Perm (l.map swQ):=List.perm_iff_count.2 λx=>by
  obtain⟨a,b⟩:=x;rw[zHX];exact Nat.le_antisymm (hl a b) (hl b a)
 have h1:=zI5 (κ:=κ) C;rw[zCS h] at h1;omega
def lI(e:E5):QI:=(e.1,e.2.1)
theorem zMY(E:List E5)(a b:Int):∀m,m<=E.length->iO E a b m=(((E.map lI).take m).count (a,b):Nat)
  |0,_=>rfl
  |m+1,h=>by
   have ih:=zMY E a b m zot;have hm:m<(E.map lI).length:=by rw[zde];omega
   rw[zuu hm,List.count_append];have e:(E.map lI)[m]=lI (E.getD m e0):=by
    rw[List.getElem_map,zoa,zoc zot];rfl
   rw[e];have hc:List.count (a,b) [lI (E.getD m e0)]=if zO4 (E.getD m e0) a b then 1 else 0:=by
    rw[List.count_cons,List.count_nil]
    by_cases h:zO4 (E.getD m e0) a b
    · rw[zau h,zau (by rw[beq_iff_eq];exact Prod.ext h.1 h.2)]
    · rw[zae h,zae (by rw[beq_iff_eq];exactλe=>h ⟨zbi Prod.fst e,zbi Prod.snd e⟩)]
   rw[hc]
   show(if zO4 (E.getD m e0) a b then iO E a b m+1 else iO E a b m)=_
   by_cases h:zO4 (E.getD m e0) a b
   · rw[zau h,zau h,ih];omega
   · rw[zae h,zae h,ih];omega
theorem zUW{s:Sd}(h:kC s)(a b:Int):((edZ (wZ s)).map lI).count (a,b)<=((edZ (wZ s)).map lI).count (b,a):=by
 have hc:=(dX h).2.2.2.2;generalize hE:edZ (wZ s)=E at *;have hx:∀i,i<E.length->¬yFS E i:=by
  unfold clZ at hc
  split at hc
  · rw[hE] at hc
    exact(oQ _).1 hc
  · exact absurd hc zo2
 have ht:∀a b,tmZ E a b=((E.map lI).count (a,b):Nat):=λa b=>by
  unfold tmZ;rw[zMY E a b _ (zbe _),zxe (by rw[zde];exact zbe _)]
 rcases yhi ((E.map lI).count (a,b)) with h0|h0
 · omega
 · have D:=List.count_pos_iff.1 h0
   obtain⟨x,C,e⟩:=zle.1 D;obtain⟨i,hi,rfl⟩:=yve.1 C;have h1:=hx i hi;unfold yFS at h1;have H:E.getD i ((0:Int),(0:Int),(0:Int),(0:Int),(0:Int))=E[i]:=by rw[zoa,zoc hi];rfl
   rw[H,show E[i].1=a from zbi Prod.fst e,show E[i].2.1=b from zbi Prod.snd e,ht,ht] at h1;omega
def kIS(s:Sd)(p d G:Pt)(a b:Int):Int:=kp d G (yZ (ptI s.1 a) p) (yZ (ptI s.1 b) p)
theorem zTI(d e A B:Pt):kp d e B A= -kp d e A B:=by
 have C:∀x,yH B A x= -yH A B x:=λx=>by unfold yH zM yC;grind
 unfold kp;rw[C,C];generalize yH A d e=a;generalize yH B d e=b;generalize yH A B d=m;generalize yH A B e=n;unfold kq
 by_cases c1:(¬0<a/\0<b)/\(0<m/\n<0)
 · rw[zau c1,zae (λe=>by have:=e.1.1 c1.1.2;exact this),zau ⟨⟨c1.1.2,c1.1.1⟩,by grind,by grind⟩]
 · by_cases c2:(0<a/\¬0<b)/\(m<0/\0<n)
   · rw[zae c1,zau c2,zau ⟨⟨c2.1.2,c2.1.1⟩,by grind,by grind⟩];rfl
   · rw[zae c1,zae c2,zae (λe=>c2 ⟨⟨e.1.2,e.1.1⟩,by grind,by grind⟩),zae (λe=>c1 ⟨⟨e.1.2,e.1.1⟩,by grind,by grind⟩)];rfl
section
variable {s:Sd}(h:kC s)(p d G:Pt)
include h
theorem zLW{f:Nat}(hf:f<s.2.1.length):kE d G (edS s p f)=nF (kIS s p d G) ((edL (s.2.1.getD f zA).2.1 f (s.2.1.getD f zA).2.1.length).map lI):=by
 obtain⟨c1,c2⟩:=zHV hf (s9 h hf).2;unfold edS;rw[c1];have hl:∀n,n<=(s.2.1.getD f zA).2.1.length->kE d G (oB p (xR s f) n)=nF (kIS s p d G) ((edL (s.2.1.getD f zA).2.1 f n).map lI):=by
  intro n
  induction n with
  |zero=>intro _;rfl
  |succ n ih=>
   intro hn;obtain⟨c3,c4⟩:=c2 n zot;have hk:∀k,k<=((s.2.1.getD f zA).2.1.getD n []).length->kE d G (mH p (gl (xR s f) n) k)=nF (kIS s p d G) ((edX ((s.2.1.getD f zA).2.1.getD n []) f n k).map lI):=by
    intro k
    induction k with
    |zero=>intro _;rfl
    |succ k ihk=>
     intro hk
     show kE d G (mH p (gl (xR s f) n) k++[_])=nF _ ((edX _ f n k++[_]).map lI)
     rw[bF,znu,nJ,ihk zot]
     show _+(kp d G (yZ (gp (gl (xR s f) n) k) p) (yZ (gp (gl (xR s f) n) ((k+1)%(gl (xR s f) n).length)) p)+0)=_+(kIS s p d G _ _+0)
     rw[c3,c4 k zot,c4 _ (zcu _ zot)];rfl
   show kE d G (oB p (xR s f) n++mH p (gl (xR s f) n) (gl (xR s f) n).length)=nF _ ((edL _ f n++edX _ f n _).map lI)
   rw[bF,znu,nJ,ih zot,c3,hk _ (zbe _)]
 exact hl _ (zbe _)
def kES(s:Sd)(p d G:Pt):Nat->Int
  |0=>0
  |n+1=>kES s p d G n+kE d G (edS s p n)
theorem yAW:kES s p d G s.2.1.length=0:=by
 have hn:∀n,n<=s.2.1.length->kES s p d G n=nF (kIS s p d G) ((edF (wZ s) n).map lI):=by
  intro n
  induction n with
  |zero=>intro _;rfl
  |succ n ih=>
   intro hn
   show kES s p d G n+kE d G (edS s p n)=nF _ ((edF (wZ s) n++edL ((wZ s).getD n []) n ((wZ s).getD n []).length).map lI)
   rw[znu,nJ,ih zot,zLW h p d G zot,aW zot]
 rw[hn _ (zbe _)];have:=zUS (κ:=kIS s p d G) (λa b=>zTI d G _ _) (zUW h);unfold edZ at this;rw[tX] at this;exact this
end
theorem vk_3{n:Pt}(hn:n≠zT){i j k:Nat}(h1:i≠j)(h2:i≠k)(h3:j≠k)(hi:zM n (vK i)=0)(hj:zM n (vK j)=0)(hk:zM n (vK k)=0):False:=by
 have e:∀m:Nat,zM n (vK m)=n.x+n.y*((m:Int):Rat)+n.z*(((m:Int):Rat)*((m:Int):Rat)):=λm=>by
  unfold zM vK;simp only[zpu];have:((1:Int):Rat)=1:=I;rw[this];grind
 have C:∀a b:Nat,a≠b->((a:Int):Rat)-((b:Int):Rat)≠0:=λa b h e=>h (by
  have:=zqu.1 (show((a:Int):Rat)=((b:Int):Rat) by grind);omega)
 rw[e] at hi hj hk;have J:=C i j h1;have H:=C i k h2;have D:=C j k h3;generalize ((i:Int):Rat)=x at *;generalize ((j:Int):Rat)=y at *;generalize ((k:Int):Rat)=z at *;have U:(x-y)*(n.y+n.z*(x+y))=0:=by grind
 have O:(x-z)*(n.y+n.z*(x+z))=0:=by grind
 have m1:=(zoe.1 U).resolve_left J;have Z:=(zoe.1 O).resolve_left H;have g3:n.z*(y-z)=0:=by grind
 have M:=(zoe.1 g3).resolve_right D;exact hn (by rw[kJ];exact⟨show n.x=0 by grind,show n.y=0 by grind,M⟩)
theorem zXC{d:Pt}(hd:d≠zT){i j:Nat}(h:i≠j)(hi:yC d (vK i)=zT)(hj:yC d (vK j)=zT):False:=by
 have H:=zbi T3.z hi;have D:=zbi T3.z hj;have J:=zbi T3.y hi;have o:((1:Int):Rat)=1:=I;have U:d.x*((i:Int):Rat)-d.y*1=0:=H;have Z:d.x*((j:Int):Rat)-d.y*1=0:=D;have O:d.z*1-d.x*(((i:Int)*(i:Int):Int):Rat)=0:=J;have M:((i:Int):Rat)-((j:Int):Rat)≠0:=λe=>h (by
  have:=zqu.1 (show((i:Int):Rat)=((j:Int):Rat) by grind);omega)
 have g:d.x*(((i:Int):Rat)-((j:Int):Rat))=0:=by grind
 have C:=(zoe.1 g).resolve_right M;exact hd (by
  rw[kJ];rw[C] at U O;exact⟨C,show d.y=0 by grind,show d.z=0 by grind⟩)
theorem yBE{s:Sd}(h:kC s)(p:Pt){d d0:Pt}(hd:d≠zT)(hd0:d0≠zT):∃k:Nat,zH2 s p (vK k)/\(∀f,f<s.2.1.length->cnF s (vK k) f≠0)/\yC d (vK k)≠zT/\yC d0 (vK k)≠zT:=by
 have M:=sG h;have H:=bR h;obtain⟨k,hk,D⟩:=zQJ (λ(q:Nat->Prop) (k:Nat)=>q k) ((sfE s s.2.1.length).map (λ(e:PIr) (k:Nat)=>nG p (ptI s.1 e.1) (ptI s.1 e.2) (vK k))++((List.range s.2.1.length).map (λ(f k:Nat)=>cnF s (vK k) f=0)++[λk:Nat=>yC d (vK k)=zT,λk:Nat=>yC d0 (vK k)=zT])) (List.range (2*((sfE s s.2.1.length).map (λ(e:PIr) (k:Nat)=>nG p (ptI s.1 e.1) (ptI s.1 e.2) (vK k))++((List.range s.2.1.length).map (λ(f k:Nat)=>cnF s (vK k) f=0)++[λk:Nat=>yC d (vK k)=zT,λk:Nat=>yC d0 (vK k)=zT])).length+1)) List.nodup_range (by rw[yju];omega) λq C i j k h1 h2 h3 a b c=>by
  rw[zli,zli] at C
  rcases C with C|C|C
  · obtain⟨e,J,rfl⟩:=zle.1 C
    exact yG3 (yGQ J) h1 h2 h3 a b c
  · obtain⟨f,hf,rfl⟩:=zle.1 C
    exact vk_3 (H f (zog.1 hf)).1 h1 h2 h3 a b c
  · simp only[zfu,zgu,or_false] at C
    rcases C with rfl|rfl
    · exact zXC hd h1 a b
    · exact zXC hd0 h1 a b
 refine⟨k,(zMJ M p _).2 λe J=>?_,λf hf=>?_,?_,?_⟩
 · exact D _ (zqe _ (zle.2 ⟨e,J,I⟩))
 · exact D _ (zve _ (zqe _ (zle.2 ⟨f,zog.2 hf,I⟩)))
 · exact D _ (zve _ (zve _ (.head _)))
 · exact D _ (zve _ (zve _ (.tail _ (.head _))))
theorem yM7{N d G:Pt}(hG:zM N G≠0)(hp:yC d G≠zT):tuT N d G≠zT:=λe=>hp (by
 unfold tuT uC scT at e;rw[kJ] at e;obtain⟨e1,e2,e3⟩:=e;have z:(zT:Pt).x=0/\(zT:Pt).y=0/\(zT:Pt).z=0:=⟨rfl,rfl,rfl⟩;simp only at e1 e2 e3;generalize zM N G=g at *;generalize zM N d=c at *;have core:∀x:Rat,g*x=0->x=0:=λx e=>(zoe.1 e).resolve_left hG;unfold yC;rw[kJ];exact⟨core _ (by simp only;grind),core _ (by simp only;grind),core _ (by simp only;grind)⟩)
theorem zIV{s:Sd}(h:kC s)(hw:wnP s){p d d0:Pt}(ho:¬onB s p)(hd:d≠zT)(hb:nbS s p d)(hd0:d0≠zT)(hb0:nbS s p d0):crS s p d s.2.1.length=crS s p d0 s.2.1.length:=by
 obtain⟨k,hk,hc,h1,h2⟩:=yBE h p hd hd0;have hbk:=zBS h hk;have key:∀x:Pt,yC x (vK k)≠zT->nbS s p x->crS s p x s.2.1.length=crS s p (vK k) s.2.1.length:=λx hx hbx=>by
  have hn:∀n,n<=s.2.1.length->kES s p x (vK k) n=crS s p x n-crS s p (vK k) n:=by
   intro n
   induction n with
   |zero=>intro _;rfl
   |succ n ih=>
    intro hn
    show kES s p x (vK k) n+kE x (vK k) (edS s p n)=crS s p x n+crE s p x n-(crS s p (vK k) n+crE s p (vK k) n)
    rw[ih zot,zWN (bR h) hw (show n<s.2.1.length by omega) (λe=>ho ⟨n,by omega,e⟩) (hbx n zot) (hbk n zot) (hc n zot) (yM7 (hc n zot) hx)];omega
  have:=hn _ (zbe _);rw[yAW h] at this;omega
 rw[key d h1 hb,key d0 h2 hb0]
def cI(u:PI):P2:=((u.1:Rat),(u.2:Rat))
abbrev BE:=PI×PI×Int
def fBE(e:BE)(y:Int):Int:=e.1.1*(e.2.1.2-e.1.2)+(e.2.1.1-e.1.1)*(y-e.1.2)
def hBE(e:BE):Int:=e.2.1.2-e.1.2
def yAO(k:Int)(a b:BE):Bool:=decide (fBE a k*hBE b<=fBE b k*hBE a)&&decide (fBE a (k+1)*hBE b<=fBE b (k+1)*hBE a)
def mdBE(k:Int)(a b:BE):Bool:=decide ((fBE a k+fBE a (k+1))*hBE b<=(fBE b k+fBE b (k+1))*hBE a)
def zTK(k:Int)(e:BE):List BE->List BE
  |[]=>[e]
  |x::r=>if mdBE k e x then e::x::r else x::zTK k e r
def zXT(k:Int):List BE->List BE
  |[]=>[]
  |x::r=>zTK k x (zXT k r)
def lZ(k:Int):List (PI×PI)->List BE
  |[]=>[]
  |x::r=>if x.1.2<=k/\k<x.2.2 then(x.1,x.2,1)::lZ k r else if x.2.2<=k/\k<x.1.2 then(x.2,x.1,-1)::lZ k r else lZ k r
def zPL(k:Int):List BE->Bool
  |[]=>true
  |[_]=>false
  |[a,b]=>decide (a.2.2= -1/\b.2.2=1)&&yAO k a b
  |a::b::c::r=>decide (a.2.2= -1/\b.2.2=1)&&yAO k a b&&yAO k b c&&zPL k (c::r)
def edI(S:List (List PI)):List (PI×PI):=S.flatMap λs=>(List.range s.length).map λm=>(gI s m,gI s ((m+1)%s.length))
def yMQ(lo n:Nat)(S:List (List PI)):Bool:=(edI S).all (λx=>decide (-(lo:Int)<=x.1.2/\x.1.2<=(n:Int))&&decide (-(lo:Int)<=x.2.2/\x.2.2<=(n:Int)))&&(List.range (lo+n)).all λ(k:Nat)=>zPL ((k:Int)-(lo:Int)) (zXT ((k:Int)-(lo:Int)) (lZ ((k:Int)-(lo:Int)) (edI S)))
def nK(q:P2):List (PI×PI)->Int
  |[]=>0
  |x::r=>c2Z (cI x.1) (cI x.2) q+nK q r
def cM(q:P2)(e:BE):Prop:=0<cr (cI e.1) (cI e.2.1) q
def zFT(q:P2):List BE->Int
  |[]=>0
  |e::r=>(if cM q e then e.2.2 else 0)+zFT q r
theorem yA9{a b:Int}:(a:Rat)<=(b:Rat)↔a<=b:=by rw[<-Rat.not_lt,z4u,Int.not_lt]
section
variable {q:P2}{k:Int}(hk:(k:Rat)<=q.2/\q.2<((k+1:Int):Rat))
include hk
theorem zEJ(a:Int):(a:Rat)<=q.2↔a<=k:=by
 constructor
 · intro h
   have h1:(a:Rat)<((k+1:Int):Rat):=by grind
   have:=z4u.1 h1;omega
 · intro h
   have:=yA9.2 h;grind
theorem zI6:∀E:List (PI×PI),nK q E=zFT q (lZ k E)
  |[]=>rfl
  |x::r=>by
   have ih:=zI6 r
   show c2Z (cI x.1) (cI x.2) q+nK q r=zFT q (lZ k (x::r))
   rw[ih];unfold c2Z uU orZ;have e1:(cI x.1).2<=q.2↔x.1.2<=k:=zEJ hk x.1.2;have e2:(cI x.2).2<=q.2↔x.2.2<=k:=zEJ hk x.2.2;have ec:cr (cI x.2) (cI x.1) q= -cr (cI x.1) (cI x.2) q:=by unfold cr;grind
   simp only[nM,jI];rw[show lZ k (x::r)=(if x.1.2<=k/\k<x.2.2 then(x.1,x.2,1)::lZ k r else if x.2.2<=k/\k<x.1.2 then(x.2,x.1,-1)::lZ k r else lZ k r) from I]
   by_cases c1:x.1.2<=k/\k<x.2.2
   · rw[zau c1]
     show _=(if cM q (x.1,x.2,1) then 1 else 0)+_
     have:cM q (x.1,x.2,1)↔0<cr (cI x.1) (cI x.2) q:=Iff.rfl;have J:¬(cI x.2).2<=q.2:=λe=>by have:=e2.1 e;omega
     have C:(cI x.1).2<=q.2:=e1.2 c1.1
     by_cases h:0<cr (cI x.1) (cI x.2) q
     · rw[zau (this.2 h),zau ⟨λe=>J (e.1 C),.inl ⟨C,h⟩⟩,zau C]
     · rw[zae λe=>h (this.1 e),zae λe=>e.2.elim (λe=>h e.2) (λe=>J e.1)]
   · rw[zae c1]
     by_cases c2:x.2.2<=k/\k<x.1.2
     · rw[zau c2]
       show _=(if cM q (x.2,x.1,-1) then -1 else 0)+_
       have:cM q (x.2,x.1,-1)↔cr (cI x.1) (cI x.2) q<0:=by
        show 0<cr (cI x.2) (cI x.1) q↔_
        rw[ec];constructor<;>intro h<;>grind
       have D:¬(cI x.1).2<=q.2:=λe=>by have:=e1.1 e;omega
       have H:(cI x.2).2<=q.2:=e2.2 c2.1
       by_cases h:cr (cI x.1) (cI x.2) q<0
       · rw[zau (this.2 h),zau ⟨λe=>D (e.2 H),.inr ⟨H,h⟩⟩,zae D]
       · rw[zae λe=>h (this.1 e),zae λe=>e.2.elim (λe=>D e.1) (λe=>h e.2)]
     · rw[zae c2,zae λe=>e.1 (by rw[e1,e2];omega),ywi]
omit hk in
theorem zFF:∀E:List (PI×PI),∀e,e∈lZ k E->e.1.2<=k/\k<e.2.1.2
  |[],_,h=>by cases h
  |x::r,e,h=>by
   unfold lZ at h
   split at h
   · rename_i c
     rcases zfu.1 h with rfl|h
     · exact c
     · exact zFF r e h
   · split at h
     · rename_i c
       rcases zfu.1 h with rfl|h
       · exact c
       · exact zFF r e h
     · exact zFF r e h
theorem w5{a b:BE}(ha:a.1.2<=k/\k<a.2.1.2)(hb:b.1.2<=k/\k<b.2.1.2)(h:yAO k a b=true)(hl:cM q a):cM q b:=by
 unfold yAO at h;rw[zbu,zgi,zgi] at h;have h1:=yA9.2 h.1;have h2:=yA9.2 h.2;have M:(0:Rat)<((hBE a:Int):Rat):=yiu.2 (by unfold hBE;omega);have J:(0:Rat)<((hBE b:Int):Rat):=yiu.2 (by unfold hBE;omega);have C:∀e:BE,cr (cI e.1) (cI e.2.1) q=((fBE e k:Int):Rat)+(q.2-(k:Rat))*(((fBE e (k+1):Int):Rat)-((fBE e k:Int):Rat))-((hBE e:Int):Rat)*q.1:=λe=>by
  unfold cr cI fBE hBE;simp only[zne,zwi,zpu];have:((1:Int):Rat)=1:=I;rw[this];grind
 unfold cM at *;rw[C] at hl ⊢;simp only[zpu] at h1 h2;have H:0<=q.2-(k:Rat):=by grind
 have D:0<=1-(q.2-(k:Rat)):=by
  have:=hk.2;simp only[zne] at this;have o:((1:Int):Rat)=1:=I;rw[o] at this;grind
 generalize ((hBE a:Int):Rat)=x at *;generalize ((hBE b:Int):Rat)=y at *;generalize ((fBE a k:Int):Rat)=a0 at *;generalize ((fBE a (k+1):Int):Rat)=a1 at *;generalize ((fBE b k:Int):Rat)=b0 at *;generalize ((fBE b (k+1):Int):Rat)=b1 at *;generalize q.2-(k:Rat)=t at *;have Z:=vC J hl;have U:=zod D (show 0<=b0*x-a0*y by grind);have O:=zod H (show 0<=b1*x-a1*y by grind);rw[<-uN M];grind
theorem zUL:∀{B:List BE},(∀e,e∈B->e.1.2<=k/\k<e.2.1.2)->zPL k B=true->(∀e,B.head?=some e->cM q e)->zFT q B=0
  |[],_,_,_=>rfl
  |[_],_,h,_=>Bool.noConfusion h
  |[a,b],hu,h,hh=>by
   unfold zPL at h;rw[zbu,zgi] at h;have la:=hh a rfl;have lb:=w5 hk (hu a zo2) (hu b zo2) h.2 la
   show(if cM q a then a.2.2 else 0)+((if cM q b then b.2.2 else 0)+0)=0
   rw[zau la,zau lb,h.1.1,h.1.2];rfl
  |a::b::c::r,hu,h,hh=>by
   unfold zPL at h;rw[zbu,zbu,zbu,zgi] at h;have la:=hh a rfl;have lb:=w5 hk (hu a zo2) (hu b zo2) h.1.1.2 la;have lc:=w5 hk (hu b zo2) (hu c zo2) h.1.2 lb;have ih:=zUL (B:=c::r) (λe he=>hu e (.tail _ (.tail _ he))) h.2 λe he=>by
    have:c=e:=by simpa using he
    exact this▸lc
   show(if cM q a then a.2.2 else 0)+((if cM q b then b.2.2 else 0)+zFT q (c::r))=0
   rw[zau la,zau lb,h.1.1.1.1,h.1.1.1.2,ih];rfl
theorem yC3:∀{B:List BE},(∀e,e∈B->e.1.2<=k/\k<e.2.1.2)->zPL k B=true->zFT q B=0\/zFT q B=1
  |[],_,_=>.inl rfl
  |[_],_,h=>Bool.noConfusion h
  |[a,b],hu,h=>by
   unfold zPL at h;rw[zbu,zgi] at h;have hl:=w5 hk (hu a zo2) (hu b zo2) h.2
   show(if cM q a then a.2.2 else 0)+((if cM q b then b.2.2 else 0)+0)=0\/(if cM q a then a.2.2 else 0)+((if cM q b then b.2.2 else 0)+0)=1
   rw[h.1.1,h.1.2]
   by_cases c1:cM q a
   · rw[zau c1,zau (hl c1)];exact .inl rfl
   · rw[zae c1]
     by_cases c2:cM q b
     · rw[zau c2];exact .inr rfl
     · rw[zae c2];exact .inl rfl
  |a::b::c::r,hu,h=>by
   unfold zPL at h;rw[zbu,zbu,zbu,zgi] at h;have hl:=w5 hk (hu a zo2) (hu b zo2) h.1.1.2;have hc:=w5 hk (hu b zo2) (hu c zo2) h.1.2
   show(if cM q a then a.2.2 else 0)+((if cM q b then b.2.2 else 0)+zFT q (c::r))=0\/(if cM q a then a.2.2 else 0)+((if cM q b then b.2.2 else 0)+zFT q (c::r))=1
   rw[h.1.1.1.1,h.1.1.1.2]
   by_cases c2:cM q b
   · have h0:=zUL hk (B:=c::r) (λe he=>hu e (.tail _ (.tail _ he))) h.2 λe he=>by
      have:c=e:=by simpa using he
      exact this▸hc c2
     rw[zau c2,h0]
     by_cases c1:cM q a
     · rw[zau c1];exact .inl I
     · rw[zae c1];exact .inr I
   · rw[zae c2,zae λe=>c2 (hl e)]
     have C:=yC3 (B:=c::r) (λe he=>hu e (.tail _ (.tail _ he))) h.2;omega
end
theorem zOQ(k:Int)(e:BE):∀l,(zTK k e l).Perm (e::l)
  |[]=>.refl _
  |x::r=>by
   unfold zTK
   split
   · exact .refl _
   · exact((zOQ k e r).cons x).trans (.swap e x r)
theorem zFU(k:Int):∀l,(zXT k l).Perm l
  |[]=>.refl _
  |x::r=>(zOQ k x _).trans ((zFU k r).cons x)
theorem zUT{q:P2}{a b:List BE}(h:a.Perm b):zFT q a=zFT q b:=by
 induction h with
 |nil=>rfl
 |cons x _ ih=>show _+_=_+_;rw[ih]
 |swap x y l=>show(if cM q y then y.2.2 else 0)+((if cM q x then x.2.2 else 0)+_)=(if cM q x then x.2.2 else 0)+((if cM q y then y.2.2 else 0)+_);omega
 |trans _ _ h1 h2=>exact h1.trans h2
theorem zUK{lo n:Nat}{S:List (List PI)}(h:yMQ lo n S=true)(q:P2):nK q (edI S)=0\/nK q (edI S)=1:=by
 unfold yMQ at h;rw[zbu] at h;have hk:((q.2.floor:Int):Rat)<=q.2/\q.2<((q.2.floor+1:Int):Rat):=⟨Rat.floor_le q.2,Rat.lt_floor_add_one q.2⟩;generalize q.2.floor=k at hk;rw[zI6 hk]
 by_cases hr:-(lo:Int)<=k/\k<n
 · have h1:=zob.1 h.2 (k+lo).toNat (zog.2 zot)
   rw[show(((k+(lo:Int)).toNat:Int)-(lo:Int))=k by omega] at h1;rw[<-zUT (zFU k _)];exact yC3 hk (λe he=>zFF (edI S) e ((zFU k _).mem_iff.1 he)) h1
 · have h0:lZ k (edI S)=[]:=by
    refine yti.2 λe he=>?_;have aux:∀E:List (PI×PI),(∀x,x∈E->(-(lo:Int)<=x.1.2/\x.1.2<=(n:Int))/\(-(lo:Int)<=x.2.2/\x.2.2<=(n:Int)))->lZ k E=[]:=by
     intro E
     induction E with
     |nil=>intro _;rfl
     |cons x r ih=>
      intro hE;have hx:=hE x (.head _);unfold lZ;rw[zae zot,zae zot];exact ih λy hy=>hE y (.tail _ hy)
    rw[aux _ λx hx=>by
     have:=zob.1 h.1 x hx;rw[zbu,zgi,zgi] at this;exact this] at he
    cases he
   rw[h0];exact .inl I
def zSA(I:SI):Bool:=I.2.all λf=>yMQ 0 4 (f.2.2.1.map (flI (cT f.1) I.1))
theorem yMO:bxC zSA=true:=by decide +kernel
theorem yMP:baC zSA=true:=by decide +kernel
theorem yMM:trC zSA=true:=by decide +kernel
theorem yMN:teC zSA=true:=by decide +kernel
theorem yFQ{I:SI}(h:zWM I):zSA I=true:=zL9 yMO yMP yMM yMN h
theorem zCT(q:P2):∀a b:List (PI×PI),nK q (a++b)=nK q a+nK q b
  |[],b=>by show _=0+_;rw[ywi];rfl
  |x::r,b=>by
   show c2Z (cI x.1) (cI x.2) q+nK q (r++b)=c2Z (cI x.1) (cI x.2) q+nK q r+_
   rw[zCT q r b];omega
theorem yG4(a:Nat×Nat)(P:List I3){x:List Int}{m:Nat}(h:m<x.length):gI (flI a P x) m=(aI3 (g3 P (x.getD m 0).toNat) a.1,aI3 (g3 P (x.getD m 0).toNat) a.2):=by
 unfold gI flI;exact kX (λk:Int=>(aI3 (g3 P k.toNat) a.1,aI3 (g3 P k.toNat) a.2)) 0 (0,0) h
theorem yGS(v u:I3)(i j:Nat):pr (cP v u) i j=((cI (aI3 u i,aI3 u j)).1+((aI3 v i:Int):Rat),(cI (aI3 u i,aI3 u j)).2+((aI3 v j:Int):Rat)):=by
 unfold pr cI;rw[zUC,zUC,zne,zne];refine Prod.ext ?_ ?_
 · show _+_=_+_;grind
 · show _+_=_+_;grind
section
variable {v:I3}{I:SI}{s:Sd}
theorem zW6(h:aL v I s)(hb:chI I=true){f:Nat}(hf:f<I.2.length)(q:Pt):∃q':P2,wnS s f q=nK q' (edI ((I.2.getD f fi0).2.2.1.map (flI (cT (I.2.getD f fi0).1) I.1))):=by
 obtain⟨c1,c2⟩:=zLN h hb hf;obtain⟨r,hr,hpl⟩:=zOE (h.2.2.2 f hf);have hax:=zRI (v:=v) (f:=I.2.getD f fi0) hr;rw[<-hpl] at hax;have hai:axI (xJ s f)=(cT (I.2.getD f fi0).1).1:=hax.1;have haj:axJ (xJ s f)=(cT (I.2.getD f fi0).1).2:=hax.2;refine⟨((pr q (cT (I.2.getD f fi0).1).1 (cT (I.2.getD f fi0).1).2).1-((aI3 v (cT (I.2.getD f fi0).1).1:Int):Rat),(pr q (cT (I.2.getD f fi0).1).1 (cT (I.2.getD f fi0).1).2).2-((aI3 v (cT (I.2.getD f fi0).1).2:Int):Rat)),?_⟩;unfold wnS;rw[hai,haj,c1];generalize hA:cT (I.2.getD f fi0).1=A at *;generalize hL:(I.2.getD f fi0).2.2.1=L at *;generalize hQ:pr q A.1 A.2=Q;have hq:Q=((Q.1-((aI3 v A.1:Int):Rat))+((aI3 v A.1:Int):Rat),(Q.2-((aI3 v A.2:Int):Rat))+((aI3 v A.2:Int):Rat)):=by
  refine Prod.ext ?_ ?_
  · show _=_-_+_;grind
  · show _=_-_+_;grind
 have hloop:∀l,l<L.length->∀m,m<=(L.getD l []).length->wnT (gl (xR s f) l) Q A.1 A.2 m=nK (Q.1-((aI3 v A.1:Int):Rat),Q.2-((aI3 v A.2:Int):Rat)) ((List.range m).map λm=>(gI (flI A I.1 (L.getD l [])) m,gI (flI A I.1 (L.getD l [])) ((m+1)%(flI A I.1 (L.getD l [])).length))):=by
  intro l hl m;obtain⟨c3,c4⟩:=c2 l hl;have hfl:(flI A I.1 (L.getD l [])).length=(L.getD l []).length:=zde _
  induction m with
  |zero=>intro _;rfl
  |succ m ih=>
   intro hm;rw[yui,znu,zCT,<-ih zot]
   show wnT (gl (xR s f) l) Q A.1 A.2 m+c2Z (pr (gp (gl (xR s f) l) m) A.1 A.2) (pr (gp (gl (xR s f) l) ((m+1)%(gl (xR s f) l).length)) A.1 A.2) Q=_+(c2Z (cI (gI (flI A I.1 (L.getD l [])) m)) (cI (gI (flI A I.1 (L.getD l [])) ((m+1)%(flI A I.1 (L.getD l [])).length))) _+0)
   have hmod:(m+1)%(L.getD l []).length<(L.getD l []).length:=zcu _ zot;rw[c3,hfl,yG4 A I.1 (show m<(L.getD l []).length by omega),yG4 A I.1 hmod,c4 m zot,c4 _ hmod,yGS,yGS,y3i]
   congr 1
   refine(zbi (c2Z _ _) hq).trans ?_;exact zPG (q:=(Q.1-((aI3 v A.1:Int):Rat),Q.2-((aI3 v A.2:Int):Rat))) (((aI3 v A.1:Int):Rat),((aI3 v A.2:Int):Rat))
 have hall:∀n,n<=L.length->wnF (xR s f) Q A.1 A.2 n=nK (Q.1-((aI3 v A.1:Int):Rat),Q.2-((aI3 v A.2:Int):Rat)) (edI ((L.take n).map (flI A I.1))):=by
  intro n
  induction n with
  |zero=>intro _;rfl
  |succ n ih=>
   intro hn;have hn':n<L.length:=by omega
   rw[zuu hn',znu];unfold edI;rw[List.flatMap_append,zCT]
   show wnF (xR s f) Q A.1 A.2 n+wnT (gl (xR s f) n) Q A.1 A.2 (gl (xR s f) n).length=_
   have e:=ih zot;unfold edI at e;rw[e]
   congr 1
   obtain⟨c3,c4⟩:=c2 n hn';have hg:L[n]=L.getD n []:=by rw[zoa,zoc hn'];rfl
   rw[c3,hloop n hn' _ (zbe _),hg]
   show _=nK _ (List.flatMap _ [flI A I.1 (L.getD n [])])
   rw[List.flatMap_cons,List.flatMap_nil,zqi];have hfl:(flI A I.1 (L.getD n [])).length=(L.getD n []).length:=zde _;rw[hfl]
 have:=hall _ (zbe _);rw[z6i] at this;exact this
end
theorem zPY{s:Sd}(h:zA5 s):wnP s:=by
 obtain⟨v,I,D,J,C⟩:=h;intro f hf q _;rw[C.2.2.1] at hf;obtain⟨H,e⟩:=zW6 C (zR0 D) hf q;rw[e];have h1:=zob.1 (yFQ D) _ (kR (d:=fi0) hf);exact zUK h1 H
section
variable {α β:Type}
theorem zS5(h:Nat->α):∀k,wO h (k+1)=h 0::wO (λm=>h (m+1)) k
  |0=>rfl
  |k+1=>by
   show wO h (k+1)++[h (k+1)]=h 0::(wO (λm=>h (m+1)) k++[h (k+1)])
   rw[zS5 h k];rfl
theorem zRE(g:Nat->α)(p:α->β):∀k,(wO g k).map p=wO (λm=>p (g m)) k
  |0=>rfl
  |k+1=>by
   show(wO g k++[g k]).map p=wO (λm=>p (g m)) k++[p (g k)]
   rw[znu,zRE g p k];rfl
theorem zZ4:∀(k:Nat) (g:Nat->α),(wO (λm=>g (k-1-m)) k).Perm (wO g k)
  |0,_=>.refl _
  |k+1,g=>by
   rw[zS5];have e:wO (λm=>g (k+1-1-(m+1))) k=wO (λm=>g (k-1-m)) k:=sQ _ λm _=>by
    show g _=g _
    rw[show k+1-1-(m+1)=k-1-m by omega]
   rw[e]
   show(g k::_).Perm (wO g k++[g k])
   exact((zZ4 k g).cons _).trans (List.perm_append_singleton _ _).symm
theorem zZ5{g:Nat->α}{m:Nat}:∀{n},m<n->g m∈wO g n
  |n+1,h=>by
   show g m∈wO g n++[g n]
   rcases zhu.1 h with h|rfl
   · exact zqe _ (zZ5 h)
   · exact zve _ (.head _)
theorem yBN{g:Nat->List α}{x:α}{m:Nat}:∀{n},m<n->x∈g m->x∈gM g n
  |n+1,h,hx=>by
   show x∈gM g n++g n
   rcases zhu.1 h with h|rfl
   · exact zqe _ (yBN h hx)
   · exact zve _ hx
end
def pxL(x:List Int):Nat->List QI:=wO λi=>(x.getD i 0,x.getD ((i+1)%x.length) 0)
theorem yGR(x:List Int)(f l n:Nat):(edX x f l n).map lI=pxL x n:=zRE _ _ _
theorem yJW(x:List Int):(pxL (iJ x x.length) (iJ x x.length).length).Perm ((pxL x x.length).map swQ):=by
 have D:(iJ x x.length).length=x.length:=yY _ _;have C:∀i,i<x.length->(iJ x x.length).getD i 0=x.getD (x.length-1-i) 0:=λi hi=>uO _ 0 hi;unfold pxL;rw[D,zRE];generalize iJ x x.length=y at D C
 rcases hn:x.length with _|k
 · exact .refl _
 rw[hn] at C
 show(wO (λi=>(y.getD i 0,y.getD ((i+1)%(k+1)) 0)) k++[(y.getD k 0,y.getD ((k+1)%(k+1)) 0)]).Perm (wO (λm=>swQ (x.getD m 0,x.getD ((m+1)%(k+1)) 0)) k++[swQ (x.getD k 0,x.getD ((k+1)%(k+1)) 0)])
 have J:(y.getD k 0,y.getD ((k+1)%(k+1)) 0)=swQ (x.getD k 0,x.getD ((k+1)%(k+1)) 0):=by
  rw[y2u,C k zot,C 0 zot];unfold swQ;rw[show k+1-1-k=0 by omega,show k+1-1-0=k by omega]
 have H:wO (λi=>(y.getD i 0,y.getD ((i+1)%(k+1)) 0)) k=wO (λm=>(λj=>swQ (x.getD j 0,x.getD ((j+1)%(k+1)) 0)) (k-1-m)) k:=sQ _ λm M=>by
  show(y.getD m 0,y.getD ((m+1)%(k+1)) 0)=swQ (x.getD (k-1-m) 0,x.getD ((k-1-m+1)%(k+1)) 0)
  rw[zoh (show m+1<k+1 by omega),zoh (show k-1-m+1<k+1 by omega),C m zot,C (m+1) zot];unfold swQ;rw[show k+1-1-m=k-1-m+1 by omega,show k+1-1-(m+1)=k-1-m by omega]
 rw[J,H];exact(zZ4 k λj=>swQ (x.getD j 0,x.getD ((j+1)%(k+1)) 0)).append_right _
theorem zY4(L:List (List Int))(f:Nat):∀n,n<=L.length->((edL (rvL L L.length) f n).map lI).Perm (((edL L f n).map lI).map swQ)
  |0,_=>.refl _
  |n+1,hn=>by
   show((edL (rvL L L.length) f n++edX _ f n _).map lI).Perm (((edL L f n++edX _ f n _).map lI).map swQ)
   rw[znu,znu,znu,yGR,yGR,zCX zot,zau zot];exact(zY4 L f n zot).append (yJW _)
abbrev PP(s:Sd)(f:Nat):List QI:=(edL (s.2.1.getD f zA).2.1 f (s.2.1.getD f zA).2.1.length).map lI
theorem zFC{s:Sd}{f:Nat}(hf:f<s.2.1.length):(flS s).2.1.getD f zA=fcS (s.2.1.getD f zA):=kX _ _ _ hf
theorem zSX{s:Sd}{f:Nat}(hf:f<s.2.1.length):(PP (flS s) f).Perm ((PP s f).map swQ):=by
 unfold PP;rw[zFC hf]
 show((edL (rvL (s.2.1.getD f zA).2.1 (s.2.1.getD f zA).2.1.length) f (rvL (s.2.1.getD f zA).2.1 (s.2.1.getD f zA).2.1.length).length).map lI).Perm _
 rw[iV];exact zY4 _ f _ (zbe _)
theorem zW9(L:List (List Pt))(p:P2)(i j:Nat):whZ L p i j=0↔∃m,m<L.length/\kW (gl L m) p i j=0:=by
 have hne:∀n,mL L p i j n≠0:=λn=>by
  induction n with
  |zero=>show(-1:Int)≠0;decide
  |succ n ih=>
   show(if kW (L.getD n []) p i j=1 then -(mL L p i j n) else mL L p i j n)≠0
   split<;>omega
 unfold whZ
 split
 · rename_i h;exact⟨λ_=>h,λ_=>I⟩
 · rename_i h;exact⟨λe=>absurd e (hne _),λe=>absurd e h⟩
theorem zOR(l:List Pt)(p:P2)(i j:Nat):kW l p i j=0↔∃m,m<l.length/\onS (vG l i j m) (vD l i j m) p:=by
 unfold kW
 split
 · rename_i h;exact⟨λ_=>h,λ_=>I⟩
 · rename_i h
   refine⟨λe=>?_,λe=>absurd e h⟩
   split at e<;>exact absurd e zow
theorem zPJ{s:Sd}(h:kC s){f:Nat}(hf:f<s.2.1.length)(q:Pt):whF s f q=0↔∃e,e∈PP s f/\onS (pr (ptI s.1 e.1) (axI (xJ s f)) (axJ (xJ s f))) (pr (ptI s.1 e.2) (axI (xJ s f)) (axJ (xJ s f))) (pr q (axI (xJ s f)) (axJ (xJ s f))):=by
 obtain⟨Z,c2⟩:=zHV hf (s9 h hf).2;rw[zB9,zW9]
 show(∃m,m<(xR s f).length/\kW (gl (xR s f) m) (pr q (axI (xJ s f)) (axJ (xJ s f))) (axI (xJ s f)) (axJ (xJ s f))=0)↔_
 generalize axI (xJ s f)=i;generalize axJ (xJ s f)=j;rw[Z];constructor
 · rintro⟨m,D,hz⟩
   obtain⟨J,H⟩:=c2 m D;obtain⟨k,hk,C⟩:=(zOR _ _ _ _).1 hz;rw[J] at hk;refine⟨_,zle.2 ⟨_,yBN D (zZ5 hk),I⟩,?_⟩;unfold vG vD at C;rw[J,H k hk,H _ (zcu _ zot)] at C;exact C
 · rintro⟨e,U,C⟩
   obtain⟨e5,O,rfl⟩:=zle.1 U;obtain⟨m,D,M⟩:=zDE O;obtain⟨k,hk,rfl⟩:=zG2 M;obtain⟨J,H⟩:=c2 m D;refine⟨m,D,(zOR _ _ _ _).2 ⟨k,by rw[J];exact hk,?_⟩⟩;unfold vG vD;rw[J,H k hk,H _ (zcu _ zot)];exact C
theorem yGU{A B q:Pt}{i j:Nat}:onS (pr B j i) (pr A j i) (pr q j i)↔onS (pr A i j) (pr B i j) (pr q i j):=by
 unfold onS qY cr pr;simp only;constructor
 · rintro⟨a,b,c⟩;exact⟨by grind,by grind,by grind⟩
 · rintro⟨a,b,c⟩;exact⟨by grind,by grind,by grind⟩
abbrev ngT(N:Pt):Pt:=T3.mk (((-1:Int):Rat)*N.x) (((-1:Int):Rat)*N.y) (((-1:Int):Rat)*N.z)
theorem yAD(x:Rat):((-1:Int):Rat)*x= -x:=by rw[show(((-1:Int):Rat))= -(1:Rat) from I];grind
theorem yC0{N:Pt}(hN:N≠zT):axI (ngT N)=axJ N/\axJ (ngT N)=axI N:=by
 have C:¬(N.z=0/\N.y=0/\N.x=0):=λe=>hN (by rw[kJ];exact⟨e.2.2,e.2.1,e.1⟩);unfold axI axJ ngT;simp only[yAD]
 repeat' split
 all_goals first|exact⟨I,I⟩|(exfalso;grind)
theorem zE2{s:Sd}{f:Nat}(hf:f<s.2.1.length):xJ (flS s) f=ngT (xJ s f):=by
 unfold xJ;rw[zFC hf];rfl
theorem zMC(N d:Pt):zM (ngT N) d= -zM N d:=by
 unfold zM ngT;simp only[yAD];grind
section
variable {s:Sd}(h:kC s)(h':kC (flS s)){f:Nat}(hf:f<s.2.1.length)
include h h' hf
omit h h' in
theorem zL8:f<(flS s).2.1.length:=by show f<(s.2.1.map fcS).length;rw[zde];exact hf
omit h h' in
theorem zTV(p:Pt):hnF (flS s) p f= -hnF s p f:=by
 unfold hnF;rw[zFC hf]
 show -(s.2.1.getD f zA).1.2-zM (ngT (s.2.1.getD f zA).1.1) p=_
 rw[zMC];grind
omit h h' in
theorem yBS(d:Pt):cnF (flS s) d f= -cnF s d f:=by
 unfold cnF;rw[zFC hf];exact zMC _ _
theorem zTW(q:Pt):whF (flS s) f q=0↔whF s f q=0:=by
 have hN:=(bR h f hf).1;rw[zPJ h' (zL8 hf),zPJ h hf,zE2 hf,(yC0 hN).1,(yC0 hN).2];have J:=zSX hf;constructor
 · rintro⟨e,H,C⟩
   obtain⟨M,D,rfl⟩:=zle.1 (J.mem_iff.1 H);exact⟨M,D,yGU.1 C⟩
 · rintro⟨e,H,C⟩
   exact⟨swQ e,J.mem_iff.2 (zle.2 ⟨e,H,I⟩),yGU.2 C⟩
theorem yOB{q:Pt}(hq:hnF s q f=0)(hb:whF s f q≠0):wnS (flS s) f q=wnS s f q:=by
 have M:=bR h;have C:=bR h';have hN:xJ s f≠zT:=(M f hf).1;have H:=zL8 hf;have O:xJ (flS s) f≠zT:=(C f H).1;have J:=zCD hN;have e1:uC (yZ q (xJ s f)) (scT 1 (xJ s f))=q:=by
  unfold uC yZ scT;rw[kJ];exact⟨by grind,by grind,by grind⟩
 have e2:hnF s (yZ q (xJ s f)) f=zM (xJ s f) (xJ s f):=by
  have:hnF s (yZ q (xJ s f)) f=hnF s q f+zM (xJ s f) (xJ s f):=by unfold hnF zM yZ;grind
  rw[this,hq];grind
 have hE:=zHQ M hf (yZ q (xJ s f));rw[e2] at hE;have U:=zHQ C H (yZ q (xJ s f));rw[zTV hf,e2] at U;have D:iC (edS s (yZ q (xJ s f)) f) (xJ s f):=λx hx hm=>by
  obtain⟨sx,l,h0,h1,h2,e⟩:=hm;obtain⟨hA,hB⟩:=hE x hx;have e3:zM (xJ s f) (uC x.1 (scT sx (yZ x.2 x.1)))=zM (xJ s f) (xJ s f):=by rw[zMD,hA,hB];grind
  rw[e,zHT] at e3;have hl:l=1:=by
   have:(l-1)*zM (xJ s f) (xJ s f)=0:=by grind
   rcases zoe.1 this with e4|e4
   · grind
   · exact absurd e4 (sV hN)
  subst hl;exact hb (by have:=zDY hx h0 h1 e;rw[e1] at this;exact this)
 have w1:=(zFH (p:=yZ q (xJ s f)) (d:=xJ s f) (c:=zM (xJ s f) (xJ s f)) (t:=1) (h:=zM (xJ s f) (xJ s f)) hN I zow zo0 (sV hN) (xR s f) (xR s f).length hE).1 J;have Z:=(zFH (p:=yZ q (xJ s f)) (d:=xJ s f) (c:=-zM (xJ s f) (xJ s f)) (t:=1) (h:=-zM (xJ s f) (xJ s f)) O (by rw[zE2 hf];exact zMC _ _) zow zo0 (by have:=sV hN;grind) (xR (flS s) f) (xR (flS s) f).length U).2 zo0;rw[e1] at w1 Z
 show wnF (xR (flS s) f) _ _ _ _=wnF (xR s f) _ _ _ _
 rw[w1,Z];have k1:=zLW h' (yZ q (xJ s f)) (eN (xJ (flS s) f)) (xJ s f) H;have k2:=zLW h (yZ q (xJ s f)) (eN (xJ (flS s) f)) (xJ s f) hf;have k3:nF (kIS s (yZ q (xJ s f)) (eN (xJ (flS s) f)) (xJ s f)) (PP (flS s) f)= -nF (kIS s (yZ q (xJ s f)) (eN (xJ (flS s) f)) (xJ s f)) (PP s f):=by
  rw[zI5 (zSX hf),zCS (κ:=kIS s (yZ q (xJ s f)) (eN (xJ (flS s) f)) (xJ s f)) (λa b=>zTI _ _ _ _)]
 have k4:kE (eN (xJ (flS s) f)) (xJ s f) (edS (flS s) (yZ q (xJ s f)) f)= -kE (eN (xJ (flS s) f)) (xJ s f) (edS s (yZ q (xJ s f)) f):=by
  rw[k1,k2];exact k3
 have o1:=zHS hN;have o2:=zHS O;have z2:zM (xJ s f) (eN (xJ (flS s) f))=0:=by
  have:=o2.2.1;rw[zE2 hf,zMC] at this;rw[zE2 hf];grind
 have k5:=(zDJ hN (dR _ _ _) hE (sV hN) D (sV hN) o1.2.1 z2 o1.2.2 o2.2.2).2
 show kE _ _ (edS (flS s) _ f)=kE _ _ (edS s _ f)
 rw[k4];have k6:kE (eN (xJ (flS s) f)) (xJ s f) (edS s (yZ q (xJ s f)) f)= -kE (xJ s f) (eN (xJ s f)) (edS s (yZ q (xJ s f)) f):=k5;rw[k6];omega
end
section
variable {s:Sd}(h:kC s)(h':kC (flS s))(hw:wnP s)(hw':wnP (flS s))
include h h' hw hw'
theorem yBP{f:Nat}(hf:f<s.2.1.length){q:Pt}(hq:hnF s q f=0):whF (flS s) f q=whF s f q:=by
 by_cases hb:whF s f q=0
 · rw[hb,(zTW h h' hf q).2 hb]
 have D:whF (flS s) f q≠0:=λe=>hb ((zTW h h' hf q).1 e);have H:=zSD hw hf hb;have C:=zSD hw' (zL8 hf) D;rw[yOB h h' hf hq hb,H] at C;have r1:=zIW s f q;have r2:=zIW (flS s) f q
 by_cases c1:whF s f q=1
 · by_cases c2:whF (flS s) f q=1
   · omega
   · rw[zau c1,zae c2] at C;exact absurd C zow
 · by_cases c2:whF (flS s) f q=1
   · rw[zae c1,zau c2] at C;exact absurd C zow
   · omega
theorem yG6{f:Nat}(hf:f<s.2.1.length)(p:Pt):onP (flS s) p f↔onP s p f:=by
 have e:∀(r:Sd) (g:Nat),sdZ (r.2.1.getD g zA).1 p=0↔hnF r p g=0:=λr g=>by
  unfold sdZ hnF hgt;rw[zSR];constructor<;>intro h<;>grind
 unfold onP;rw[e,e,zTV hf];constructor
 · rintro⟨a,b⟩
   have C:hnF s p f=0:=by grind
   exact⟨C,by rw[<-yBP h h' hw hw' hf C];exact b⟩
 · rintro⟨a,b⟩
   exact⟨by grind,by rw[yBP h h' hw hw' hf a];exact b⟩
theorem zRY(p:Pt):onB (flS s) p↔onB s p:=by
 have D:(flS s).2.1.length=s.2.1.length:=zde _;constructor
 · rintro⟨f,hf,C⟩
   rw[D] at hf;exact⟨f,hf,(yG6 h h' hw hw' hf p).1 C⟩
 · rintro⟨f,hf,C⟩
   exact⟨f,by rw[D];exact hf,(yG6 h h' hw hw' hf p).2 C⟩
omit h h' hw hw' in
theorem yBQ{f:Nat}(hf:f<s.2.1.length)(p d:Pt):skP (flS s) p d f↔skP s p d f:=by
 unfold skP;rw[aJ,aJ,yBS hf,zTV hf];constructor<;>intro h e<;>exact h (e.symm.imp (λe=>⟨by grind,by grind⟩) λe=>⟨by grind,by grind⟩)
omit h h' hw hw' in
theorem yGO{f:Nat}{p d:Pt}(hs:¬skP s p d f):cnF s d f≠0:=λe=>hs (by
 unfold skP;rw[aJ];intro e2
 rcases e2 with e2|e2<;>grind)
omit h h' hw hw' in
theorem yLD{f:Nat}(hf:f<s.2.1.length)(p:Pt){d:Pt}(hc:cnF s d f≠0):hnF (flS s) p f/cnF (flS s) d f=hnF s p f/cnF s d f/\hnF s (pW p d (hnF s p f/cnF s d f)) f=0:=by
 rw[zTV hf,yBS hf];have h1:=yye (a:=hnF s p f) hc;have h2:=yye (a:=-hnF s p f) (b:=-cnF s d f) zo0;constructor
 · have:(-hnF s p f/ -cnF s d f-hnF s p f/cnF s d f)*cnF s d f=0:=by grind
   rcases zoe.1 this with e|e
   · grind
   · exact absurd e hc
 · show(s.2.1.getD f zA).1.2-zM (xJ s f) (pW p d (hnF s p f/cnF s d f))=0
   rw[zT2];have C:zM (xJ s f) d=cnF s d f:=I;have D:(s.2.1.getD f zA).1.2-zM (xJ s f) p=hnF s p f:=I;rw[C];grind
theorem zRZ{f:Nat}(hf:f<s.2.1.length)(p d:Pt)(hs:¬skP s p d f):whF (flS s) f (pW p d (hnF (flS s) p f/cnF (flS s) d f))=whF s f (pW p d (hnF s p f/cnF s d f)):=by
 obtain⟨D,C⟩:=yLD hf p (yGO hs);rw[D,yBP h h' hw hw' hf C]
theorem yG7{f:Nat}(hf:f<s.2.1.length)(p d:Pt):bdS (flS s) p d f↔bdS s p d f:=by
 unfold bdS;rw[yBQ hf];constructor
 · rintro⟨a,b⟩;exact⟨a,by rw[<-zRZ h h' hw hw' hf p d a];exact b⟩
 · rintro⟨a,b⟩;exact⟨a,by rw[zRZ h h' hw hw' hf p d a];exact b⟩
theorem yOC(p d:Pt):nbS (flS s) p d↔nbS s p d:=by
 have C:(flS s).2.1.length=s.2.1.length:=zde _;unfold nbS;rw[C];exact⟨λe f hf b=>e f hf ((yG7 h h' hw hw' hf p d).2 b),λe f hf b=>e f hf ((yG7 h h' hw hw' hf p d).1 b)⟩
theorem yLF{f:Nat}(hf:f<s.2.1.length)(p d:Pt):crE (flS s) p d f= -crE s p d f:=by
 unfold crE
 by_cases hs:skP s p d f
 · rw[zau hs,zau ((yBQ hf p d).2 hs)];rfl
 rw[zae hs,zae λe=>hs ((yBQ hf p d).1 e),zRZ h h' hw hw' hf p d hs,yBS hf];have hc:=yGO hs
 by_cases hh:whF s f (pW p d (hnF s p f/cnF s d f))=1
 · rw[zau hh,zau hh]
   by_cases c:0<cnF s d f
   · rw[zau c,zae zo0]
   · rw[zae c,zau zo0];rfl
 · rw[zae hh,zae hh];rfl
theorem yBR(p d:Pt):∀n,n<=s.2.1.length->crS (flS s) p d n= -crS s p d n
  |0,_=>rfl
  |n+1,hn=>by
   show crS (flS s) p d n+crE (flS s) p d n= -(crS s p d n+crE s p d n)
   rw[yBR p d n zot,yLF h h' hw hw' zot];omega
theorem zUO(p:Pt):iB (flS s) p= -iB s p:=by
 have D:(flS s).2.1.length=s.2.1.length:=zde _;unfold iB
 by_cases ho:onB s p
 · rw[zau ho,zau ((zRY h h' hw hw' p).2 ho)];rfl
 have C:¬onB (flS s) p:=λe=>ho ((zRY h h' hw hw' p).1 e);rw[zae ho,zae C];have J:=zBS h (oC (sG h) p).2.1;have H:=zBS h' (oC (sG h') p).2.1;rw[zIV h' hw' C (zSH _) H (zSH _) ((yOC h h' hw hw' p _).2 J),D];exact yBR h h' hw hw' p _ _ (zbe _)
end
theorem yF2{s:Sd}(h:kC s)(hw:wnP s){p d:Pt}(hk:okR s p d):¬onB s p/\crX s p d-crY s p d=iB s p:=by
 obtain⟨h1,h2⟩:=hk;have C:¬onB s p:=λe=>h1 (.inl e);refine⟨C,?_⟩;unfold crX crY crU crV iB;rw[zae h1,zae h1,zau h2,zau h2,zae C,zMI];exact zIV h hw C (λe=>h1 (.inr e)) h2 (zSH _) (zBS h (oC (sG h) p).2.1)
def yC4(I:SI):Bool:=zSA (zWL I)
theorem yMU:bxC yC4=true:=by decide +kernel
theorem yMV:baC yC4=true:=by decide +kernel
theorem yMS:trC yC4=true:=by decide +kernel
theorem yMT:teC yC4=true:=by decide +kernel
theorem yFR{I:SI}(h:zWM I):zSA (zWL I)=true:=zL9 (c:=yC4) yMU yMV yMS yMT h
theorem zSL{s:Sd}(h:zA5 s):wnP (flS s):=by
 obtain⟨v,I,D,M,J⟩:=h;have C:=zG1 J;intro f hf q _;rw[C.2.2.1] at hf;obtain⟨H,e⟩:=zW6 C (zHO D) hf q;rw[e];have h1:=zob.1 (yFR D) _ (kR (d:=fi0) hf);exact zUK h1 H
theorem zMR(md:Md)(p:Pt):-(md.1.length:Int)<=wdM md p/\wdM md p<=md.1.length:=by
 have h:=zDV md p (vK ↑(pY md p));unfold wdM
 split<;>omega
theorem zM0{s:Sd}(h:zA5 s)(p:Pt):(onB (flS s) p↔onB s p)/\iB (flS s) p= -iB s p:=
 ⟨zRY (cE h).1.1 (iQ h).1.1 (zPY h) (zSL h) p,zUO (cE h).1.1 (iQ h).1.1 (zPY h) (zSL h) p⟩
theorem zW1{s:Sd}(h:zA5 s)(p:Pt):¬onA (kG s) p↔¬onA (kG (flS s)) p:=
 not_congr ((sL (cE h).1.1 p).trans ((zM0 h p).1.symm.trans (sL (iQ h).1.1 p).symm))
theorem zW0{s:Sd}(h:zA5 s)(p:Pt):wdM (kG (flS s)) p= -wdM (kG s) p:=by
 rw[zAY (cE h).1.1,zAY (iQ h).1.1];exact(zM0 h p).2
theorem zKD{s:Sd}(h:zA5 s){p d:Pt}(hk:okR s p d):¬onA (kG s) p/\crX s p d-crY s p d=wdM (kG s) p:=by
 have h1:=yF2 (cE h).1.1 (zPY h) hk;rw[zAY (cE h).1.1];exact⟨λe=>h1.1 ((sL (cE h).1.1 p).1 e),h1.2⟩
end Bk
namespace Go.Proofs.YtpkaegemlpaenaaGreat
open Bk Go Tryz
attribute [local irreducible] GL GC GQ W OpV
set_option maxHeartbeats 1000000 in
theorem zAN{w0:World}{h0:Mem}(hs:MLe h0 (mem w0)){vl:Value}{xsl:List Int}(hl:Is h0 vl xsl):
 Calls prog 8 #[vl] w0 (Ret w0 h0 (λ_ r=>r=.bool true)):=by
 have bh:=hl.lt63;refine cb1 72 vl func8 hs ?_;refine go9 ?_;refine cL (ev1 I) call9 (λw hs=>zRK hs hl) λcj h1 cw ak=>?_;subst ak;refine gc3 (λan=>?_) λan=>?_
 ·
  refine go2 ?_;refine cL (vs:=[]) trivial call10 (λw hs=>zHC hs) λci h2 bk aj=>?_;subst aj;refine go5 ?_;refine zC I I ?_
  rfl
 refine go5 ?_;refine uX (vs:=[_]) I I I I call11 ⟨I,y3e⟩ (λw hs=>zV8 hs hl.up) ?_;intro ch h2 dd bk ai;obtain⟨aq,rfl,rfl⟩:=ai;refine go6 ?_;refine yP (A:=[]) (vs:=[_]) call24 ⟨I,y3e⟩ (λX w hs=>zLD hl.up zox hs) I ?_;intro cg da cm br ac;obtain⟨cn,J,rfl,bo,H,ac⟩:=ac;have C:=cE H;have D:=iQ H;have cp:=dE J;have co:=C.1.2.1.1.2;refine nA (ρ:=(tSd 1 1 1 1)) (X:=([],([],[]))) qX (yE wK (yE wK wK)) λb4 dc au=>?_;have ae:=(Le.p (Le.s (Le.t (Le.q (l:=2) dC))) (Le.p (Le.s (Le.p (Le.p (Le.t (Le.q (l:=2) dC)) (Le.q (l:=2) dC)) (Le.refl _))) (Le.refl _))).R au;refine yD (A:=[]) (uB sizeOf39 pH ae ac) λap U=>(go5 ?_);refine yP (A:=[_]) (vs:=[_]) call43 ⟨I,y3e⟩ (λX w hs=>zLG hl.up zox hs) I ?_;intro cf cz cl bq ab;obtain⟨bg,M,rfl,bn,ab⟩:=ab;refine nA (ρ:=(tPt 2)) (X:=zT) yS (xW (yM dC)) λb5 db ar=>(yD (A:=[]) (uB sizeOf31 pH ar ab) λao O=>(go4 ?_));refine lX (xB jV pH U) λce be=>(lX (xB zN pH O) λcd bd=>(cL (ev2 I I) call32 (λw hs=>cJ hs be bd (by first|omega|exact C.1.2|exact C.1.1|exact D.1.2|exact D.1.1) (by first|omega|exact C.1.2|exact C.1.1|exact D.1.2|exact D.1.1) dC dC dC dC) λcc h3 cv bc=>?_));obtain rfl:=bc;refine go8 ?_;refine zL 9 _ [] ((0,.q)::(2,.q)::(1,.c)::(3,.c)::zai 4 5 []) yF nX zou nX (λr hr=>hr) (wX I (xB jV pH U) λcb bb=>(wX I (xB zN pH O) λbz az=>?_));refine w_c I (sC (ev1 I) call39 (λw hs=>zZQ hs bb (by first|omega|exact C.1.2|exact C.1.1|exact D.1.2|exact D.1.1) dC dC dC dC) λca h4 cu ba=>?_);refine w_c I (sC (ev2 I I) call32 (λw hs=>cJ hs ba az.up (by first|omega|exact C.1.2|exact C.1.1|exact D.1.2|exact D.1.1) (by first|omega|exact C.1.2|exact C.1.1|exact D.1.2|exact D.1.1) dC dC dC dC) λbx h5 ct ay=>?_);obtain rfl:=ay;refine uY ?_;refine gv (OpV.fa (by exactλe=>e (zW1 H _)) (tT underlying4 I I)) I (go6 ?_);refine gv (lK I (by have:=zMR (kG J) M;omega) (by have:=zMR (kG J) M;omega)) I (go1 ?_);refine gv (OpV.fa (by exactλe=>e (zW0 H _)) (bY I I)) I (pL ?_);refine gcL (ι:=Nat×Nat×Mem) (λ(i,Z,ma)=>(MLe h5 ma/\(Z<=xsl.length/\i<=4),[(3,vP aq 0),(4,vP b4 0),(5,vP b5 0),(6,vI (wdM (kG J) M)),(7,vB (¬onA (kG J) M)),(10,vI ↑i)],[.var b5 31 ao,.var b4 39 ap,.var aq 72 [vl,vI ↑Z]],ma,4-i)) (0,bg,h5) ?_ ?_
 · exact⟨mle,oM,oM⟩
 rintro⟨i,Z,ma⟩ ⟨bl,bi,cq⟩
 refine xD ?_;refine gc7 (λam=>?_) λam=>?_
 ·
  refine go5 ?_;refine qS (A:=[_,_]) 12 [] ((0,.q)::(1,.q)::(2,.q)::(3,.c)::(4,.c)::zai 5 7 []) yF nX (wS zou) nX (wX I (xB jV pH U) λbw ax=>(wX I (xB zN pH O) λbv aw=>(go1 ?_)));refine w_c I ?_;refine lH (A:=[_,_]) (vs:=[_]) call40 ⟨I,y3e⟩ (λX w hs=>zLF hl.up zox hs) I (xQ zoy) ?_;intro bu cy ck bp aa;obtain⟨bf,ad,rfl,bm,aa⟩:=aa;refine w_c I (sC (ev3 I I I) call41 (λw hs=>zGQ hs ax.up aw.up aa (by first|omega|exact C.1.2|exact C.1.1|exact D.1.2|exact D.1.1) (by first|omega|exact C.1.2|exact C.1.1|exact D.1.2|exact D.1.1) dC dC dC dC dC) λbt h6 bj av=>?_);obtain rfl:=av;refine uY ?_;refine gU 11 70 (.bool false) ?_ ?_
  ·
   refine zY (okR J M ad) (λhg=>?_) (λhg=>?_)
   ·
    refine gT hg I (go3 ?_);refine gv (OpV.fa (by exactλe=>e (zKD H hg).1) (zK1 I)) I (go7 ?_);refine gv (vJ I I (by have:=zJ6 J M ad;omega) (by have:=zJ6 J M ad;omega)) I (go3 ?_);refine gv (OpV.fa (by exactλe=>e (zKD H hg).2) (bY I I)) I (go4 ?_);refine gqU ?_;exact I
   refine gF hg I (qK ?_);refine gqU ?_;exact I
  refine qK ?_;refine gqL ((i+1),bf,h6) ?_ ?_
  · exact⟨mle,oM,oM⟩
  omega
 refine go7 ?_;refine cL (vs:=[]) trivial call10 (λw hs=>zHC hs) λbs h6 bj ah=>?_;subst ah;refine go4 ?_;refine zC I I ?_
 rfl
end Go.Proofs.YtpkaegemlpaenaaGreat
