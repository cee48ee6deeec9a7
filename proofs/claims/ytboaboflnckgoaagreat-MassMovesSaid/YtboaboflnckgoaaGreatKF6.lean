/- Texts that the proof needs, part 6. -/
import Derived.Test.YtboaboflnckgoaaGreatKF5
set_option linter.unusedVariables false
set_option linter.unusedSimpArgs false
noncomputable section
set_option maxRecDepth 10000
set_option maxHeartbeats 1000000
namespace Go.Proofs.YtboaboflnckgoaaGreat
open Bk Go Tryz
attribute [local irreducible] GL GC GQ W OpV
theorem vY{w0:World}{h0:Mem}(hs:MLe h0 (mem w0)){n:Int}(hn1:-9223372036854775808<=n)(hn2:n<9223372036854775808):
 Calls prog 126 #[vI n] w0 (Ret w0 h0 (λh r=>uP.Is h r (qZ ((n:Int):Rat)))):=by
 refine cb1 6 (vI n) func126 hs ?_;refine zL (zD (asg I I (zO (zG (zL (zD (mv I I (cL (ev1 I) call39 (λw hs=>qI hs oM oM) λv4 h1 aa r4=>?_))))))));obtain⟨J,M,C,D,G,H⟩:=qR r4;subst C;refine cL (ev1 I) call173 (λw hs=>zSW hs D G oM) λv5 h2 Z O=>?_;subst O;have U:=zA3 ((n:Int):Rat);refine asg I I (zO (zG (aF (zF I I ?_))));exact(bA (zYZ ((n:Int):Rat)))
set_option maxHeartbeats 1000000 in
theorem zIH{w0:World}{h0:Mem}(hs:MLe h0 (mem w0)){k l1 l2:Nat}{vL:Value}{L:(List (List Tq))}(rL:(tLL k).Is h0 vL L){vlo:Value}{lo:Rat}(rlo:(rpQ l1).Is h0 vlo lo){vhi:Value}{hi:Rat}(rhi:(rpQ l2).Is h0 vhi hi)(hcd0:k<=20)(hcd1:l1<=20)(hcd2:l2<=20)(hcd3:∀x,x∈L->cS x)(hcd4:prE L lo hi=0->okS (prR L lo hi)):
 Calls prog 81 #[vL,vlo,vhi] w0 (rA w0 h0 (λh r L_=>∃u0 vF cs,r=.tuple #[u0,vI (prE L lo hi)]/\(rpP (tLs (k+l1+l2+20)) (rpP rpV (rpS (rpP rpI (rpP rpI (rpQ 5)))))).Is h u0 (prP L lo hi,(vF,[]))/\L_=[.gs 83 14 vF (prF L lo hi).length cs]/\vF.oneCell'=true/\RL (tFc (1000*k+1000*l1+1000*l2+2000) (1000*k+1000*l1+1000*l2+2000)) h cs (prF L lo hi))):=by
 refine cb3 341 vL vlo vhi func81 hs ?_;refine zL (zD (nB rlo λb4 ea dc=>(nB rhi λb5 dz db=>(nA (ρ:=(rpP (tLs 1) (rpP rpV (rpS (rpP rpI (rpP rpI (rpQ 1))))))) (X:=([],((Value.slice none 0 0),[]))) qC (yF wD (yF fG wD)) λb6 dy bi=>(asg (v:=vI (0)) I I (zO (zG (zL (zL (zD (mv I I (cL (ev1 I) call123 (λw hs=>zID hs rL oM (by first|omega|exact hcd3)) λzx h1 dv ss=>?_))))))))))));obtain⟨jl,rfl,lm⟩:=ss
 change (rpS rpI).Is h1 jl (sS L 0 1) at lm
 refine mv I I (gv (fH (vs:=[_,_]) I I) I (gv (fH (vs:=[_,_]) I I) I (asg I I (asg I I (zO (zG (zL (zD (mv I I (gv (mI (q:=0) I I) I (zO (wO (e':=[(0,_),(4,_),(5,_),(6,_),(9,_),(40,_)]) e6z (zG ?_)))))))))))));refine cnd (λgk=>?_) λgk=>?_
 ·
  refine zL (zD (lX (xV (ρ:=(rpP (tLs 1) (rpP rpV (rpS (rpP rpI (rpP rpI (rpQ 1))))))) (xE (ps':=[]) underlying50 qC I I (sN underlying50) trivial I (yF wD (yF fG wD)) zQ)) λzw sr=>(mv I I ?_)));replace bi:=bi.mono dv;refine zU (A:=[]) (uB sizeOf50 pH bi sr) λyy nw=>(asg I I (zO (zG (aF (nH ?_)))));obtain⟨e1,e2,e3⟩:=pr_1 (lo:=lo) (hi:=hi) gk;rw[e1,e2,e3];refine aS 83 14 ?_;have nu:=RL.nil (ρ:=rpP (tPl (1000*k+1000*l1+1000*l2+2000) (1000*k+1000*l1+1000*l2+2000)) (rpP tII uP)) (h:=h1);refine xH (qK (t:=6) qP mh1 I nw) ?_;intro ze ln ns;refine kX (.cons_cons _ (zru _)) (λE S=>vG I ln (qQ I) E S) ?_;exact⟨_,_,_,I,(Rp.Is.le ns (Le.p (Le.s (Le.t (Le.q (l:=k+l1+l2+20) oM))) (Le.p (Le.refl _) (Le.s (Le.p (Le.refl _) (Le.p (Le.refl _) (Le.q (l:=5) dC))))))),I,I,nu⟩
 refine wW (zG (zL (zL (zD (mv I I ?_)))));have gg:uF L 0 1=0:=zdi gk;have dt:=yA8 gg;have lw:=zYJ dt.2;replace rL:=rL.mono dv;refine cL (ev1 I) call124 (λw hs=>zII hs rL oM (by first|omega|exactλl hl=>zci (dt.2 l hl) dC) (by first|omega|exactλl hl=>zci (dt.2 l hl) dC)) λrt h2 eh sq=>?_;obtain rfl:rt=vI (ouZ L):=sq;have tb:=zBN L L.length;refine gv (mI (q:=1) I I) I (zO (zG ?_));refine cnd (λdx=>?_) λdx=>?_
 ·
  refine zL (zD (lX (xV (ρ:=(rpP (tLs 1) (rpP rpV (rpS (rpP rpI (rpP rpI (rpQ 1))))))) (xE (ps':=[]) underlying50 qC I I (sN underlying50) trivial I (yF wD (yF fG wD)) zQ)) λzv sp=>?_));replace bi:=bi.mono (dv.trans eh);refine zU (A:=[]) (uB sizeOf50 pH bi sp) λyx nv=>(asg (v:=vI (33)) I I (zO (zG (aF (nH ?_)))));obtain⟨e1,e2,e3⟩:=yIL (lo:=lo) (hi:=hi) gg dx;rw[e1,e2,e3];refine aS 83 14 ?_;have nt:=RL.nil (ρ:=rpP (tPl (1000*k+1000*l1+1000*l2+2000) (1000*k+1000*l1+1000*l2+2000)) (rpP tII uP)) (h:=h2);refine xH (qK (t:=6) qP mh1 I nv) ?_;intro uw ir ka;refine kX (.cons_cons _ (zru _)) (λE S=>vG I ir (qQ I) E S) ?_;exact⟨_,_,_,I,(Rp.Is.le ka (Le.p (Le.s (Le.t (Le.q (l:=k+l1+l2+20) oM))) (Le.p (Le.refl _) (Le.s (Le.p (Le.refl _) (Le.p (Le.refl _) (Le.q (l:=5) dC))))))),I,I,nt⟩
 refine wW (zG (zL (zL (zD ?_))));replace dc:=dc.mono (dv.trans eh);refine lX (xB yJ pH dc) λzu so=>?_;replace db:=db.mono (dv.trans eh);refine lX (xB yJ pH db) λzt sn=>(cL (ev2 I I) call18 (λw hs=>tN hs so sn oM) λrs h3 du sm=>?_);obtain rfl:rs=vI (vH lo hi):=sm;have tq:=gQ lo hi;refine gv (aZ (q:=0) I I) I (zO (zG ?_));refine cnd (λfc=>?_) λfc=>?_
 ·
  refine zKS (e':=[(6,_)]) ⟨I,y3i⟩ (zL (zD (lX (xV (ρ:=(rpP (tLs 1) (rpP rpV (rpS (rpP rpI (rpP rpI (rpQ 1))))))) (xE (ps':=[]) underlying50 qC I I (sN underlying50) trivial I (yF wD (yF fG wD)) zQ)) λzs sl=>?_)));replace bi:=bi.mono ((dv.trans eh).trans du);refine zU (A:=[]) (uB sizeOf50 pH bi sl) λuh ll=>(asg (v:=vI (9)) I I (zO (zG (aF (nH ?_)))));obtain⟨e1,e2,e3⟩:=pr_9 gg (zdi dx) fc;rw[e1,e2,e3];refine aS 83 14 ?_;have kl:=RL.nil (ρ:=rpP (tPl (1000*k+1000*l1+1000*l2+2000) (1000*k+1000*l1+1000*l2+2000)) (rpP tII uP)) (h:=h3);refine xH (qK (t:=6) qP mh1 I ll) ?_;intro uv iq jz;refine kX (.cons_cons _ (zru _)) (λE S=>vG I iq (qQ I) E S) ?_;exact⟨_,_,_,I,(Rp.Is.le jz (Le.p (Le.s (Le.t (Le.q (l:=k+l1+l2+20) oM))) (Le.p (Le.refl _) (Le.s (Le.p (Le.refl _) (Le.p (Le.refl _) (Le.q (l:=5) dC))))))),I,I,kl⟩
 refine wW (zG (zL (zD (nA (ρ:=(rpP rpV (rpP rpV (rpS (rpP rpI (rpP rpI (rpQ 1))))))) (X:=((Value.slice none 0 0),((Value.slice none 0 0),[]))) qC (yF fG (yF fG wD)) λaa eb oe=>(zO (zG (zL (zD (asg I I (zO (zG (zL (zD ?_)))))))))))));refine asg I I (zO (zG (zL (zD (asg I I (zO (zG (zL (zL (zD (asg (v:=vI (0)) I I (zO (zG ?_)))))))))))));refine xJ (xK 116 2 ?_);have kk:=RL.nil (ρ:=rpA 2 rpI) (h:=h3);refine xK 53 9 ?_;have kj:=RL.nil (ρ:=rpT (rpQ (k+1))) (h:=h3);refine xK 32 1 ?_;have ki:=RL.nil (ρ:=rpS rpI) (h:=h3);refine gcL (ι:=Nat×List (List Int)×List Tq×List (List Int)×Value×List Value×Value×List Value×Value×List Value×Mem) (λ(i,ED,J,II,ad,au,D,bc,C,aw,ma)=>(MLe h3 ma/\(RL (rpA 2 rpI) ma au ED/\RL (tPt (k+1)) ma bc J/\RL (rpS rpI) ma aw II/\i<=L.length/\ED.length=iE L i/\J=ptB L i/\II=ptN L i),[(0,vL),(4,vP b4 0),(5,vP b5 0),(6,vP b6 0),(10,vP aa 0),(11,ad),(12,D),(13,C),(14,vI ↑i)],[.gs 32 1 C II.length aw,.gs 53 9 D J.length bc,.gs 116 2 ad ED.length au,.var aa 50 eb,.var b6 50 dy,.var b5 26 dz,.var b4 26 ea],ma,L.length-i)) (0,[],[],[],(.slice none 0 0),[],(.slice none 0 0),[],(.slice none 0 0),[],h3) ?_ ?_
 · exact⟨mle,kk,kj,ki,by omega,I,I,I⟩
 rintro⟨i,ED,J,II,ad,au,D,bc,C,aw,ma⟩ ⟨cf,kh,aj,ac,tn,ri,bj,ch⟩
 refine yW ?_;have tr:=zJM L i;have rc:=lw i tn;have hIl:II.length=i:=by rw[ch];exact xZ _ _
 rw[<-bj] at tr;refine zL (zL (zD (mv I I (mv I I ?_))));replace rL:=rL.mono ((eh.trans du).trans cf);refine gv (jA underlying115 I rL) I (gv (yH I I) I (zO (zG ?_)));refine cnd (λrh=>?_) λrh=>?_
 ·
  refine wW (zG (zL (xJ (zL (zD (asg I I (zO (zG (zL (zL (zD (asg (v:=vI (0)) I I (zO ?_)))))))))))));refine zG (xJ (xK 3 1 ?_));have kg:=RL.nil (ρ:=rpI) (h:=ma);refine gcL (ι:=Nat×List Tq×List Int×Value×List Value×Value×List Value×Mem) (λ(q,B2,LN,M,bk,bd,dk,mb)=>(MLe ma mb/\(RL (tPt (k+1)) mb bk B2/\RL rpI mb dk LN/\q<=(L.getD i []).length/\B2=plB (ptB L i) (L.getD i []) q/\LN=plN (ptB L i) (L.getD i []) q),[(0,vL),(4,vP b4 0),(5,vP b5 0),(6,vP b6 0),(10,vP aa 0),(11,ad),(12,M),(13,C),(14,vI ↑i),(15,bd),(16,vI ↑q)],[.gs 3 1 bd LN.length dk,.gs 32 1 C II.length aw,.gs 53 9 M B2.length bk,.gs 116 2 ad ED.length au,.var aa 50 eb,.var b6 50 dy,.var b5 26 dz,.var b4 26 ea],mb,(L.getD i []).length-q)) (0,J,[],D,bc,(.slice none 0 0),[],ma) ?_ ?_
  · exact⟨mle,aj,kg,by omega,by rw[bj];rfl,I⟩
  rintro⟨q,B2,LN,M,bk,bd,dk,mb⟩ ⟨ji,ai,bg,hq1,ff,iy⟩
  refine yW ?_;have ts:=zJO (ptB L i) (L.getD i []) q;rw[<-ff,<-bj] at ts;have tt:LN.length=q:=by rw[iy];exact xZ _ _
  have io:=dt.2 i oM;refine zL (zL (zD (mv I I (mv I I (mv I I ?_)))));replace rL:=rL.mono ji;refine lX (xI [] i underlying115 qD rL) λzr sk=>(lX (xA qD sk) λzq sj=>(gv (jA underlying46 I sj) I (gv (yH I I) I (zO (zG ?_)))));refine cnd (λrg=>?_) λrg=>?_
  ·
   refine wW (zG (zL (xJ (zL (zD (asg (v:=vI (-1)) I I (zO (zG (zL (zL (zD (asg (v:=vI (0)) I I (zO ?_)))))))))))));refine zG (xJ ?_);refine gcL (ι:=Nat×Mem) (λ(j,mj)=>(MLe mb mj/\(j<=B2.length),[(0,vL),(4,vP b4 0),(5,vP b5 0),(6,vP b6 0),(10,vP aa 0),(11,ad),(12,M),(13,C),(14,vI ↑i),(15,bd),(16,vI ↑q),(17,vI (u9 B2 ((L.getD i []).getD q zT) j)),(18,vI ↑j)],[.gs 3 1 bd LN.length dk,.gs 32 1 C II.length aw,.gs 53 9 M B2.length bk,.gs 116 2 ad ED.length au,.var aa 50 eb,.var b6 50 dy,.var b5 26 dz,.var b4 26 ea],mj,B2.length-j)) (0,mb) ?_ ?_
   · exact⟨mle,oM⟩
   rintro⟨j,mj⟩ ⟨cp,rb⟩
   refine yW ?_;have hj1:=rb;have hfr:=zGU B2 ((L.getD i []).getD q zT) j;refine zL (zL (zD (mv I I (mv I I (gv (jU mh2 underlying46 I) I (gv (yH I I) I (zO (zG ?_))))))));refine cnd (λrf=>?_) λrf=>?_
   ·
    refine wW (zG (zL (xJ (zL ?_))));refine zK 30 _ [] (zai 0 13 ((13,.c)::zai 14 14 [(28,.c),(29,.q)])) yA nX (wV zot) nX (λr hr=>hr) (wZ I I I (wZ I I I (w_q I (λh' L' hh hR=>(yP j (hR _ mh2) underlying46 sizeOf53 I I I bO nP).cv (show _=zI 1 M ((j*9+0)) from zbi (zI 1 M) zoz)) I ?_)));replace ai:=ai.mono cp;refine w_q I (λh' L' hh hR=>(rG (sz:=3) (q:=0) 0 (y3e (y3u _) zT j bO) I nP (ai.mono hh) (hR _ mh2) underlying53 sizeOf26 I I I dC).cv (show _=zI 1 M ((j*9+0)) from zbi (zI 1 M) (by show(j*9+0)+0*3=(j*9+0);omega))) I (tA (F:=λv_=>(rpQ (k+1)).Is mj v_ ((B2.getD j zT).x)) I (xP yJ (y3e (y4e (y3u _)) zT j bO) I nP I ai I) (kH mh2) I ?_);intro zp si;refine wZ I I I (wZ I I I ?_);replace rL:=rL.mono cp;refine wX I (xI [] i underlying115 qD rL) λzo sh=>(wX I (xA qD sh) λzn sf=>(wZ I I I (wX I (xI zT q underlying46 zR sf) λzm se=>(tA (F:=λv_=>AtP (rpQ k) mj v_ (((L.getD i []).getD q zT).x)) I (zH7 (q:=0) 0 underlying53 sizeOf26 (y4e (y3u _)) I I I se I dC I) zAL I ?_))));intro zl sd;refine wX I (xA yJ sd) λzk sc=>?_;refine w_c I (sC (ev2 I I) call15 (λw hs=>qH hs si sc oM) λrr h4 aq sb=>?_);obtain rfl:rr=vB (((B2.getD j zT).x)=(((L.getD i []).getD q zT).x)):=sb;refine wZ I I I ?_;refine tJ (((B2.getD j zT).x)=(((L.getD i []).getD q zT).x)) (λel=>?_) (λel=>?_)
    ·
     rw[wB el];refine xG I I I (λh' L' hh hR=>xL I) I (xG I I I (λh' L' hh hR=>xL I) I (xG I I I (λh' L' hh hR=>(yP j (hR _ mh2) underlying46 sizeOf53 I I I bO nP).cv (show _=zI 1 M ((j*9+0)) from zbi (zI 1 M) zoz)) I ?_));replace ai:=ai.mono aq;refine xG I I I (λh' L' hh hR=>(rG (sz:=3) (q:=1) 1 (y3e (y3u _) zT j bO) I nP (ai.mono hh) (hR _ mh2) underlying53 sizeOf26 I I I dC).cv (show _=zI 1 M ((j*9+3)) from zbi (zI 1 M) (by show(j*9+0)+1*3=(j*9+3);omega))) I (lV (F:=λv_=>(rpQ (k+1)).Is h4 v_ ((B2.getD j zT).y)) I I I (xP yJ (y3e (y5i (y3u _)) zT j bO) I nP I ai I) (kH mh2) I ?_);intro zj sa;refine xG I I I (λh' L' hh hR=>xL I) I (xG I I I (λh' L' hh hR=>xL I) I ?_);replace rL:=rL.mono aq;refine oX I (xI [] i underlying115 qD rL) λzi ry=>(oX I (xA qD ry) λzh rx=>(xG I I I (λh' L' hh hR=>xL I) I (oX I (xI zT q underlying46 zR rx) λzg rv=>(lV (F:=λv_=>AtP (rpQ k) h4 v_ (((L.getD i []).getD q zT).y)) I I I (zH7 (q:=1) 1 underlying53 sizeOf26 (y5i (y3u _)) I I I rv I dC I) zAL I ?_))));intro zf ru;refine oX I (xA yJ ru) λyd qu=>?_;refine w_c I (rC I I (sC (ev2 I I) call15 (λw hs=>qH hs sa qu oM) λnr h5 cm qt=>?_));obtain rfl:nr=vB (((B2.getD j zT).y)=(((L.getD i []).getD q zT).y)):=qt;refine xD I (λ_ _=>cV I I) I (fP (wO (e':=[(0,_),(4,_),(5,_),(6,_),(10,_),(11,_),(12,_),(13,_),(14,_),(15,_),(16,_),(17,_),(18,_),(102,_)]) ⟨I,I,I,I,I,I,I,I,I,I,I,I,I,I,y3i⟩ (zG ?_)));refine cnd (λeo=>?_) λeo=>?_
     ·
      refine zD (mv I I (asg I I (zO (kY (zG (zD (mv I I (gv (zV (q:=1) I I oM oM) I (asg I I (zO ?_))))))))));refine gqL ((j+1),h5) ?_ ?_ (he:=⟨I,I,I,I,I,I,I,I,I,I,I,zbi (λz=>some (vI z)) (fd_t ⟨by assumption,eo⟩),I,y3i⟩)
      · exact⟨mle,oM⟩
      omega
     refine wW (kY (zG (zD (mv I I (gv (zV (q:=1) I I oM oM) I (asg I I (zO ?_)))))));refine gqL ((j+1),h5) ?_ ?_ (he:=⟨I,I,I,I,I,I,I,I,I,I,I,zbi (λz=>some (vI z)) (yGY (λe=>eo e.2)),I,y3i⟩)
     · exact⟨mle,oM⟩
     omega
    rw[yZ el];refine uD I I I I I (uD I I I I I (uD I I I I I (uD I I I I I (uD I I I I I (uD I I I I I (uD I I I I I (uD I I I I I (uD I I I I I (uD I I I I I (uD I I I I I (uD I I I I I (uD I I I I I ?_))))))))))));refine w_c I (zBI I I I I (xD I (λ_ _=>cW I I) I (fP (wO (e':=[(0,_),(4,_),(5,_),(6,_),(10,_),(11,_),(12,_),(13,_),(14,_),(15,_),(16,_),(17,_),(18,_),(102,_)]) ⟨I,I,I,I,I,I,I,I,I,I,I,I,I,I,y3i⟩ (zG (aU I (wW (kY (zG (zD (mv I I (gv (zV (q:=1) I I oM oM) I (asg I I ?_)))))))))))));refine zO ?_;refine gqL ((j+1),h4) ?_ ?_ (he:=⟨I,I,I,I,I,I,I,I,I,I,I,zbi (λz=>some (vI z)) (yGY (λe=>absurd e.1 zo3)),I,y3i⟩)
    · exact⟨mle,oM⟩
    omega
   refine kR (vQ (vQ (kP (zG (zL (zL (zD (mv I I (gv (yH (q:=0) I I) I (zO (zG ?_)))))))))));refine cnd (λen=>?_) λen=>?_
   ·
    have ej:j=B2.length:=by omega
    have dw:fdZ B2 ((L.getD i []).getD q zT)<0:=by unfold fdZ;rw[<-ej];exact en
    refine zL (zD (mv I I (gv (jU mh2 underlying46 I) I (asg I I (zO (zG (zD (mv I I (mv I I (mv I I ?_))))))))));replace rL:=rL.mono cp;refine lX (xI [] i underlying115 qD rL) λyc qs=>(lX (xA qD qs) λyb qr=>(mv I I (lX (xI zT q underlying46 zR qr) λya qq=>(lX (xA zR qq) λxz qp=>(zH (zN (ρ:=(tPt (k+1))) (m:=1) (xs:=[((L.getD i []).getD q zT)]) (ps':=[(0,_)]) underlying46 yO I I I (yS (yE oM)) e2z (zC I (y3e (y3u _) zT 0 dC) (qp.le (Le.t (Le.q (l:=k+1) oM))) zQ) zok nP) I I I ?_)))))
    rintro xy yt ⟨ur,rfl,lc⟩
    refine zX (A:=[]) (ρ:=(tPt (k+1))) lc ?_;intro h4 aq jx;replace ai:=ai.mono (cp.trans aq);refine xU (A:=[_,_]) (uN (yB (ρ:=(tPt (k+1))) (bytes:=168) underlying46 yO I I I I nP I I ai jx bO bO)) I I I ?_
    rintro nq ys ⟨th,ne,rfl,lb⟩
    refine asg I I (zO (wO (e':=[(0,_),(4,_),(5,_),(6,_),(10,_),(11,_),(13,_),(14,_),(15,_),(16,_),(17,_),(12,_)]) e12 (zG (zD (mv I I (mv I I (zH (zN (ρ:=rpI) (m:=1) (xs:=[(↑B2.length:Int)]) (ps':=[(0,_)]) underlying32 jV I I I wY e2z (zC I (y3e (y3u _) (0:Int) 0 dC) (wL oM oM) zQ) zoj nP) I I I ?_)))))))
    rintro np qy ⟨nd,rfl,eg⟩
    refine zX (A:=[]) (ρ:=rpI) eg ?_;intro h5 cm jw;replace bg:=bg.mono ((cp.trans aq).trans cm);refine xU (A:=[]) (uN (yB (ρ:=rpI) (bytes:=8) underlying32 jV I I I I nP I I bg jw bO bO)) I I I ?_
    rintro fk qx ⟨lv,ew,rfl,ee⟩
    refine asg I I (zO (kY (zG (zD (mv I I (gv (zV (q:=1) I I oM oM) I (asg I I (zO ?_))))))));refine gqL ((q+1),(B2++[((L.getD i []).getD q zT)]),(LN++[(↑B2.length:Int)]),nq,ne,fk,ew,h5) ?_ ?_
    · exact⟨mle,lb.up,ee,by omega,by rw[ff] at dw ⊢;exact(zau dw).symm,by rw[iy,show(↑B2.length:Int)=adN (plB (ptB L i) (L.getD i []) q) ((L.getD i []).getD q zT) from by rw[ff] at dw ⊢;exact(zau dw).symm];rfl⟩
    omega
   have ej:j=B2.length:=by omega
   have dw:¬fdZ B2 ((L.getD i []).getD q zT)<0:=by unfold fdZ;rw[<-ej];exact en
   refine wW (zG (zD (mv I I (mv I I (zH (zN (ρ:=rpI) (m:=1) (xs:=[(u9 B2 ((L.getD i []).getD q zT) j)]) (ps':=[(0,_)]) underlying32 jV I I I wY e2z (zC I (y3e (y3u _) (0:Int) 0 dC) (wL oM oM) zQ) zoj nP) I I I ?_)))))
   rintro np qy ⟨nd,rfl,eg⟩
   refine zX (A:=[]) (ρ:=rpI) eg ?_;intro h4 aq jv;replace bg:=bg.mono (cp.trans aq);refine xU (A:=[]) (uN (yB (ρ:=rpI) (bytes:=8) underlying32 jV I I I I nP I I bg jv bO bO)) I I I ?_
   rintro fk qx ⟨lv,ew,rfl,ee⟩
   refine asg I I (zO (kY (wO (e':=[(0,_),(4,_),(5,_),(6,_),(10,_),(11,_),(12,_),(13,_),(14,_),(16,_),(15,_)]) ⟨I,I,I,I,I,I,I,I,I,I,I,y3i⟩ (zG (zD (mv I I (gv (zV (q:=1) I I oM oM) I (asg I I (zO ?_)))))))));refine gqL ((q+1),B2,(LN++[(u9 B2 ((L.getD i []).getD q zT) j)]),M,bk,fk,ew,h4) ?_ ?_
   · exact⟨mle,ai.up,ee,by omega,by rw[ff] at dw ⊢;exact(zae dw).symm,by rw[iy,show u9 B2 ((L.getD i []).getD q zT) j=adN (plB (ptB L i) (L.getD i []) q) ((L.getD i []).getD q zT) from by rw[ej,ff] at *;exact(zae dw).symm];rfl⟩
   omega
  have ek:q=(L.getD i []).length:=by omega
  refine kR (vQ (vQ (kP (zG (zL (zD (mv I I (mv I I (zX (A:=[]) (ρ:=rpI) bg ?_)))))))));intro h4 aq be;refine zH (zN (ρ:=(rpS rpI)) (m:=1) (xs:=[LN]) (ps':=[(0,_)]) underlying81 jH I I I wD e2z (zC I (y3e (y3u _) [] 0 dC) be zQ) zoj nP) I I I ?_
  rintro xx yr ⟨uq,rfl,la⟩
  refine zX (A:=[]) (ρ:=(rpS rpI)) la ?_;intro h5 cm ju;replace ac:=ac.mono ((ji.trans aq).trans cm);refine xU (A:=[]) (uN (yB (ρ:=(rpS rpI)) (bytes:=24) underlying81 jH I I I I nP I I ac ju bO bO)) I I I ?_
  rintro fj yq ⟨tg,gr,rfl,kz⟩
  refine asg I I (zO (wO (e':=[(0,_),(4,_),(5,_),(6,_),(10,_),(11,_),(12,_),(14,_),(15,_),(13,_)]) e10 (zG (zL (zD (asg (v:=vI (0)) I I (zO (zG (xJ ?_)))))))));refine gcL (ι:=Nat×List (List Int)×Value×List Value×Mem) (λ(e,E2,bu,dj,me)=>(MLe h5 me/\(RL (rpA 2 rpI) me dj E2/\e<=LN.length/\E2.length=iE L i+e),[(0,vL),(4,vP b4 0),(5,vP b5 0),(6,vP b6 0),(10,vP aa 0),(11,bu),(12,M),(13,fj),(14,vI ↑i),(15,bd),(19,vI ↑e)],[.gs 32 1 fj (II++[LN]).length gr,.gs 53 9 M B2.length bk,.gs 116 2 bu E2.length dj,.var aa 50 eb,.var b6 50 dy,.var b5 26 dz,.var b4 26 ea],me,LN.length-e)) (0,ED,ad,au,h5) ?_ ?_
  · exact⟨mle,kh.up,by omega,ri⟩
  rintro⟨e,E2,bu,dj,me⟩ ⟨ra,cw,rd,tv⟩
  refine yW ?_;have io:=dt.2 i oM;refine zL (zL (zD (mv I I (mv I I ?_))));replace be:=be.mono (cm.trans ra);refine gv (jA underlying32 I be) I (gv (yH I I) I (zO (zG ?_)));refine cnd (λmi=>?_) λmi=>?_
  ·
   refine wW (zG (zL (xJ ?_)));refine jS (A:=[_,_]) 17 [] (zai 0 14 [(14,.c),(15,.c),(16,.q)]) yA nX (wV zot) nX (wZ I I I (wZ I I I (wZ I I I (wX I (xI (0:Int) e underlying32 ty3 be) λxw qo=>(wX I (xA ty3 qo) λxv qn=>?_)))));obtain⟨rfl,tm,sy⟩:=gJ qn;refine wZ I I I (wZ I I I (xD I (λ_ _=>zV (q:=1) I I oM oM) I (wZ I I I (w_q I (λh' L' hh hR=>jA underlying32 I (be.mono hh)) I (xD I (λ_ _=>vC I I oM oM) I (wX I (xI (0:Int) ((e+1)%LN.length) underlying32 ty3 be (hi:=by exact zcu _ oM)) λxu qm=>(wX I (xA ty3 qm) λxt ql=>?_)))))));obtain⟨rfl,tl,sx⟩:=gJ ql;refine wX I (xV (ρ:=(rpA 2 rpI)) (wI (ps':=[(0,_),(1,_)]) underlying116 zEW I I sizeOf3 e4z I (yDH 2 wY) (zC I (y3e (y3u _) (0:Int) 0 dC) (wL oM oM) (zC I (y3e (y3u _) (0:Int) 1 dC) (wL oM oM) zQ)))) λxr qk=>?_;refine w_c I (jN (λX=>zN (ρ:=(rpA 2 rpI)) (m:=1) (xs:=[[(LN.getD e (0:Int)),(LN.getD ((e+1)%LN.length) (0:Int))]]) (ps':=[(0,_)]) underlying153 zEW I I I (yDH 2 wY) e2z (zC I (y3e (y3u _) (List.replicate 2 (0:Int)) 0 dC) qk zQ) (show 1*2<=16777216 from by decide) nP) I ?_)
   rintro xq yp ⟨uo,rfl,ky⟩
   refine w_c I (xT (A:=[]) (ρ:=(rpA 2 rpI)) ky dK ?_);intro h6 dd jt;replace cw:=cw.mono dd;refine gV (A:=[_,_]) (λX=>uN (yB (ρ:=(rpA 2 rpI)) (bytes:=16) underlying153 zEW I I I I nP I I cw jt bO bO)) I (wA zox) ?_
   rintro no yo ⟨tf,nc,rfl,kx⟩
   refine zHA I I I (fP (kY (wO (e':=[(0,_),(4,_),(5,_),(6,_),(10,_),(12,_),(13,_),(14,_),(15,_),(19,_),(11,_)]) ⟨I,I,I,I,I,I,I,I,I,I,I,y3i⟩ (zG (zD (mv I I (gv (zV (q:=1) I I oM oM) I (asg I I (zO ?_)))))))));refine gqL ((e+1),(E2++[[(LN.getD e (0:Int)),(LN.getD ((e+1)%LN.length) (0:Int))]]),no,nc,h6) ?_ ?_
   · exact⟨mle,kx,by omega,by rw[lAz,tv];rfl⟩
   omega
  have tu:E2.length=iE L i+LN.length:=by omega
  refine kR (vQ (vQ (kP (kY (zG (zD (mv I I (gv (zV (q:=1) I I oM oM) I (asg I I (zO ?_))))))))));refine gqL ((i+1),E2,B2,(II++[LN]),bu,dj,M,bk,fj,gr,me) ?_ ?_
  · exact⟨mle,cw,ai.up,kz.up,by omega,by rw[tu,tt,ek];rfl,by rw[ff,ek];rfl,by rw[ch,iy,ek];rfl⟩
  omega
 have ei:i=L.length:=by omega
 have to:=lw L.length oM;rw[ei] at ri bj ch;have hI1:II.length=L.length:=by rw[ch];exact xZ _ _
 have mm:∀i,i<L.length->(II.getD i []).length=(L.getD i []).length:=λi hi=>by rw[ch];exact zKY hi
 have gb:∀i q,i<L.length->q<(II.getD i []).length->0<=(II.getD i []).getD q 0/\(II.getD i []).getD q 0<↑J.length:=λi q hi hq=>by rw[ch] at hq ⊢;rw[bj];exact zNN hi hq
 refine kR (vQ (vQ (kP (zG (zL (zD (mv I I (gv (jU mh1 underlying46 I) I (asg I I (zO (zG (zL (zL ?_)))))))))))));refine zD (mv I I (gv (aX (p:=2) I I oM oM) I (gv (aY (q:=512) I I) I ?_)));refine gU 6 158 (vB (((512:Int)<((2:Int)*(↑J.length:Int)))\/((256:Int)<((↑ED.length:Int)+(2:Int))))) ?_ ?_
 ·
  refine yK ((512:Int)<((2:Int)*(↑J.length:Int))) (λhg=>?_) (λhg=>?_)
  ·
   refine gT hg I (nS I I I I I I (nS I I I I I I (nS I I I I I I (nS I I I I I I (gv (cV I I) I (zO (gqU ?_)))))));exact y2e (uL hg)
  refine gF hg I (t7 I I I (mv I I (t7 I I I (gv (jU mh2 underlying153 I) I (t7 I I I (gv (zV (q:=2) I I oM oM) I (t7 I I I (gv (aY (q:=256) I I) I (gv (cW I I) I (zO (gqU ?_)))))))))));exact y2e (uM hg)
 refine zO (zG ?_);refine cnd (λmh=>?_) λmh=>?_
 ·
  have ls:prB L:=by unfold prB;show 512<2*(ptB L L.length).length\/_;rw[<-bj];omega
  refine zL (zD (lX (xV (ρ:=(rpP (tLs 1) (rpP rpV (rpS (rpP rpI (rpP rpI (rpQ 1))))))) (xE (ps':=[]) underlying50 qC I I (sN underlying50) trivial I (yF wD (yF fG wD)) zQ)) λxp qj=>?_));replace bi:=bi.mono (((dv.trans eh).trans du).trans cf);refine zU (A:=[_,_,_,_]) (uB sizeOf50 pH bi qj) λug lk=>(asg (v:=vI (2)) I I (zO (zG (aF (nH ?_)))));obtain⟨e1,e2,e3⟩:=pr_2 gg (zdi dx) fc ls;rw[e1,e2,e3];refine aS 83 14 ?_;have kf:=RL.nil (ρ:=rpP (tPl (1000*k+1000*l1+1000*l2+2000) (1000*k+1000*l1+1000*l2+2000)) (rpP tII uP)) (h:=ma);refine xH (qK (t:=6) qP mh5 I lk) ?_;intro ut ip jy;refine kX (.cons_cons _ (zru _)) (λE S=>vG I ip (qQ I) E S) ?_;exact⟨_,_,_,I,(Rp.Is.le jy (Le.p (Le.s (Le.t (Le.q (l:=k+l1+l2+20) oM))) (Le.p (Le.refl _) (Le.s (Le.p (Le.refl _) (Le.p (Le.refl _) (Le.q (l:=5) dC))))))),I,I,kf⟩
 have ls:¬prB L:=by unfold prB;show ¬(512<2*(ptB L L.length).length\/_);rw[<-bj];omega
 obtain⟨re,rd,tp⟩:=yIM gg (zdi dx) fc ls;refine wW (zG (zL (zL (zD (asg (v:=vI (0)) I I (zO (zG (xJ (xK 53 9 ?_)))))))));have ke:=RL.nil (ρ:=rpT (rpQ (k+l1+l2+5))) (h:=ma);refine gcL (ι:=Nat×List Tq×List Value×Value×List Value×Mem) (λ(i,PP,cl,cb,er,mp)=>(MLe ma mp/\((rpP rpV (rpP rpV (rpS (rpP rpI (rpP rpI (rpQ 1)))))).R mp cl (cb,(Value.slice none 0 0,[]))/\RL (tPt (k+l1+l2+5)) mp er PP/\cb.oneCell'=true/\i<=2*J.length/\PP=zS5 L lo hi i),[(4,vP b4 0),(5,vP b5 0),(6,vP b6 0),(10,vP aa 0),(12,D),(13,C),(20,vI (↑J.length:Int)),(21,vI ↑i)],[.gs 53 9 cb PP.length er,.gs 32 1 C II.length aw,.gs 53 9 D J.length bc,.gs 116 2 ad ED.length au,.var aa 50 cl,.var b6 50 dy,.var b5 26 dz,.var b4 26 ea],mp,2*J.length-i)) (0,[],eb,(.slice none 0 0),[],ma) ?_ ?_
 · exact⟨mle,oe.up,ke,I,by omega,I⟩
 rintro⟨i,PP,cl,cb,er,mp⟩ ⟨bs,ao,bf,td,hi2,ix⟩
 refine yW ?_;have hPl:PP.length=i:=by rw[ix];exact xZ _ _
 refine zL (zL (zD (mv I I (mv I I (gv (aX (p:=2) I I oM oM) I (gv (yH I I) I (zO (zG ?_))))))));refine cnd (λmg=>?_) λmg=>?_
 ·
  refine wW (zG (zL (xJ (zL (zD ?_)))));replace dc:=dc.mono ((du.trans cf).trans bs);refine lX (xB yJ pH dc) λxo qi=>(nA (ρ:=(rpQ 1)) (X:=(0:Rat)) yR (yE dC) λb22 zc od=>?_);have jp:=(Le.q (l:=l1+1) oM).R od;refine zU (A:=[]) (uB sizeOf26 pH jp (qi.le (Le.q (l:=l1+1) oM))) λuf fl=>(zO (zG (zL (zL (zD (mv I I (mv I I (gv (aZ I I) I (zO (zG ?_))))))))));refine cnd (λem=>?_) λem=>?_
  ·
   refine zD ?_;replace db:=db.mono ((du.trans cf).trans bs);refine lX (xB yJ pH db) λxn qh=>?_;have jo:=(Le.q (l:=l1+l2+1) oM).R fl;refine zU (A:=[]) (uB sizeOf26 pH jo (qh.le (Le.q (l:=l1+l2+1) oM))) λue lj=>(zO (zG ?_));refine jS (A:=[_]) 21 [] (zai 0 18 [(18,.c),(19,.c),(20,.q),(21,.t)]) yA nX (wV zot) nX (xD I (λ_ _=>(wN underlying50 I sizeOf46 I).cv (show _=vP aa 0 from zbi (vP aa) zoz)) I (wX I (fN (xB qD (y4i pH) ao)) λnn fy=>?_));subst fy;refine wZ I I I (wZ I I I (wZ I I I (xD I (λ_ _=>vC I I oM oM) I (w_q I (λh' L' hh hR=>(yP (i%J.length) (hR _ mh2) underlying46 sizeOf53 I I rP (by exact zcu _ oM) nP).cv (show _=zI 1 D (((i%J.length)*9+0)) from zbi (zI 1 D) zoz)) I ?_))));replace aj:=aj.mono bs;refine w_q I (λh' L' hh hR=>(rG (sz:=3) (q:=0) 0 (y3e (y3u _) zT (i%J.length) (by exact zcu _ oM)) I nP (aj.mono hh) (hR _ mh2) underlying53 sizeOf26 I I I dC).cv (show _=zI 1 D (((i%J.length)*9+0)) from zbi (zI 1 D) (by show((i%J.length)*9+0)+0*3=((i%J.length)*9+0);omega))) I (tA (F:=λv_=>(rpQ (k+1)).Is mp v_ ((J.getD (i%J.length) zT).x)) I (xP yJ (y3e (y4e (y3u _)) zT (i%J.length) (by exact zcu _ oM)) I nP I aj I) (kH mh2) I ?_);intro nm fx;refine wZ I I I (wZ I I I (wZ I I I (xD I (λ_ _=>vC I I oM oM) I (w_q I (λh' L' hh hR=>(yP (i%J.length) (hR _ mh2) underlying46 sizeOf53 I I rP (by exact zcu _ oM) nP).cv (show _=zI 1 D (((i%J.length)*9+0)) from zbi (zI 1 D) zoz)) I (w_q I (λh' L' hh hR=>(rG (sz:=3) (q:=1) 1 (y3e (y3u _) zT (i%J.length) (by exact zcu _ oM)) I nP (aj.mono hh) (hR _ mh2) underlying53 sizeOf26 I I I dC).cv (show _=zI 1 D (((i%J.length)*9+3)) from zbi (zI 1 D) (by show((i%J.length)*9+0)+1*3=((i%J.length)*9+3);omega))) I (tA (F:=λv_=>(rpQ (k+1)).Is mp v_ ((J.getD (i%J.length) zT).y)) I (xP yJ (y3e (y5i (y3u _)) zT (i%J.length) (by exact zcu _ oM)) I nP I aj I) (kH mh2) I ?_))))));intro nl fw;refine wX I (xB yJ pH lj) λnk fv=>(wX I (xV (ρ:=(tPt (k+l1+l2+1))) (wI (ps':=[(0,_),(1,_),(2,_)]) underlying53 yO I I sizeOf26 e6z I (yS (yE oM)) (zC I (y4e (y3u _)) (fx.le (Le.q (l:=k+l1+l2+1) oM)) (zC I (y5i (y3u _)) (fw.le (Le.q (l:=k+l1+l2+1) oM)) (zC I (y5u (y3u _)) (fv.le (Le.q (l:=k+l1+l2+1) oM)) zQ))))) λnj fu=>?_);refine w_c I (jN (λX=>zN (ρ:=(tPt (k+l1+l2+1))) (m:=1) (xs:=[(T3.mk ((J.getD (i%J.length) zT).x) ((J.getD (i%J.length) zT).y) hi)]) (ps':=[(0,_)]) underlying46 yO I I I (yS (yE oM)) e2z (zC I (y3e (y3u _) zT 0 dC) fu zQ) zok nP) I ?_)
   rintro ni qw ⟨nb,rfl,ed⟩
   refine w_c I (xT (A:=[]) (ρ:=(tPt (k+l1+l2+1))) ed dK ?_);intro h4 aq js;replace bf:=bf.mono aq;refine gV (A:=[_]) (λX=>uN (yB (ρ:=(tPt (k+l1+l2+5))) (bytes:=168) underlying46 yO I I I I nP I I bf (js.le (Le.s (Le.t (Le.q (l:=k+l1+l2+5) oM)))) bO bO)) I (wA zox) ?_
   rintro fi qv ⟨ce,ev,rfl,ec⟩
   refine xD I (λ_ _=>(wN underlying50 I sizeOf46 I).cv (show _=vP aa 0 from zbi (vP aa) zoz)) I ?_;replace ao:=ao.mono aq;refine yG (A:=[_,_,_,_,_]) I (uB sizeOf46 (y4i pH) ao (dF ce)) λmy li=>(fP (kY (wO (e':=[(4,_),(5,_),(6,_),(10,_),(12,_),(13,_),(20,_),(21,_)]) e8 (zG (zD (mv I I (gv (zV (q:=1) I I oM oM) I (asg I I (zO (uR (A:=[]) ?_))))))))));refine gqL ((i+1),(PP++[(T3.mk ((J.getD (i%J.length) zT).x) ((J.getD (i%J.length) zT).y) hi)]),my,fi,ev,h4) ?_ ?_
   · exact⟨mle,li,ec,ce,by omega,by rw[ix,bj];exact zbi (λz=>zS5 L lo hi i++[T3.mk _ _ z]) (zau (by have h9:=em;rw[bj] at h9;exact h9)).symm⟩
   omega
  refine wW (zG ?_);refine jS (A:=[_]) 21 [] (zai 0 18 [(18,.c),(19,.c),(20,.q),(21,.t)]) yA nX (wV zot) nX (xD I (λ_ _=>(wN underlying50 I sizeOf46 I).cv (show _=vP aa 0 from zbi (vP aa) zoz)) I (wX I (fN (xB qD (y4i pH) ao)) λnn fy=>?_));subst fy;refine wZ I I I (wZ I I I (wZ I I I (xD I (λ_ _=>vC I I oM oM) I (w_q I (λh' L' hh hR=>(yP (i%J.length) (hR _ mh2) underlying46 sizeOf53 I I rP (by exact zcu _ oM) nP).cv (show _=zI 1 D (((i%J.length)*9+0)) from zbi (zI 1 D) zoz)) I ?_))));replace aj:=aj.mono bs;refine w_q I (λh' L' hh hR=>(rG (sz:=3) (q:=0) 0 (y3e (y3u _) zT (i%J.length) (by exact zcu _ oM)) I nP (aj.mono hh) (hR _ mh2) underlying53 sizeOf26 I I I dC).cv (show _=zI 1 D (((i%J.length)*9+0)) from zbi (zI 1 D) (by show((i%J.length)*9+0)+0*3=((i%J.length)*9+0);omega))) I (tA (F:=λv_=>(rpQ (k+1)).Is mp v_ ((J.getD (i%J.length) zT).x)) I (xP yJ (y3e (y4e (y3u _)) zT (i%J.length) (by exact zcu _ oM)) I nP I aj I) (kH mh2) I ?_);intro nm fx;refine wZ I I I (wZ I I I (wZ I I I (xD I (λ_ _=>vC I I oM oM) I (w_q I (λh' L' hh hR=>(yP (i%J.length) (hR _ mh2) underlying46 sizeOf53 I I rP (by exact zcu _ oM) nP).cv (show _=zI 1 D (((i%J.length)*9+0)) from zbi (zI 1 D) zoz)) I (w_q I (λh' L' hh hR=>(rG (sz:=3) (q:=1) 1 (y3e (y3u _) zT (i%J.length) (by exact zcu _ oM)) I nP (aj.mono hh) (hR _ mh2) underlying53 sizeOf26 I I I dC).cv (show _=zI 1 D (((i%J.length)*9+3)) from zbi (zI 1 D) (by show((i%J.length)*9+0)+1*3=((i%J.length)*9+3);omega))) I (tA (F:=λv_=>(rpQ (k+1)).Is mp v_ ((J.getD (i%J.length) zT).y)) I (xP yJ (y3e (y5i (y3u _)) zT (i%J.length) (by exact zcu _ oM)) I nP I aj I) (kH mh2) I ?_))))));intro nl fw;refine wX I (xB yJ pH fl) λnk fv=>(wX I (xV (ρ:=(tPt (k+l1+1))) (wI (ps':=[(0,_),(1,_),(2,_)]) underlying53 yO I I sizeOf26 e6z I (yS (yE oM)) (zC I (y4e (y3u _)) (fx.le (Le.q (l:=k+l1+1) oM)) (zC I (y5i (y3u _)) (fw.le (Le.q (l:=k+l1+1) oM)) (zC I (y5u (y3u _)) (fv.le (Le.q (l:=k+l1+1) oM)) zQ))))) λnj fu=>?_);refine w_c I (jN (λX=>zN (ρ:=(tPt (k+l1+1))) (m:=1) (xs:=[(T3.mk ((J.getD (i%J.length) zT).x) ((J.getD (i%J.length) zT).y) lo)]) (ps':=[(0,_)]) underlying46 yO I I I (yS (yE oM)) e2z (zC I (y3e (y3u _) zT 0 dC) fu zQ) zok nP) I ?_)
  rintro ni qw ⟨nb,rfl,ed⟩
  refine w_c I (xT (A:=[]) (ρ:=(tPt (k+l1+1))) ed dK ?_);intro h4 aq jr;replace bf:=bf.mono aq;refine gV (A:=[_]) (λX=>uN (yB (ρ:=(tPt (k+l1+l2+5))) (bytes:=168) underlying46 yO I I I I nP I I bf (jr.le (Le.s (Le.t (Le.q (l:=k+l1+l2+5) oM)))) bO bO)) I (wA zox) ?_
  rintro fi qv ⟨ce,ev,rfl,ec⟩
  refine xD I (λ_ _=>(wN underlying50 I sizeOf46 I).cv (show _=vP aa 0 from zbi (vP aa) zoz)) I ?_;replace ao:=ao.mono aq;refine yG (A:=[_,_,_,_,_]) I (uB sizeOf46 (y4i pH) ao (dF ce)) λmx lh=>(fP (kY (wO (e':=[(4,_),(5,_),(6,_),(10,_),(12,_),(13,_),(20,_),(21,_)]) e8 (zG (zD (mv I I (gv (zV (q:=1) I I oM oM) I (asg I I (zO (uR (A:=[]) ?_))))))))));refine gqL ((i+1),(PP++[(T3.mk ((J.getD (i%J.length) zT).x) ((J.getD (i%J.length) zT).y) lo)]),mx,fi,ev,h4) ?_ ?_
  · exact⟨mle,lh,ec,ce,by omega,by rw[ix,bj];exact zbi (λz=>zS5 L lo hi i++[T3.mk _ _ z]) (zae (by have h9:=em;rw[bj] at h9;exact h9)).symm⟩
  omega
 have gm:PP=ppZ L lo hi:=by rw[ix,show i=2*J.length by omega,bj];rfl
 have yv:PP.length=2*J.length:=by rw[gm,bj];exact zOQ
 refine kR (vQ (vQ (kP (zG (zL (zD (zX (A:=[]) (ρ:=(tPt (k+l1+l2+5))) bf ?_)))))));intro h4 aq jq;replace ao:=ao.mono aq;have lg:(rpP (tLs (k+l1+l2+5)) (rpP rpV (rpS (rpP rpI (rpP rpI (rpQ 1)))))).R h4 cl (PP,(cb,(Value.slice none 0 0,[])).2):=zZS ao jq;refine cL (vs:=[vI (1)]) ⟨I,y3i⟩ call39 (λw hs=>qI hs dC dC) λxm h5 cm qg=>(nA (ρ:=(rpQ 2)) (X:=(0:Rat)) yR (yE dC) λnf za oc=>(zU (A:=[]) (uB sizeOf26 pH oc qg) λeq cy=>(zO (zG (zL ?_)))));refine zK 10 _ [(9,(24,83,[.bool false,.slice none 0 0,.slice none 0 0,.bool false,.slice none 0 0,.slice none 0 0,.bool false,.slice none 0 0,.slice none 0 0,.bool false,.slice none 0 0,.slice none 0 0,.slice none 0 0,.string ⟨#[]⟩]))] [(0,.q),(1,.q),(2,.q),(5,.q),(3,.c),(4,.q),(6,.c),(7,.q),(8,.q),(9,.a),(10,.t)] yA (jT.cons I I (uX qJ I I) jT.nil) zot (qA I I kO) (λr hr=>hr) (wX I (xV (ρ:=(rpQ 1)) (xE (ps':=[]) underlying26 yR I I (uE underlying26) trivial I (yE dC) zQ)) λxl ft=>(wX I (xV (ρ:=(rpQ 1)) (xE (ps':=[]) underlying26 yR I I (uE underlying26) trivial I (yE dC) zQ)) λxk fs=>(wX I (xB yJ pH cy) λxj qf=>?_)));replace dc:=dc.mono ((((du.trans cf).trans bs).trans aq).trans cm);refine wX I (xB yJ pH dc) λxg fq=>?_;refine w_c I (sC (ev1 I) call31 (λw hs=>lE hs qf dC) λxi h6 dd qe=>?_);replace ft:=ft.mono dd;replace fs:=fs.mono dd;refine wX I (xV (ρ:=(tPt 2)) (wI (ps':=[(0,_),(1,_),(2,_)]) underlying53 yO I I sizeOf26 e6z I (yS (yE dC)) (zC I (y4e (y3u _)) (ft.le (Le.q (l:=2) dC)) (zC I (y5i (y3u _)) (fs.le (Le.q (l:=2) dC)) (zC I (y5u (y3u _)) qe zQ))))) λxh fr=>?_;refine w_c I ?_;replace fq:=fq.mono dd;refine sC (ev1 I) call31 (λw hs=>lE hs fq oM) λxf h7 gi qd=>?_;replace fr:=fr.mono gi;refine wX I (xV (ρ:=(tPl 2 (l1+1))) (xE (ps':=[(0,_),(1,_)]) underlying80 sU I I (sM underlying80) e4z I (yF (yS (yE dC)) (yE oM)) (zC I (y4i (y3u _)) fr (zC I (y4u (y3u _)) (qd.le (Le.q (l:=l1+1) oM)) zQ)))) λxe qc=>(wX I (xV (ρ:=(rpP (tPl 2 (l1+1)) (rpP rpV uP))) (xE (ps':=[(0,_),(2,_)]) underlying83 qJ I I (bP underlying83) e4z I (yF (yF (yS (yE dC)) (yE oM)) (yF fG kE)) (zC I (y4i (y3u _)) qc (zC I (y4u (y4u (y3u _))) (bA (show ByB [98,111,116,116,111,109] by unfold ByB;decide)) zQ)))) λxd qb=>?_);refine w_a I I (λco=>?_);have ob:(rpP (tPl 1 1) (rpP rpV uP)).R h7 [.bool false,.slice none 0 0,.slice none 0 0,.bool false,.slice none 0 0,.slice none 0 0,.bool false,.slice none 0 0,.slice none 0 0,.bool false,.slice none 0 0,.slice none 0 0,.slice none 0 0,.string ⟨#[]⟩] ((zT,(0:Rat)),((Value.slice none 0 0),([]:List Nat))):=(yF (yF (yS (yE dC)) (yE dC)) (yF fG kE));have jn:=(Le.p (Le.p (Le.t (Le.q (l:=2) dC)) (Le.q (l:=l1+1) oM)) (Le.refl _)).R ob;refine yG (A:=[]) I (uB sizeOf83 pH jn qb) λmw lf=>(fP (wO (e':=[(5,_),(6,_),(10,_),(13,_),(20,_),(23,_),(24,_)]) e7 (zG (zL (zD (lX (xV (ρ:=(rpQ 1)) (xE (ps':=[]) underlying26 yR I I (uE underlying26) trivial I (yE dC) zQ)) λxc qa=>(lX (xV (ρ:=(rpQ 1)) (xE (ps':=[]) underlying26 yR I I (uE underlying26) trivial I (yE dC) zQ)) λxb pz=>?_)))))));replace cy:=cy.mono (dd.trans gi);refine lX (xB yJ pH cy) λxa py=>(lX (xV (ρ:=(tPt 2)) (wI (ps':=[(0,_),(1,_),(2,_)]) underlying53 yO I I sizeOf26 e6z I (yS (yE dC)) (zC I (y4e (y3u _)) (qa.le (Le.q (l:=2) dC)) (zC I (y5i (y3u _)) (pz.le (Le.q (l:=2) dC)) (zC I (y5u (y3u _)) py zQ))))) λwz px=>?_);replace db:=db.mono ((((((du.trans cf).trans bs).trans aq).trans cm).trans dd).trans gi);refine lX (xB yJ pH db) λwy pw=>(lX (xV (ρ:=(tPl 2 (l2+1))) (xE (ps':=[(0,_),(1,_)]) underlying80 sU I I (sM underlying80) e4z I (yF (yS (yE dC)) (yE oM)) (zC I (y4i (y3u _)) px (zC I (y4u (y3u _)) (pw.le (Le.q (l:=l2+1) oM)) zQ)))) λwx pv=>(lX (xV (ρ:=(rpP (tPl 2 (l2+1)) (rpP rpV uP))) (xE (ps':=[(0,_),(2,_)]) underlying83 qJ I I (bP underlying83) e4z I (yF (yF (yS (yE dC)) (yE oM)) (yF fG kE)) (zC I (y4i (y3u _)) pv (zC I (y4u (y4u (y3u _))) (bA (show ByB [116,111,112] by unfold ByB;decide)) zQ)))) λww pu=>(nA (ρ:=(rpP (tPl 1 1) (rpP rpV uP))) (X:=((zT,(0:Rat)),((Value.slice none 0 0),([]:List Nat)))) qJ (yF (yF (yS (yE dC)) (yE dC)) (yF fG kE)) λcn yz oa=>?_)))
 have jm:=(Le.p (Le.p (Le.t (Le.q (l:=2) dC)) (Le.q (l:=l2+1) oM)) (Le.refl _)).R oa;refine zU (A:=[]) (uB sizeOf83 pH jm pu) λmu ld=>(zO (zG (zL (zL (zD (asg (v:=vI (0)) I I (zO (zG (xJ (xK 83 14 ?_))))))))));have kd:=RL.nil (ρ:=rpP (tPl (4*k+4*l1+4*l2+40) (100*k+100*l1+100*l2+1000)) (rpP tII uP)) (h:=h7);refine xK 32 1 ?_;have kc:=RL.nil (ρ:=rpS rpI) (h:=h7);refine xK 32 1 ?_;have kb:=RL.nil (ρ:=rpS rpI) (h:=h7);refine gcL (ι:=Nat×List Fc×List (List Int)×List (List Int)×List Value×List Value×List Value×Value×List Value×Value×List Value×Value×List Value×Mem) (λ(i,F0,C0,T0,ck,di,cj,az,ci,ap,ep,an,dh,mq)=>(MLe h7 mq/\((rpP (tLs (k+l1+l2+5)) (rpP rpV (rpS (rpP rpI (rpP rpI (rpQ 1)))))).R mq ck (PP,(az,([]:List En)))/\(rpP (tPl 5 (l1+l2+5)) (rpP rpV uP)).R mq di ((T3.mk (0:Rat) (0:Rat) (-((1:Int):Rat)),-lo),(ap,[98,111,116,116,111,109]))/\(rpP (tPl 5 (l1+l2+5)) (rpP rpV uP)).R mq cj ((T3.mk (0:Rat) (0:Rat) ((1:Int):Rat),hi),(an,[116,111,112]))/\RL (tFc (4*k+4*l1+4*l2+40) (100*k+100*l1+100*l2+1000)) mq ci F0/\az.oneCell'=true/\RL (rpS rpI) mq ep C0/\ap.oneCell'=true/\RL (rpS rpI) mq dh T0/\an.oneCell'=true/\i<=II.length/\C0=zY7 L i/\T0=zUT L i/\F0=zLJ L lo hi i),[(6,vP b6 0),(10,vP aa 0),(13,C),(20,vI (↑J.length:Int)),(24,vP co 0),(25,vP cn 0),(26,vI ↑i)],[.gs 32 1 an T0.length dh,.gs 32 1 ap C0.length ep,.gs 83 14 az F0.length ci,.var cn 83 cj,.var co 83 di,.var nf 26 eq,.gs 32 1 C II.length aw,.gs 53 9 D J.length bc,.gs 116 2 ad ED.length au,.var aa 50 ck,.var b6 50 dy,.var b5 26 dz,.var b4 26 ea],mq,II.length-i)) (0,[],[],[],cl,mw,mu,(.slice none 0 0),[],(.slice none 0 0),[],(.slice none 0 0),[],h7) ?_ ?_
 · exact⟨mle,lg.up,((Le.p (Le.p (Le.t (Le.q (l:=5) dC)) (Le.q (l:=l1+l2+5) oM)) (Le.refl _)).R lf),((Le.p (Le.p (Le.t (Le.q (l:=5) dC)) (Le.q (l:=l1+l2+5) oM)) (Le.refl _)).R ld),kd,I,kc,I,kb,I,by omega,I,I,I⟩
 rintro⟨i,F0,C0,T0,ck,di,cj,az,ci,ap,ep,an,dh,mq⟩ ⟨jh,cd,bh,av,cu,lt,ct,tc,bq,rk,hi3,ja,iw,iz⟩
 refine yW ?_;have hCl:C0.length=i:=by rw[ja];exact xZ _ _
 have hTl:T0.length=i:=by rw[iw];exact xZ _ _
 have hFl:F0.length=iE L i:=by rw[iz];exact zU9 oM
 have rc:=lw i oM;refine zL (zL (zD (mv I I (mv I I (gv (jU mh6 underlying81 I) I (gv (yH I I) I (zO (zG ?_))))))));refine cnd (λmc=>?_) λmc=>?_
 ·
  have jj:=mm i oM;have io:=dt.2 i oM;refine wW (zG (zL (xJ (zL ?_))));refine jS (A:=[_]) 10 [] (zai 0 6 [(6,.c),(7,.c),(8,.c),(9,.q),(10,.t)]) yA nX zot nX (xD I (λ_ _=>(wN underlying83 I sizeOf81 I).cv (show _=vP co 12 from zbi (vP co) zoz)) I (wX I (fN (xB rQ (y4u (y4i pH)) bh)) λwv pt=>?_));subst pt;refine wZ I I I (wZ I I I (w_q I (λh' L' hh hR=>(yP i (hR _ mh5) underlying81 sizeOf32 I I I bO nP).cv (show _=zI 1 C ((i*1+0)) from zbi (zI 1 C) zoz)) I ?_));replace ac:=ac.mono (((((bs.trans aq).trans cm).trans dd).trans gi).trans jh);refine tA (F:=λv_=>(rpS rpI).Is mq v_ (II.getD i [])) I (xP fR (y3e (y3u _) [] i bO) I nP I ac I) (kH mh5) I ?_;intro wu pq;refine w_c I (sC (ev1 I) call65 (λw hs=>iX hs pq oM) λwt h8 bt pp=>?_);refine w_c I (jN (λX=>zN (ρ:=(rpS rpI)) (m:=1) (xs:=[zAA (II.getD i []) (II.getD i []).length]) (ps':=[(0,_)]) underlying81 jH I I I wD e2z (zC I (y3e (y3u _) [] 0 dC) pp zQ) zoj nP) I ?_)
  rintro ws yn ⟨un,rfl,kw⟩
  refine w_c I (xT (A:=[]) (ρ:=(rpS rpI)) kw dK ?_);intro h9 cg ic;replace ct:=ct.mono (bt.trans cg);refine gV (A:=[_]) (λX=>uN (yB (ρ:=(rpS rpI)) (bytes:=24) underlying81 jH I I I I nP I I ct ic bO bO)) I (wA zox) ?_
  rintro fh ym ⟨gf,eu,rfl,kv⟩
  refine xD I (λ_ _=>(wN underlying83 I sizeOf81 I).cv (show _=vP co 12 from zbi (vP co) zoz)) I ?_;replace bh:=bh.mono (bt.trans cg);refine yG (A:=[_,_,_,_]) I (uB sizeOf81 (y4u (y4i pH)) bh (dF gf)) λdm im=>(fP (wO (e':=[(6,_),(10,_),(13,_),(20,_),(24,_),(25,_),(26,_)]) e7 (zG (zL (zD (asg I I (zO (zG (zL (zL (zD (asg (v:=vI (0)) I I (zO ?_)))))))))))));refine zG (xJ (xK 3 1 ?_));have ie:=RL.nil (ρ:=rpI) (h:=h9);refine gcL (ι:=Nat×List Int×Value×List Value×Mem) (λ(q,TL,cc,dl,mr)=>(MLe h9 mr/\(RL rpI mr dl TL/\q<=(II.getD i []).length/\TL=tpL L i q),[(6,vP b6 0),(10,vP aa 0),(13,C),(20,vI (↑J.length:Int)),(24,vP co 0),(25,vP cn 0),(26,vI ↑i),(27,cc),(28,vI ↑q)],[.gs 3 1 cc TL.length dl,.gs 32 1 an T0.length dh,.gs 32 1 fh (C0++[zAA (II.getD i []) (II.getD i []).length]).length eu,.gs 83 14 az F0.length ci,.var cn 83 cj,.var co 83 dm,.var nf 26 eq,.gs 32 1 C II.length aw,.gs 53 9 D J.length bc,.gs 116 2 ad ED.length au,.var aa 50 ck,.var b6 50 dy,.var b5 26 dz,.var b4 26 ea],mr,(II.getD i []).length-q)) (0,[],(.slice none 0 0),[],h9) ?_ ?_
  · exact⟨mle,ie,by omega,I⟩
  rintro⟨q,TL,cc,dl,mr⟩ ⟨gh,bx,hq2,ml⟩
  refine yW ?_;have yu:TL.length=q:=by rw[ml];exact xZ _ _
  have jj:=mm i oM;have io:=dt.2 i oM;refine zL (zL (zD (mv I I (mv I I (mv I I (gv ((yP i mh7 underlying81 sizeOf32 I I I bO nP).cv (show _=zI 1 C ((i*1+0)) from zbi (zI 1 C) zoz)) I ?_))))));replace ac:=ac.mono ((bt.trans cg).trans gh);refine zGQ (F:=λv_=>(rpS rpI).Is mr v_ (II.getD i [])) (xP fR (y3e (y3u _) [] i bO) I nP I ac I) (kH mh7) I ?_;intro wq po;refine gv (jA underlying32 I po) I (gv (yH I I) I (zO (zG ?_)));refine cnd (λlz=>?_) λlz=>?_
  ·
   have ta:=gb i q oM oM;refine wW (zG (zL (xJ (zD (mv I I (mv I I (mv I I (gv ((yP i mh7 underlying81 sizeOf32 I I I bO nP).cv (show _=zI 1 C ((i*1+0)) from zbi (zI 1 C) zoz)) I (zGQ (F:=λv_=>(rpS rpI).Is mr v_ (II.getD i [])) (xP fR (y3e (y3u _) [] i bO) I nP I ac I) (kH mh7) I ?_)))))))));intro wp pn;refine mv I I (lX (xI (0:Int) q underlying32 ty3 pn) λwo pm=>(lX (xA ty3 pm) λwm pk=>?_));obtain⟨rfl,tk,sw⟩:=gJ pk;refine mv I I (gv (zV I I (by(have:=gb i q oM oM;omega)) (by(have:=gb i q oM oM;omega))) I (zH (zN (ρ:=rpI) (m:=1) (xs:=[(((II.getD i []).getD q (0:Int))+(↑J.length:Int))]) (ps':=[(0,_)]) underlying32 jV I I I wY e2z (zC I (y3e (y3u _) (0:Int) 0 dC) (wL oM oM) zQ) zoj nP) I I I ?_))
   rintro wl yl ⟨um,rfl,ku⟩
   refine zX (A:=[]) (ρ:=rpI) ku ?_;intro ms bp ib;replace bx:=bx.mono bp;refine xU (A:=[]) (uN (yB (ρ:=rpI) (bytes:=8) underlying32 jV I I I I nP I I bx ib bO bO)) I I I ?_
   rintro nh yk ⟨te,na,rfl,ks⟩
   refine asg I I (zO (kY (wO (e':=[(6,_),(10,_),(13,_),(20,_),(24,_),(25,_),(26,_),(28,_),(27,_)]) ⟨I,I,I,I,I,I,I,I,I,y3i⟩ (zG (zD (mv I I (gv (zV (q:=1) I I oM oM) I (asg I I (zO ?_)))))))));refine gqL ((q+1),(TL++[(((II.getD i []).getD q (0:Int))+(↑J.length:Int))]),nh,na,ms) ?_ ?_
   · exact⟨mle,ks,by omega,by rw[ml,ch,bj];rfl⟩
   omega
  have ek:q=(II.getD i []).length:=by omega
  refine kR (vQ (vQ (kP (zG (zL (zD (gv ((wN underlying83 I sizeOf81 I).cv (show _=vP cn 12 from zbi (vP cn) zoz)) I ?_)))))));replace av:=av.mono ((bt.trans cg).trans gh);refine lX (fN (xB rQ (y4u (y4i pH)) av)) λwk pj=>?_;subst pj;refine mv I I (zX (A:=[]) (ρ:=rpI) bx ?_);intro ms bp ia;refine zH (zN (ρ:=(rpS rpI)) (m:=1) (xs:=[TL]) (ps':=[(0,_)]) underlying81 jH I I I wD e2z (zC I (y3e (y3u _) [] 0 dC) ia zQ) zoj nP) I I I ?_
  rintro wj yj ⟨ul,rfl,kr⟩
  refine zX (A:=[]) (ρ:=(rpS rpI)) kr ?_;intro go cq hw;replace bq:=bq.mono ((((bt.trans cg).trans gh).trans bp).trans cq);refine xU (A:=[]) (uN (yB (ρ:=(rpS rpI)) (bytes:=24) underlying81 jH I I I I nP I I bq hw bO bO)) I I I ?_
  rintro jg yi ⟨ge,gq,rfl,kq⟩
  refine gv ((wN underlying83 I sizeOf81 I).cv (show _=vP cn 12 from zbi (vP cn) zoz)) I ?_;replace av:=av.mono (bp.trans cq);refine zU (A:=[_,_,_]) (uB sizeOf81 (y4u (y4i pH)) av (dF ge)) λfe il=>(zO (wO (e':=[(6,_),(10,_),(13,_),(20,_),(24,_),(25,_),(26,_)]) e7 (zG (zL (zD (asg (v:=vI (0)) I I (zO (zG (xJ ?_)))))))));refine gcL (ι:=Nat×List Fc×List Value×Value×List Value×Mem) (λ(q,F1,ca,ae,bz,mf)=>(MLe go mf/\((rpP (tLs (k+l1+l2+5)) (rpP rpV (rpS (rpP rpI (rpP rpI (rpQ 1)))))).R mf ca (PP,(ae,([]:List En)))/\RL (tFc (4*k+4*l1+4*l2+40) (100*k+100*l1+100*l2+1000)) mf bz F1/\ae.oneCell'=true/\q<=(II.getD i []).length/\F1=zLJ L lo hi i++sfX L lo hi i q),[(6,vP b6 0),(10,vP aa 0),(13,C),(20,vI (↑J.length:Int)),(24,vP co 0),(25,vP cn 0),(26,vI ↑i),(29,vI ↑q)],[.gs 32 1 jg (T0++[TL]).length gq,.gs 32 1 fh (C0++[zAA (II.getD i []) (II.getD i []).length]).length eu,.gs 83 14 ae F1.length bz,.var cn 83 fe,.var co 83 dm,.var nf 26 eq,.gs 32 1 C II.length aw,.gs 53 9 D J.length bc,.gs 116 2 ad ED.length au,.var aa 50 ca,.var b6 50 dy,.var b5 26 dz,.var b4 26 ea],mf,(II.getD i []).length-q)) (0,F0,ck,az,ci,go) ?_ ?_
  · exact⟨mle,cd.up,cu.up,lt,by omega,by rw[iz];exact(zli _).symm⟩
  rintro⟨q,F1,ca,ae,bz,mf⟩ ⟨qz,am,bw,iv,hq3,mn⟩
  refine yW ?_;have yw:F1.length=iE L i+q:=by rw[mn,lAz,zU9 oM];exact zbi _ (xZ _ _)
  have jj:=mm i oM;have io:=dt.2 i oM;have zz:=zA3 (((i:Int):Int):Rat);have zy:=zA3 (((q:Int):Int):Rat);have hqi:=nR (i:Int) oM oM;have hqk:=nR (q:Int) oM oM;refine zL (zL (zD (mv I I (mv I I (mv I I (gv ((yP i mh6 underlying81 sizeOf32 I I I bO nP).cv (show _=zI 1 C ((i*1+0)) from zbi (zI 1 C) zoz)) I ?_))))));replace ac:=ac.mono ((bp.trans cq).trans qz);refine zGQ (F:=λv_=>(rpS rpI).Is mf v_ (II.getD i [])) (xP fR (y3e (y3u _) [] i bO) I nP I ac I) (kH mh6) I ?_;intro wi pi;refine gv (jA underlying32 I pi) I (gv (yH I I) I (zO (zG ?_)));refine cnd (λly=>?_) λly=>?_
  ·
   have ta:=gb i q oM oM;have hrb:=gb i ((q+1)%(II.getD i []).length) oM (zcu _ oM);refine wW (zG (zL (xJ (zL ?_))));refine zK 23 _ [] (zai 0 23 []) yA nX (wV zot) nX (λr hr=>hr) (wZ I I I (wZ I I I (w_q I (λh' L' hh hR=>(yP i (hR _ mh6) underlying81 sizeOf32 I I I bO nP).cv (show _=zI 1 C ((i*1+0)) from zbi (zI 1 C) zoz)) I (tA (F:=λv_=>(rpS rpI).Is mf v_ (II.getD i [])) I (xP fR (y3e (y3u _) [] i bO) I nP I ac I) (kH mh6) I ?_))));intro wh ph;refine wZ I I I (wX I (xI (0:Int) q underlying32 ty3 ph) λwg pg=>(wX I (xA ty3 pg) λwf pf=>?_));obtain⟨rfl,tj,sv⟩:=gJ pf;refine wZ I I I (wZ I I I (w_q I (λh' L' hh hR=>(yP i (hR _ mh6) underlying81 sizeOf32 I I I bO nP).cv (show _=zI 1 C ((i*1+0)) from zbi (zI 1 C) zoz)) I (tA (F:=λv_=>(rpS rpI).Is mf v_ (II.getD i [])) I (xP fR (y3e (y3u _) [] i bO) I nP I ac I) (kH mh6) I ?_)));intro we pe;refine wZ I I I (xD I (λ_ _=>zV (q:=1) I I oM oM) I (wZ I I I (wZ I I I (w_q I (λh' L' hh hR=>(yP i (hR _ mh6) underlying81 sizeOf32 I I I bO nP).cv (show _=zI 1 C ((i*1+0)) from zbi (zI 1 C) zoz)) I (tA (F:=λv_=>(rpS rpI).Is mf v_ (II.getD i [])) I (xP fR (y3e (y3u _) [] i bO) I nP I ac I) (kH mh6) I ?_)))));intro wd pd;refine w_q I (λh' L' hh hR=>jA underlying32 I (pd.mono hh)) I (xD I (λ_ _=>vC I I oM oM) I (wX I (xI (0:Int) ((q+1)%(II.getD i []).length) underlying32 ty3 pe (hi:=by exact zcu _ oM)) λwc pc=>(wX I (xA ty3 pc) λwb oz=>?_)));obtain⟨rfl,ti,su⟩:=gJ oz;refine zHA I I I (zHA I I I (fP (wO (e':=[(6,_),(10,_),(13,_),(20,_),(24,_),(25,_),(26,_),(29,_),(30,_),(31,_)]) e10 (zG (zL ?_)))));refine zK 12 _ [(11,(32,53,y5e))] (zai 0 10 [(10,.c),(11,.a),(12,.t)]) yA (jT.cons I I (uX yO I I) jT.nil) (wV zot) (qA I I kO) (λr hr=>hr) (xD I (λ_ _=>(wN underlying50 I sizeOf46 I).cv (show _=vP aa 0 from zbi (vP aa) zoz)) I (wX I (xB qD (y4i pH) am) λwa oy=>(wZ I I I (wX I (xI zT (((II.getD i []).getD ((q+1)%(II.getD i []).length) 0).toNat) underlying46 zR oy (hi:=by(show _<PP.length;omega))) λvz ox=>(wX I (xA zR ox) λvy ow=>(xD I (λ_ _=>(wN underlying50 I sizeOf46 I).cv (show _=vP aa 0 from zbi (vP aa) zoz)) I (wX I (xB qD (y4i pH) am) λvx ou=>(wZ I I I (wX I (xI zT (((II.getD i []).getD q 0).toNat) underlying46 zR ou (hi:=by(show _<PP.length;omega))) λvw ot=>(wX I (xA zR ot) λvv os=>?_))))))))));refine w_c I (sC (ev2 I I) call125 (λw hs=>zMC hs ow os oM) λvu mo fb fp=>?_);replace fp:=Rp.Is.le fp (Le.t (Le.q (l:=4*k+4*l1+4*l2+23) oM));refine w_a I I (λjd=>?_);have nz:(tPt 1).R mo y5e zT:=(yS (yE dC));have gw:=(Le.t (Le.q (l:=4*k+4*l1+4*l2+23) oM)).R nz;refine yG (A:=[]) I (uB sizeOf53 pH gw fp) λro ez=>(fP (wO (e':=[(6,_),(10,_),(13,_),(20,_),(24,_),(25,_),(26,_),(29,_),(30,_),(31,_),(32,_)]) ⟨I,I,I,I,I,I,I,I,I,I,I,y3i⟩ (zG (zL ?_))));refine zK 8 _ [(7,(33,53,y5e))] (zai 0 4 [(5,.q),(4,.c),(6,.q),(7,.a),(8,.t)]) yA (jT.cons I I (uX yO I I) jT.nil) zot (qA I I kO) (λr hr=>hr) (xD I (λ_ _=>(zP (sz:=3) (q:=1) 1 underlying53 sizeOf26 I I I dC).cv (show _=vP jd 3 from zbi (vP jd) zoz)) I (wX I (xB yJ (y5i pH) ez) λvt fo=>(xD I (λ_ _=>(zP (sz:=3) (q:=0) 0 underlying53 sizeOf26 I I I dC).cv (show _=vP jd 0 from zbi (vP jd) zoz)) I (wX I (xB yJ (y4e pH) ez) λvq or=>(wX I (xV (ρ:=(rpQ 1)) (xE (ps':=[]) underlying26 yR I I (uE underlying26) trivial I (yE dC) zQ)) λvo fm=>?_)))))
   refine w_c I (sC (ev1 I) call31 (λw hs=>lE hs or oM) λvp uc fa oq=>?_);replace fo:=fo.mono fa;replace fm:=fm.mono fa;refine wX I (xV (ρ:=(tPt (4*k+4*l1+4*l2+23))) (wI (ps':=[(0,_),(1,_),(2,_)]) underlying53 yO I I sizeOf26 e6z I (yS (yE oM)) (zC I (y4e (y3u _)) fo (zC I (y5i (y3u _)) oq (zC I (y5u (y3u _)) (fm.le (Le.q (l:=4*k+4*l1+4*l2+23) oM)) zQ))))) λvn oo=>?_;refine w_a I I (λb33=>?_);have ny:(tPt 1).R uc y5e zT:=(yS (yE dC));have gu:=(Le.t (Le.q (l:=4*k+4*l1+4*l2+23) oM)).R ny;refine yG (A:=[]) I (uB sizeOf53 pH gu oo) λrn ey=>(fP (zG ?_));refine jS (A:=[_,_,_,_]) 32 [] (zai 0 9 (zai 11 8 [(21,.q),(25,.q),(0,.x [10,23,24,27] [9,10,22,23,24,26,27] [19,20]),(28,.c),(29,.c),(30,.c),(31,.q),(32,.t)])) yA nX zot nX (xD I (λ_ _=>(wN underlying50 I sizeOf47 I).cv (show _=vP aa 1 from zbi (vP aa) zoz)) I ?_);replace am:=am.mono (fb.trans fa);refine wX I (fN (xB gG (y4u (y4i pH)) am)) λvm on=>?_;subst on;refine wX I (xB zR pH ey) λvl bn=>(wX I (xB zR pH ey) λvk dr=>(xD I (λ_ _=>(wN underlying50 I sizeOf46 I).cv (show _=vP aa 0 from zbi (vP aa) zoz)) I (wX I (xB qD (y4i pH) am) λvj om=>(wZ I I I (wX I (xI zT (((II.getD i []).getD q 0).toNat) underlying46 zR om (hi:=by(show _<PP.length;omega))) λvi ol=>(wX I (xA zR ol) λvh dq=>(wZ I I I (wZ I I I (wZ I I I (wZ I I I (xD I (λ_ _=>zV I I oM oM) I (wZ I I I (wZ I I I ?_)))))))))))));refine xD I (λ_ _=>zV I I oM oM) I (wZ I I I (wZ I I I (yDO (N:=9) I ?_)));refine zD7 I I I I ?x2 ?x3
   case' x2=>
    refine sC (ev2 I I) call44 (λw hs=>tU hs dr dq oM) λjf rj ay bb=>?_;replace bb:=Rp.Is.le bb (Le.q (l:=15*k+15*l1+15*l2+93) oM);refine tR I ?_;replace bn:=bn.mono ay;refine xX I (xV (ρ:=(tPl (4*k+4*l1+4*l2+23) (15*k+15*l1+15*l2+93))) (xE (ps':=[(0,_),(1,_)]) underlying80 sU I I (sM underlying80) e4z I (yF (yS (yE oM)) (yE oM)) (zC I (y4i (y3u _)) bn (zC I (y4u (y3u _)) bb zQ)))) λje Z=>?_;refine zD7 I I I I ?x4 ?x5
    case' x4=>
     refine sC (ev1 I) call126 (λw hs=>vY hs oM oM) λdn gn ab ba=>?_;obtain⟨rfl,br⟩:=kV ba;refine tR I (aD I (λ_ _=>vS (pa:=([115]:List Nat)) (pb:=(qZ (((↑i:Int):Int):Rat))) I I zou) I (tR I (aD I (λ_ _=>vS (pa:=(([115]:List Nat)++(qZ (((↑i:Int):Int):Rat)))) (pb:=([46]:List Nat)) I I zou) I ?_)));refine zD7 I I I I ?x6 ?x7
     case' x6=>
      refine sC (ev1 I) call126 (λw hs=>vY hs oM oM) λbl df U ah=>?_;obtain⟨rfl,ar⟩:=kV ah;refine tR I (aD I (λ_ _=>vS (pa:=((([115]:List Nat)++(qZ (((↑i:Int):Int):Rat)))++([46]:List Nat))) (pb:=(qZ (((↑q:Int):Int):Rat))) I I zou) I (zNV I I (jN (λX=>zN (ρ:=rpI) (m:=4) (xs:=(lU (II.getD i []) q J)) (ps':=[(0,_),(1,_),(2,_),(3,_)]) underlying32 jV I I I wY e8 (zC I (y3e (y3u _) (0:Int) 0 dC) (wL oM oM) (zC I (y3e (y3u _) (0:Int) 1 dC) (wL oM oM) (zC I (y3e (y3u _) (0:Int) 2 dC) (wL oM oM) (zC I (y3e (y3u _) (0:Int) 3 dC) (wL oM oM) zQ)))) zon nP) I ?_)));intro fg fz lr;obtain⟨es,rfl,G⟩:=lr;refine zNV I I (xT (A:=[]) (ρ:=rpI) G dK ?_);intro de O hv;refine jN (λX=>zN (ρ:=(rpS rpI)) (m:=1) (xs:=[(lU (II.getD i []) q J)]) (ps':=[(0,_)]) underlying81 jH I I I wD e2z (zC I (y3e (y3u _) [] 0 dC) hv zQ) zoj nP) I ?_;intro bm bo ak;obtain⟨ax,rfl,H⟩:=ak;refine s6 ?_;replace Z:=Z.mono ((ab.trans U).trans O)
     case' x7=>
      refine jN (λX=>zN (ρ:=rpI) (m:=4) (xs:=(lU (II.getD i []) q J)) (ps':=[(0,_),(1,_),(2,_),(3,_)]) underlying32 jV I I I wY e8 (zC I (y3e (y3u _) (0:Int) 0 dC) (wL oM oM) (zC I (y3e (y3u _) (0:Int) 1 dC) (wL oM oM) (zC I (y3e (y3u _) (0:Int) 2 dC) (wL oM oM) (zC I (y3e (y3u _) (0:Int) 3 dC) (wL oM oM) zQ)))) zon nP) I ?_
      rintro fg fz ⟨es,rfl,G⟩
      refine zD7 I I I I ?x8 ?x9
      case' x8=>
       refine sC (ev1 I) call126 (λw hs=>vY hs oM oM) λbl df U ah=>?_;obtain⟨rfl,ar⟩:=kV ah;refine tR I (aD I (λ_ _=>vS (pa:=((([115]:List Nat)++(qZ (((↑i:Int):Int):Rat)))++([46]:List Nat))) (pb:=(qZ (((↑q:Int):Int):Rat))) I I zou) I (zNV I I ?_));replace G:=G.mono U;refine xT (A:=[]) (ρ:=rpI) G dK ?_;intro de O hu;refine jN (λX=>zN (ρ:=(rpS rpI)) (m:=1) (xs:=[(lU (II.getD i []) q J)]) (ps':=[(0,_)]) underlying81 jH I I I wD e2z (zC I (y3e (y3u _) [] 0 dC) hu zQ) zoj nP) I ?_;intro bm bo ak;obtain⟨ax,rfl,H⟩:=ak;refine s6 ?_;replace Z:=Z.mono ((ab.trans U).trans O)
      case' x9=>
       refine xT (A:=[]) (ρ:=rpI) G dK ?_;intro df U ht;refine jN (λX=>zN (ρ:=(rpS rpI)) (m:=1) (xs:=[(lU (II.getD i []) q J)]) (ps':=[(0,_)]) underlying81 jH I I I wD e2z (zC I (y3e (y3u _) [] 0 dC) ht zQ) zoj nP) I ?_
       rintro bm bo ⟨ax,rfl,H⟩
       refine zAZ I I (sC (ev1 I) call126 (λw hs=>vY hs oM oM) λbl de O ah=>?_);obtain⟨rfl,ar⟩:=kV ah;refine tR I (aD I (λ_ _=>vS (pa:=((([115]:List Nat)++(qZ (((↑i:Int):Int):Rat)))++([46]:List Nat))) (pb:=(qZ (((↑q:Int):Int):Rat))) I I zou) I (s6 ?_));replace Z:=Z.mono ((ab.trans U).trans O);replace H:=H.mono O
    case' x5=>
     refine jN (λX=>zN (ρ:=rpI) (m:=4) (xs:=(lU (II.getD i []) q J)) (ps':=[(0,_),(1,_),(2,_),(3,_)]) underlying32 jV I I I wY e8 (zC I (y3e (y3u _) (0:Int) 0 dC) (wL oM oM) (zC I (y3e (y3u _) (0:Int) 1 dC) (wL oM oM) (zC I (y3e (y3u _) (0:Int) 2 dC) (wL oM oM) (zC I (y3e (y3u _) (0:Int) 3 dC) (wL oM oM) zQ)))) zon nP) I ?_
     rintro fg fz ⟨es,rfl,G⟩
     refine zD7 I I I I ?x10 ?x11
     case' x10=>
      refine sC (ev1 I) call126 (λw hs=>vY hs oM oM) λdn gn ab ba=>?_;obtain⟨rfl,br⟩:=kV ba;refine tR I (aD I (λ_ _=>vS (pa:=([115]:List Nat)) (pb:=(qZ (((↑i:Int):Int):Rat))) I I zou) I (tR I (aD I (λ_ _=>vS (pa:=(([115]:List Nat)++(qZ (((↑i:Int):Int):Rat)))) (pb:=([46]:List Nat)) I I zou) I ?_)));refine zD7 I I I I ?x12 ?x13
      case' x12=>
       refine sC (ev1 I) call126 (λw hs=>vY hs oM oM) λbl df U ah=>?_;obtain⟨rfl,ar⟩:=kV ah;refine tR I (aD I (λ_ _=>vS (pa:=((([115]:List Nat)++(qZ (((↑i:Int):Int):Rat)))++([46]:List Nat))) (pb:=(qZ (((↑q:Int):Int):Rat))) I I zou) I (zNV I I ?_));replace G:=G.mono (ab.trans U);refine xT (A:=[]) (ρ:=rpI) G dK ?_;intro de O hp;refine jN (λX=>zN (ρ:=(rpS rpI)) (m:=1) (xs:=[(lU (II.getD i []) q J)]) (ps':=[(0,_)]) underlying81 jH I I I wD e2z (zC I (y3e (y3u _) [] 0 dC) hp zQ) zoj nP) I ?_;intro bm bo ak;obtain⟨ax,rfl,H⟩:=ak;refine s6 ?_;replace Z:=Z.mono ((ab.trans U).trans O)
      case' x13=>
       replace G:=G.mono ab;refine xT (A:=[]) (ρ:=rpI) G dK ?_;intro df U ho;refine jN (λX=>zN (ρ:=(rpS rpI)) (m:=1) (xs:=[(lU (II.getD i []) q J)]) (ps':=[(0,_)]) underlying81 jH I I I wD e2z (zC I (y3e (y3u _) [] 0 dC) ho zQ) zoj nP) I ?_;intro bm bo ak;obtain⟨ax,rfl,H⟩:=ak;refine zAZ I I (sC (ev1 I) call126 (λw hs=>vY hs oM oM) λbl de O ah=>?_);obtain⟨rfl,ar⟩:=kV ah;refine tR I (aD I (λ_ _=>vS (pa:=((([115]:List Nat)++(qZ (((↑i:Int):Int):Rat)))++([46]:List Nat))) (pb:=(qZ (((↑q:Int):Int):Rat))) I I zou) I (s6 ?_));replace Z:=Z.mono ((ab.trans U).trans O);replace H:=H.mono O
     case' x11=>
      refine xT (A:=[]) (ρ:=rpI) G dK ?_;intro gn ab hn;refine jN (λX=>zN (ρ:=(rpS rpI)) (m:=1) (xs:=[(lU (II.getD i []) q J)]) (ps':=[(0,_)]) underlying81 jH I I I wD e2z (zC I (y3e (y3u _) [] 0 dC) hn zQ) zoj nP) I ?_
      rintro bm bo ⟨ax,rfl,H⟩
      refine zAZ I I (sC (ev1 I) call126 (λw hs=>vY hs oM oM) λdn df U ba=>?_);obtain⟨rfl,br⟩:=kV ba;refine tR I (aD I (λ_ _=>vS (pa:=([115]:List Nat)) (pb:=(qZ (((↑i:Int):Int):Rat))) I I zou) I (tR I (aD I (λ_ _=>vS (pa:=(([115]:List Nat)++(qZ (((↑i:Int):Int):Rat)))) (pb:=([46]:List Nat)) I I zou) I (zAZ I I (sC (ev1 I) call126 (λw hs=>vY hs oM oM) λbl de O ah=>?_)))));obtain⟨rfl,ar⟩:=kV ah;refine tR I (aD I (λ_ _=>vS (pa:=((([115]:List Nat)++(qZ (((↑i:Int):Int):Rat)))++([46]:List Nat))) (pb:=(qZ (((↑q:Int):Int):Rat))) I I zou) I (s6 ?_));replace Z:=Z.mono ((ab.trans U).trans O);replace H:=H.mono (U.trans O)
   case' x3=>
    refine jN (λX=>zN (ρ:=rpI) (m:=4) (xs:=(lU (II.getD i []) q J)) (ps':=[(0,_),(1,_),(2,_),(3,_)]) underlying32 jV I I I wY e8 (zC I (y3e (y3u _) (0:Int) 0 dC) (wL oM oM) (zC I (y3e (y3u _) (0:Int) 1 dC) (wL oM oM) (zC I (y3e (y3u _) (0:Int) 2 dC) (wL oM oM) (zC I (y3e (y3u _) (0:Int) 3 dC) (wL oM oM) zQ)))) zon nP) I ?_
    rintro fg fz ⟨es,rfl,G⟩
    refine zD7 I I I I ?x14 ?x15
    case' x14=>
     refine sC (ev2 I I) call44 (λw hs=>tU hs dr dq oM) λjf rj ay bb=>?_;replace bb:=Rp.Is.le bb (Le.q (l:=15*k+15*l1+15*l2+93) oM);refine tR I ?_;replace bn:=bn.mono ay;refine xX I (xV (ρ:=(tPl (4*k+4*l1+4*l2+23) (15*k+15*l1+15*l2+93))) (xE (ps':=[(0,_),(1,_)]) underlying80 sU I I (sM underlying80) e4z I (yF (yS (yE oM)) (yE oM)) (zC I (y4i (y3u _)) bn (zC I (y4u (y3u _)) bb zQ)))) λje Z=>?_;refine zD7 I I I I ?x16 ?x17
     case' x16=>
      refine sC (ev1 I) call126 (λw hs=>vY hs oM oM) λdn gn ab ba=>?_;obtain⟨rfl,br⟩:=kV ba;refine tR I (aD I (λ_ _=>vS (pa:=([115]:List Nat)) (pb:=(qZ (((↑i:Int):Int):Rat))) I I zou) I (tR I (aD I (λ_ _=>vS (pa:=(([115]:List Nat)++(qZ (((↑i:Int):Int):Rat)))) (pb:=([46]:List Nat)) I I zou) I ?_)));refine zD7 I I I I ?x18 ?x19
      case' x18=>
       refine sC (ev1 I) call126 (λw hs=>vY hs oM oM) λbl df U ah=>?_;obtain⟨rfl,ar⟩:=kV ah;refine tR I (aD I (λ_ _=>vS (pa:=((([115]:List Nat)++(qZ (((↑i:Int):Int):Rat)))++([46]:List Nat))) (pb:=(qZ (((↑q:Int):Int):Rat))) I I zou) I (zNV I I ?_));replace G:=G.mono ((ay.trans ab).trans U);refine xT (A:=[]) (ρ:=rpI) G dK ?_;intro de O hm;refine jN (λX=>zN (ρ:=(rpS rpI)) (m:=1) (xs:=[(lU (II.getD i []) q J)]) (ps':=[(0,_)]) underlying81 jH I I I wD e2z (zC I (y3e (y3u _) [] 0 dC) hm zQ) zoj nP) I ?_;intro bm bo ak;obtain⟨ax,rfl,H⟩:=ak;refine s6 ?_;replace Z:=Z.mono ((ab.trans U).trans O)
      case' x19=>
       replace G:=G.mono (ay.trans ab);refine xT (A:=[]) (ρ:=rpI) G dK ?_;intro df U hk;refine jN (λX=>zN (ρ:=(rpS rpI)) (m:=1) (xs:=[(lU (II.getD i []) q J)]) (ps':=[(0,_)]) underlying81 jH I I I wD e2z (zC I (y3e (y3u _) [] 0 dC) hk zQ) zoj nP) I ?_;intro bm bo ak;obtain⟨ax,rfl,H⟩:=ak;refine zAZ I I (sC (ev1 I) call126 (λw hs=>vY hs oM oM) λbl de O ah=>?_);obtain⟨rfl,ar⟩:=kV ah;refine tR I (aD I (λ_ _=>vS (pa:=((([115]:List Nat)++(qZ (((↑i:Int):Int):Rat)))++([46]:List Nat))) (pb:=(qZ (((↑q:Int):Int):Rat))) I I zou) I (s6 ?_));replace Z:=Z.mono ((ab.trans U).trans O);replace H:=H.mono O
     case' x17=>
      replace G:=G.mono ay;refine xT (A:=[]) (ρ:=rpI) G dK ?_;intro gn ab hj;refine jN (λX=>zN (ρ:=(rpS rpI)) (m:=1) (xs:=[(lU (II.getD i []) q J)]) (ps':=[(0,_)]) underlying81 jH I I I wD e2z (zC I (y3e (y3u _) [] 0 dC) hj zQ) zoj nP) I ?_;intro bm bo ak;obtain⟨ax,rfl,H⟩:=ak;refine zAZ I I (sC (ev1 I) call126 (λw hs=>vY hs oM oM) λdn df U ba=>?_);obtain⟨rfl,br⟩:=kV ba;refine tR I (aD I (λ_ _=>vS (pa:=([115]:List Nat)) (pb:=(qZ (((↑i:Int):Int):Rat))) I I zou) I (tR I (aD I (λ_ _=>vS (pa:=(([115]:List Nat)++(qZ (((↑i:Int):Int):Rat)))) (pb:=([46]:List Nat)) I I zou) I (zAZ I I (sC (ev1 I) call126 (λw hs=>vY hs oM oM) λbl de O ah=>?_)))));obtain⟨rfl,ar⟩:=kV ah;refine tR I (aD I (λ_ _=>vS (pa:=((([115]:List Nat)++(qZ (((↑i:Int):Int):Rat)))++([46]:List Nat))) (pb:=(qZ (((↑q:Int):Int):Rat))) I I zou) I (s6 ?_));replace Z:=Z.mono ((ab.trans U).trans O);replace H:=H.mono (U.trans O)
    case' x15=>
     refine xT (A:=[]) (ρ:=rpI) G dK ?_;intro rj ay hf;refine jN (λX=>zN (ρ:=(rpS rpI)) (m:=1) (xs:=[(lU (II.getD i []) q J)]) (ps':=[(0,_)]) underlying81 jH I I I wD e2z (zC I (y3e (y3u _) [] 0 dC) hf zQ) zoj nP) I ?_
     rintro bm bo ⟨ax,rfl,H⟩
     refine zAZ I I ?_;replace dr:=dr.mono ay;replace dq:=dq.mono ay;refine sC (ev2 I I) call44 (λw hs=>tU hs dr dq oM) λjf gn ab bb=>?_;replace bb:=Rp.Is.le bb (Le.q (l:=15*k+15*l1+15*l2+93) oM);refine tR I ?_;replace bn:=bn.mono (ay.trans ab);refine xX I (xV (ρ:=(tPl (4*k+4*l1+4*l2+23) (15*k+15*l1+15*l2+93))) (xE (ps':=[(0,_),(1,_)]) underlying80 sU I I (sM underlying80) e4z I (yF (yS (yE oM)) (yE oM)) (zC I (y4i (y3u _)) bn (zC I (y4u (y3u _)) bb zQ)))) λje Z=>(zAZ I I (sC (ev1 I) call126 (λw hs=>vY hs oM oM) λdn df U ba=>?_));obtain⟨rfl,br⟩:=kV ba;refine tR I (aD I (λ_ _=>vS (pa:=([115]:List Nat)) (pb:=(qZ (((↑i:Int):Int):Rat))) I I zou) I (tR I (aD I (λ_ _=>vS (pa:=(([115]:List Nat)++(qZ (((↑i:Int):Int):Rat)))) (pb:=([46]:List Nat)) I I zou) I (zAZ I I (sC (ev1 I) call126 (λw hs=>vY hs oM oM) λbl de O ah=>?_)))));obtain⟨rfl,ar⟩:=kV ah;refine tR I (aD I (λ_ _=>vS (pa:=((([115]:List Nat)++(qZ (((↑i:Int):Int):Rat)))++([46]:List Nat))) (pb:=(qZ (((↑q:Int):Int):Rat))) I I zou) I (s6 ?_));replace H:=H.mono ((ab.trans U).trans O);replace Z:=Z.mono (U.trans O)
   all_goals
    refine w_c I (xT (A:=[]) (ρ:=(rpS rpI)) H dK ?_);intro h18 gj hd;replace Z:=Z.mono gj;refine sX (xV (ρ:=(tFc (4*k+4*l1+4*l2+23) (15*k+15*l1+15*l2+93))) (xE (ps':=[(0,_),(1,_),(2,_)]) underlying83 qJ I I (bP underlying83) e6z I (yF (yF (yS (yE oM)) (yE oM)) (yF wD kE)) (zC I (y4i (y3u _)) Z (zC I (y4u (y4i (y3u _))) hd (zC I (y4u (y4u (y3u _))) (bA ((((show ByB [115] by unfold ByB;decide).app br).app (show ByB [46] by unfold ByB;decide)).app ar)) zQ))))) λvg ok=>?_;refine w_c I (jN (λX=>zN (ρ:=(tFc (4*k+4*l1+4*l2+23) (15*k+15*l1+15*l2+93))) (m:=1) (xs:=[(((nU PP ae (II.getD i []) q),xO (nU PP ae (II.getD i []) q) (pU PP ae ((II.getD i []).getD q 0))),([(lU (II.getD i []) q J)],(((([115]:List Nat)++(qZ (((↑i:Int):Int):Rat)))++([46]:List Nat))++(qZ (((↑q:Int):Int):Rat)))))]) (ps':=[(0,_)]) underlying47 qJ I I I (yF (yF (yS (yE oM)) (yE oM)) (yF wD kE)) e2z (zC I (y3e (y3u _) zA 0 dC) ok zQ) zom nP) I ?_)
    rintro vf yh ⟨uk,rfl,kp⟩
    refine w_c I (xT (A:=[]) (ρ:=(tFc (4*k+4*l1+4*l2+23) (15*k+15*l1+15*l2+93))) kp dK ?_);intro tw jk hc;replace bw:=bw.mono (((((((fb.trans fa).trans ay).trans ab).trans U).trans O).trans gj).trans jk);refine gV (A:=[_,_,_,_]) (λX=>uN (yB (ρ:=(tFc (4*k+4*l1+4*l2+40) (100*k+100*l1+100*l2+1000))) (bytes:=264) underlying47 qJ I I I I nP I I bw (hc.le (Le.s (Le.p (Le.p (Le.t (Le.q (l:=4*k+4*l1+4*l2+40) oM)) (Le.q (l:=100*k+100*l1+100*l2+1000) oM)) (Le.refl _)))) bO bO)) I (wA zox) ?_
    rintro ng yg ⟨gc,mz,rfl,ko⟩
    refine xD I (λ_ _=>(wN underlying50 I sizeOf47 I).cv (show _=vP aa 1 from zbi (vP aa) zoz)) I ?_;replace am:=am.mono (((((ay.trans ab).trans U).trans O).trans gj).trans jk);refine yG (A:=[_,_,_,_,_,_,_,_,_,_,_]) I (uB sizeOf47 (y4u (y4i pH)) am (dF gc)) λjc ik=>(fP (kY (wO (e':=[(6,_),(10,_),(13,_),(20,_),(24,_),(25,_),(26,_),(29,_)]) e8 (zG (zD (mv I I (gv (zV (q:=1) I I oM oM) I (asg I I (zO (uR (A:=[]) (uR (A:=[]) ?_)))))))))));refine gqL ((q+1),(F1++[(((nU PP ae (II.getD i []) q),xO (nU PP ae (II.getD i []) q) (pU PP ae ((II.getD i []).getD q 0))),([(lU (II.getD i []) q J)],(((([115]:List Nat)++(qZ (((↑i:Int):Int):Rat)))++([46]:List Nat))++(qZ (((↑q:Int):Int):Rat)))))]),jc,ng,mz,tw) ?_ ?_
    · exact⟨mle,ik,ko,gc,by omega,by rw[mn,gm,ch,bj,zhu];rfl⟩
    omega
  have ef:q=(II.getD i []).length:=by omega
  refine kR (vQ (vQ (kP (kY (zG (zD (mv I I (gv (zV (q:=1) I I oM oM) I (asg I I (zO ?_))))))))));refine gqL ((i+1),F1,(C0++[zAA (II.getD i []) (II.getD i []).length]),(T0++[TL]),ca,dm,fe,ae,bz,fh,eu,jg,gq,mf) ?_ ?_
  · exact⟨mle,am,im.up,il.up,bw,iv,kv.up,gf,kq.up,ge,by omega,by rw[ja,ch];rfl,by rw[iw,ml,ek,ch];rfl,by rw[mn,ef,ch];rfl⟩
  omega
 have ud:i=(bxZ L).length:=by rw[yHS];omega
 rw[ud] at ja iw iz;refine kR (vQ (vQ (kP (zG (zL (zD (gv ((wN underlying50 I sizeOf47 I).cv (show _=vP aa 1 from zbi (vP aa) zoz)) I (lX (fN (xB gG (y4u (y4i pH)) cd)) λve oj=>?_))))))));subst oj;refine zX (A:=[_]) (ρ:=(rpS rpI)) ct ?_;intro h8 bt ha;replace bh:=bh.mono bt;have da:(tFc 5 (l1+l2+5)).R h8 di (((T3.mk (0:Rat) (0:Rat) (-((1:Int):Rat)),-lo),(ap,[98,111,116,116,111,109])).1,(C0,(((T3.mk (0:Rat) (0:Rat) (-((1:Int):Rat)),-lo),(ap,[98,111,116,116,111,109])).2).2)):=zD8 bh ha;replace bq:=bq.mono bt;refine zX (A:=[]) (ρ:=(rpS rpI)) bq ?_;intro h9 cg gz;replace av:=av.mono (bt.trans cg);have ij:(tFc 5 (l1+l2+5)).R h9 cj (((T3.mk (0:Rat) (0:Rat) ((1:Int):Rat),hi),(an,[116,111,112])).1,(T0,(((T3.mk (0:Rat) (0:Rat) ((1:Int):Rat),hi),(an,[116,111,112])).2).2)):=zD8 av gz;replace da:=da.mono cg;refine lX (xB sJ pH da) λvd oi=>(lX (xB sJ pH ij) λvc oh=>(zH (zN (ρ:=(tFc 5 (l1+l2+5))) (m:=2) (xs:=[(((T3.mk (0:Rat) (0:Rat) (-((1:Int):Rat)),-lo),(ap,[98,111,116,116,111,109])).1,(C0,(((T3.mk (0:Rat) (0:Rat) (-((1:Int):Rat)),-lo),(ap,[98,111,116,116,111,109])).2).2)),(((T3.mk (0:Rat) (0:Rat) ((1:Int):Rat),hi),(an,[116,111,112])).1,(T0,(((T3.mk (0:Rat) (0:Rat) ((1:Int):Rat),hi),(an,[116,111,112])).2).2))]) (ps':=[(0,_),(1,_)]) underlying47 qJ I I I (yF (yF (yS (yE dC)) (yE oM)) (yF wD kE)) e4z (zC I (y3e (y3u _) zA 0 dC) oi (zC I (y3e (y3u _) zA 1 dC) oh zQ)) (show 2*14<=16777216 from by decide) nP) I I I ?_))
 rintro vb yf ⟨uj,rfl,kn⟩
 refine zX (A:=[]) (ρ:=(tFc 5 (l1+l2+5))) kn ?_;intro ms bp gy;replace cu:=cu.mono ((bt.trans cg).trans bp);refine xU (A:=[]) (uN (yB (ρ:=(tFc (4*k+4*l1+4*l2+40) (100*k+100*l1+100*l2+1000))) (bytes:=264) underlying47 qJ I I I I nP I I cu (gy.le (Le.s (Le.p (Le.p (Le.t (Le.q (l:=4*k+4*l1+4*l2+40) oM)) (Le.q (l:=100*k+100*l1+100*l2+1000) oM)) (Le.refl _)))) bO bO)) I I I ?_
 rintro va ye ⟨lu,ui,rfl,km⟩
 refine gv ((wN underlying50 I sizeOf47 I).cv (show _=vP aa 1 from zbi (vP aa) zoz)) I ?_;replace cd:=cd.mono ((bt.trans cg).trans bp);refine zU (A:=[_,_,_,_,_,_,_]) (uB sizeOf47 (y4u (y4i pH)) cd (dF lu)) λfd cz=>(zO (wO (e':=[(6,_),(10,_)]) e2z (zG (zL (zD (zX (A:=[]) (ρ:=(tFc (4*k+4*l1+4*l2+40) (100*k+100*l1+100*l2+1000))) km ?_))))));intro go cq gx;replace cz:=cz.mono cq;have ii:(tSd (k+l1+l2+5) (4*k+4*l1+4*l2+40) (100*k+100*l1+100*l2+1000) 1).R go fd ((PP,(az,([]:List En))).1,((F0++[(((T3.mk (0:Rat) (0:Rat) (-((1:Int):Rat)),-lo),(ap,[98,111,116,116,111,109])).1,(C0,(((T3.mk (0:Rat) (0:Rat) (-((1:Int):Rat)),-lo),(ap,[98,111,116,116,111,109])).2).2)),(((T3.mk (0:Rat) (0:Rat) ((1:Int):Rat),hi),(an,[116,111,112])).1,(T0,(((T3.mk (0:Rat) (0:Rat) ((1:Int):Rat),hi),(an,[116,111,112])).2).2))]),((PP,(az,([]:List En))).2).2)):=zD8 cz gx;have ih:(tSd (k+l1+l2+5) (4*k+4*l1+4*l2+40) (100*k+100*l1+100*l2+1000) 1).R go fd (prR L lo hi):=Rp.castR ii (by rw[iz,gm,ja,iw];rfl);refine lX (xB qP pH ih) λuy og=>?_;refine uH (vs:=[_]) I I I I call82 ⟨I,y3i⟩ (λw hs=>zAG hs og oM oM oM (by first|omega|exact hcd4 re)) ?_;intro ux mo zd fb dp;obtain⟨rq,jb,dp,rfl,iu,bv⟩:=dp
 change RL (tFc (4*(4*k+4*l1+4*l2+40)+12) ((4*k+4*l1+4*l2+40)+(100*k+100*l1+100*l2+1000)+12)) mo jb (nrF (prR L lo hi)) at bv
 replace dp:=Rp.Is.le dp (Le.p (Le.s (Le.t (Le.q (l:=k+l1+l2+6) oM))) (Le.p (Le.refl _) (Le.s (Le.p (Le.refl _) (Le.p (Le.refl _) (Le.q (l:=2) oM))))));replace bv:=(Le.p (Le.p (Le.t (Le.q (l:=16*k+16*l1+16*l2+172) oM)) (Le.q (l:=104*k+104*l1+104*l2+1052) oM)) (Le.refl _)).rl bv;replace bi:=bi.mono ((((((((((((((dv.trans eh).trans du).trans cf).trans bs).trans aq).trans cm).trans dd).trans gi).trans jh).trans bt).trans cg).trans bp).trans cq).trans fb);have gt:=(Le.p (Le.s (Le.t (Le.q (l:=k+l1+l2+6) oM))) (Le.p (Le.refl _) (Le.s (Le.p (Le.refl _) (Le.p (Le.refl _) (Le.q (l:=2) dC)))))).R bi;refine zU (A:=[_,_,_,_,_,_,_,_]) (uB sizeOf50 pH gt dp) λrm ig=>(asg (v:=vI (0)) I I (zO (zG (aF ?_))));rw[re,rd,tp];refine xH (qK (t:=6) qP (.tail _ mh7) I ig) ?_;intro rp ga id;refine kX (.cons_cons _ (zru _)) (λE S=>vG I ga (qQ I) E S) ?_;exact⟨_,_,_,I,(Rp.Is.cast (Rp.Is.le id (Le.p (Le.s (Le.t (Le.q (l:=k+l1+l2+20) oM))) (Le.p (Le.refl _) (Le.s (Le.p (Le.refl _) (Le.p (Le.refl _) (Le.q (l:=5) dC))))))) (by rw[show nrE (prR L lo hi)=[] from by unfold nrE;split<;>rfl])),I,iu,((Le.p (Le.p (Le.t (Le.q (l:=1000*k+1000*l1+1000*l2+2000) oM)) (Le.q (l:=1000*k+1000*l1+1000*l2+2000) oM)) (Le.refl _)).rl bv)⟩
end Go.Proofs.YtboaboflnckgoaaGreat
namespace Bk
open Classical
def iH{α:Type}(f:α->α)(d:α)(A:List α):Nat->List α
  |0=>A
  |k+1=>(iH f d A k).set k (f ((iH f d A k).getD k d))
theorem dW{α:Type}(f:α->α)(d:α)(A:List α):∀k,(iH f d A k).length=A.length
  |0=>rfl
  |k+1=>by
   show List.length (List.set _ _ _)=_
   rw[lS];exact dW f d A k
theorem zE2{α:Type}(f:α->α)(d:α)(A:List α):∀k i,i<A.length->(iH f d A k).getD i d=if i<k then f (A.getD i d) else A.getD i d
  |0,i,_=>rfl
  |k+1,i,h=>by
   show(List.set _ k _).getD i d=_
   rw[zoa,y1e]
   split
   · rename_i e
     subst e;rw[zau (by rw[dW];exact h),zau zos,zE2 f d A k k h,zae zos];rfl
   · rename_i e
     rw[<-zoa,zE2 f d A k i h]
     by_cases h1:i<k
     · rw[zau h1,zau zos]
     · rw[zae h1,zae zos]
theorem zZU{α:Type}(f:α->α)(d:α)(A:List α):iH f d A A.length=A.map f:=by
 refine List.ext_getElem (by rw[dW,zde]) λi h1 h2=>?_;rw[dW] at h1;have:=zE2 f d A A.length i h1;rw[zau h1,zoa,zoc (by rw[dW];exact h1)] at this;rw[zoa,zoc h1] at this;rw[List.getElem_map];exact this
def rnN(n:List Nat):List Nat:=if n=[98,111,116,116,111,109] then[122,48] else if n=[116,111,112] then[122,49] else if n=[115,48,46,48] then[121,48] else if n=[115,48,46,49] then[120,49] else if n=[115,48,46,50] then[121,49] else if n=[115,48,46,51] then[120,48] else n
def rnF(f:Fc):Fc:=(f.1,(f.2.1,rnN f.2.2))
theorem zN2{F F0:List Fc}{i:Nat}{nm:List Nat}(hF:F=iH rnF zA F0 i)(h:rnN (F.getD i zA).2.2=nm):F.set i ((F.getD i zA).1,((F.getD i zA).2.1,nm))=iH rnF zA F0 (i+1):=by
 subst hF;subst h;rfl
theorem yH4{F F0:List Fc}{i:Nat}(hF:F=iH rnF zA F0 i)(h:rnN (F.getD i zA).2.2=(F.getD i zA).2.2)(hi:i<F.length):F=iH rnF zA F0 (i+1):=by
 rw[<-zN2 hF h]
 show F=F.set i (F.getD i zA)
 rw[zoa,zoc hi];exact(List.set_getElem_self hi).symm
section
variable (a b:Pt)
def iF:Prop:=∀u,u<3->¬0<=vH (a.at u) (b.at u)
def blL:List (List Pt):=[[T3.mk a.x a.y (0:Rat),T3.mk b.x a.y (0:Rat),T3.mk b.x b.y (0:Rat),T3.mk a.x b.y (0:Rat)]]
def blG:List Fc:=iH rnF zA (prF (blL a b) a.z b.z) (prF (blL a b) a.z b.z).length
def blS:Sd:=(prP (blL a b) a.z b.z,blG a b,[])
def blP:List Pt:=if iF a b then nrP (blS a b) else[]
def blF:List Fc:=if iF a b then nrF (blS a b) else[]
def blE:Int:=if iF a b then prE (blL a b) a.z b.z else 9
def blH:Prop:=(∀x,x∈blL a b->cS x)/\(prE (blL a b) a.z b.z=0->okS (prR (blL a b) a.z b.z))/\okS (blS a b)
end
theorem yAX{L:List (List Pt)}{lo hi:Rat}(h:prE L lo hi=0->okS (prR L lo hi)):(prF L lo hi).length<=1000:=by
 unfold prF
 split
 · rename_i h0
   unfold nrF
   split
   · rw[zPL];exact(h h0).1.1.2
   · exact zri _
 · exact zri _
theorem bl_9{a b:Pt}(h:¬iF a b):blE a b=9/\blP a b=[]/\blF a b=[]:=⟨zae h,zae h,zae h⟩
theorem yCC{a b:Pt}(h:iF a b):blE a b=prE (blL a b) a.z b.z/\blP a b=nrP (blS a b)/\blF a b=nrF (blS a b):=⟨zau h,zau h,zau h⟩
end Bk
namespace Go.Proofs.YtboaboflnckgoaaGreat
open Bk Go Tryz
attribute [local irreducible] GL GC GQ W OpV
set_option maxHeartbeats 1000000 in
theorem zIM{w0:World}{h0:Mem}(hs:MLe h0 (mem w0)){k l:Nat}{va:Value}{a:Tq}(ra:(tPt k).Is h0 va a){vb:Value}{b:Tq}(rb:(tPt l).Is h0 vb b)(hcd0:k<=5)(hcd1:l<=5)(hcd2:iF a b->blH a b):
 Calls prog 35 #[va,vb] w0 (rA w0 h0 (λh r L_=>∃u0 vF cs,r=.tuple #[u0,vI (blE a b)]/\(rpP (tLs (2*k+2*l+40)) (rpP rpV (rpS (rpP rpI (rpP rpI (rpQ 6)))))).Is h u0 (blP a b,(vF,[]))/\L_=[.gs 83 14 vF (blF a b).length cs]/\vF.oneCell'=true/\RL (tFc (10000*k+10000*l+20000) (10000*k+10000*l+20000)) h cs (blF a b))):=by
 refine cb2 102 va vb func35 hs ?_;refine go2 ?_;refine nB ra λb2 cj am=>(nB rb λb3 ci ak=>(nA (ρ:=(rpP (tLs 1) (rpP rpV (rpS (rpP rpI (rpP rpI (rpQ 1))))))) (X:=([],((Value.slice none 0 0),[]))) qC (yF wD (yF fG wD)) λb4 ch cc=>(qE ?_)));refine gcL (ι:=Nat×Mem) (λ(i,ma)=>(MLe h0 ma/\(i<=3/\∀u,u<i->¬0<=vH (a.at u) (b.at u)),[(2,vP b2 0),(3,vP b3 0),(4,vP b4 0),(6,vI ↑i)],[.var b4 50 ch,.var b3 53 ci,.var b2 53 cj],ma,3-i)) (0,h0) ?_ ?_
 · exact⟨mle,by omega,λu h=>by omega⟩
 rintro⟨i,ma⟩ ⟨dx,fi,hi2⟩
 refine yW ?_;refine gc7 (λcg=>?_) λcg=>?_
 ·
  refine go5 ?_;refine zK 8 _ [] (zai 0 6 [(6,.c),(7,.q)]) yA nX zot nX (λr hr=>hr) (go1 ?_);refine xD I (λ_ _=>(zP (sz:=3) i underlying53 sizeOf26 I I I oM).cv (show _=vP b2 ((i*3+0)) from zbi (vP b2) oM)) I (wX I (xB yJ (Pc.ta pH i oM) am) λfd dn=>(go1 ?_));refine xD I (λ_ _=>(zP (sz:=3) i underlying53 sizeOf26 I I I oM).cv (show _=vP b3 ((i*3+0)) from zbi (vP b3) oM)) I (wX I (xB yJ (Pc.ta pH i oM) ak) λfc dm=>?_);refine w_c I (sC (ev2 I I) call18 (λw hs=>tN hs dn dm oM) λcl h1 dq dl=>?_);obtain rfl:cl=vI (vH (a.at i) (b.at i)):=dl;have dr:=gQ (a.at i) (b.at i);refine gc3 (λaq=>?_) λaq=>?_
  ·
   refine go2 ?_;refine lX (xV (ρ:=(rpP (tLs 1) (rpP rpV (rpS (rpP rpI (rpP rpI (rpQ 1))))))) (xE (ps':=[]) underlying50 qC I I (sN underlying50) trivial I (yF wD (yF fG wD)) zQ)) λfb dk=>(zU (A:=[]) (uB sizeOf50 pH cc dk) λdy cb=>(go9 ?_));obtain⟨e1,e2,e3⟩:=bl_9 (a:=a) (b:=b) (λe=>e i oM aq);rw[e1,e2,e3];refine aS 83 14 ?_;have bx:=RL.nil (ρ:=rpP (tPl (10000*k+10000*l+20000) (10000*k+10000*l+20000)) (rpP tII uP)) (h:=h1);refine xH (qK (t:=4) qP mh1 I cb) ?_;intro ec bj bw;refine kX (.cons_cons _ (zru _)) (λE S=>vG I bj (qQ I) E S) ?_;exact⟨_,_,_,I,(Rp.Is.le bw (Le.p (Le.s (Le.t (Le.q (l:=2*k+2*l+40) oM))) (Le.p (Le.refl _) (Le.s (Le.p (Le.refl _) (Le.p (Le.refl _) (Le.q (l:=6) dC))))))),I,I,bx⟩
  refine go8 ?_;refine gqL ((i+1),h1) ?_ ?_
  · exact⟨mle,by omega,qN (Q:=λu=>¬0<=vH (a.at u) (b.at u)) hi2 aq⟩
  omega
 have cd:iF a b:=λu hu=>hi2 u oM;have an:=hcd2 cd;have fm:=yAX an.2.1;refine go8 ?_;refine lX (xB yJ (y4e pH) am) λfa dj=>(go1 ?_);refine lX (xB yJ (y5i pH) am) λez di=>(lX (xV (ρ:=(tPt (k+1))) (wI (ps':=[(0,_),(1,_)]) underlying53 yO I I sizeOf26 e4z I (yS (yE oM)) (zC I (y4e (y3u _)) (dj.le (Le.q (l:=k+1) oM)) (zC I (y5i (y3u _)) (di.le (Le.q (l:=k+1) oM)) zQ)))) λey dh=>(go1 ?_));refine lX (xB yJ (y4e pH) ak) λew df=>(go1 ?_);refine lX (xB yJ (y5i pH) am) λev de=>(lX (xV (ρ:=(tPt (k+l+1))) (wI (ps':=[(0,_),(1,_)]) underlying53 yO I I sizeOf26 e4z I (yS (yE oM)) (zC I (y4e (y3u _)) (df.le (Le.q (l:=k+l+1) oM)) (zC I (y5i (y3u _)) (de.le (Le.q (l:=k+l+1) oM)) zQ)))) λeu dd=>(go1 ?_));refine lX (xB yJ (y4e pH) ak) λes dc=>(go1 ?_);refine lX (xB yJ (y5i pH) ak) λer db=>(lX (xV (ρ:=(tPt (l+1))) (wI (ps':=[(0,_),(1,_)]) underlying53 yO I I sizeOf26 e4z I (yS (yE oM)) (zC I (y4e (y3u _)) (dc.le (Le.q (l:=l+1) oM)) (zC I (y5i (y3u _)) (db.le (Le.q (l:=l+1) oM)) zQ)))) λeq da=>(go1 ?_));refine lX (xB yJ (y4e pH) am) λep cz=>(go1 ?_);refine lX (xB yJ (y5i pH) ak) λeo cy=>(lX (xV (ρ:=(tPt (k+l+1))) (wI (ps':=[(0,_),(1,_)]) underlying53 yO I I sizeOf26 e4z I (yS (yE oM)) (zC I (y4e (y3u _)) (cz.le (Le.q (l:=k+l+1) oM)) (zC I (y5i (y3u _)) (cy.le (Le.q (l:=k+l+1) oM)) zQ)))) λen cw=>(zH (zN (ρ:=(tPt (k+l+1))) (m:=4) (xs:=[(zZ a),(T3.mk b.x a.y (0:Rat)),(zZ b),(T3.mk a.x b.y (0:Rat))]) (ps':=[(0,_),(1,_),(2,_),(3,_)]) underlying46 yO I I I (yS (yE oM)) e8 (zC I (y3e (y3u _) zT 0 dC) (dh.le (Le.t (Le.q (l:=k+l+1) oM))) (zC I (y3e (y3u _) zT 1 dC) dd (zC I (y3e (y3u _) zT 2 dC) (da.le (Le.t (Le.q (l:=k+l+1) oM))) (zC I (y3e (y3u _) zT 3 dC) cw zQ)))) (show 4*9<=16777216 from by decide) nP) I I I ?_))
 rintro em fg ⟨ea,rfl,ca⟩
 refine zX (A:=[]) (ρ:=(tPt (k+l+1))) ca ?_;intro h1 dq bv;refine zH (zN (ρ:=(tLs (k+l+1))) (m:=1) (xs:=[[(zZ a),(T3.mk b.x a.y (0:Rat)),(zZ b),(T3.mk a.x b.y (0:Rat))]]) (ps':=[(0,_)]) underlying115 lH I I I wD e2z (zC I (y3e (y3u _) [] 0 dC) bv zQ) zoj nP) I I I ?_
 rintro el ff ⟨dz,rfl,bz⟩
 refine go1 ?_;refine lX (xB yJ (y5u pH) am) λek cu=>(go1 ?_);refine lX (xB yJ (y5u pH) ak) λej ct=>(zX (A:=[]) (ρ:=(tLs (k+l+1))) bz ?_);intro h2 fl bu;refine uH (vs:=[_,_,_]) I I I I call81 e3z (λw hs=>zIH hs bu cu.up ct.up oM oM oM (by first|omega|exact an.1|exact an.2.1) (by first|omega|exact an.1|exact an.2.1)) ?_;intro eh h3 fq fk ao;obtain⟨fe,bt,au,rfl,ao,rfl,ce,ad⟩:=ao
 change RL (tFc (1000*(k+l+1)+1000*k+1000*l+2000) (1000*(k+l+1)+1000*k+1000*l+2000)) h3 au (prF [[(zZ a),(T3.mk b.x a.y (0:Rat)),(zZ b),(T3.mk a.x b.y (0:Rat))]] a.z b.z) at ad
 replace ao:=Rp.Is.le ao (Le.p (Le.s (Le.t (Le.q (l:=2*k+2*l+21) oM))) (Le.refl _));replace ad:=(Le.p (Le.p (Le.t (Le.q (l:=2000*k+2000*l+3000) oM)) (Le.q (l:=2000*k+2000*l+3000) oM)) (Le.refl _)).rl ad;refine go3 ?_;refine nA (ρ:=(rpP (tLs 1) (rpP rpV (rpS (rpP rpI (rpP rpI (rpQ 1))))))) (X:=([],((Value.slice none 0 0),[]))) qC (yF wD (yF fG wD)) λb7 fp cm=>?_;have aw:=(Le.p (Le.s (Le.t (Le.q (l:=2*k+2*l+21) oM))) (Le.p (Le.refl _) (Le.s (Le.p (Le.refl _) (Le.p (Le.refl _) (Le.q (l:=5) dC)))))).R cm;refine zU (A:=[]) (uB sizeOf50 pH aw ao) λbs bi=>(qE ?_);refine gcL (ι:=Nat×List Fc×List Value×Value×List Value×Mem) (λ(i,J,H,C,ae,mb)=>(MLe h3 mb/\((rpP (tLs (2*k+2*l+30)) (rpP rpV (rpS (rpP rpI (rpP rpI (rpQ 5)))))).R mb H (prP (blL a b) a.z b.z,(C,([]:List En)))/\RL (tFc (2000*k+2000*l+3000) (2000*k+2000*l+3000)) mb ae J/\C.oneCell'=true/\i<=(prF (blL a b) a.z b.z).length/\J=iH rnF zA (prF (blL a b) a.z b.z) i),[(4,vP b4 0),(7,vP b7 0),(8,vI (prE [[(zZ a),(T3.mk b.x a.y (0:Rat)),(zZ b),(T3.mk a.x b.y (0:Rat))]] a.z b.z)),(9,vI ↑i)],[.var b7 50 H,.gs 83 14 C J.length ae,.var b4 50 ch,.var b3 53 ci,.var b2 53 cj],mb,(prF (blL a b) a.z b.z).length-i)) (0,(prF (blL a b) a.z b.z),bs,bt,au,h3) ?_ ?_
 · exact⟨mle,((Le.p (Le.s (Le.t (Le.q (l:=2*k+2*l+30) oM))) (Le.refl _)).R bi),ad,ce,by omega,I⟩
 rintro⟨i,J,H,C,ae,mb⟩ ⟨dw,G,D,M,fh,Z⟩
 refine yW ?_;have fo:J.length=(prF (blL a b) a.z b.z).length:=by rw[Z];exact dW _ _ _ _
 refine go5 ?_;refine lX (fN (xB gG (y4u (y4i pH)) G)) λeg cq=>?_;subst cq;refine gv (jU mh1 underlying47 I) I (gc3 (λcf=>?_) λcf=>?_)
 ·
  refine go7 ?_;refine lX (fN (xB gG (y4u (y4i pH)) G)) λef cp=>?_;subst cp;refine go1 ?_;refine gv ((yP i mh1 underlying47 sizeOf83 I I I bO nP).cv (show _=zI 1 C ((i*14+0)) from zbi (zI 1 C) zoz)) I (go6 ?_);refine gv (kU (y3e (y3u _) zA i bO) I nP D mh1 I) I (gv ((vW (y3e (y3u _) zA i bO) I nP D mh1 underlying83 I sizeOf9 I).cv (show _=zI 1 C ((i*14+13)) from zbi (zI 1 C) (by show(i*14+0)+13=(i*14+13);omega))) I (zGQ (F:=λv_=>uP.Is mb v_ (((J.getD i zA).2).2)) (xP ty9 (y3e (y4u (y4u (y3u _))) zA i bO) I nP I D I) (kH mh1) I ?_));intro ee co;obtain⟨rfl,ab⟩:=kV co;refine go5 ?_;refine gv (mM (pa:=(((J.getD i zA).2).2)) (pb:=([98,111,116,116,111,109]:List Nat)) ab (show ByB [98,111,116,116,111,109] by unfold ByB;decide) I I) I (gc3 (λO=>?_) λO=>?_)
  ·
   refine go2 ?_;refine gv (kU (y3e (y3u _) zA i bO) I nP D mh1 I) I (gv ((vW (y3e (y3u _) zA i bO) I nP D mh1 underlying83 I sizeOf9 I).cv (show _=zI 1 C ((i*14+13)) from zbi (zI 1 C) (by show(i*14+0)+13=(i*14+13);omega))) I (fW (A:=[_]) (F:=λc_=>RL (tFc (2000*k+2000*l+3000) (2000*k+2000*l+3000)) mb c_ (J.set i ((J.getD i zA).1,(((J.getD i zA).2).1,([122,48]:List Nat))))) (sD sizeOf9 (y3e (y4u (y4u (y3u _))) zA i bO) I nP I I D (bA (show ByB [122,48] by unfold ByB;decide)) I) ?_));intro br be;refine go9 ?_;refine gqL ((i+1),(J.set i ((J.getD i zA).1,(((J.getD i zA).2).1,([122,48]:List Nat)))),H,C,br,mb) ?_ ?_
   · exact⟨mle,G,be,M,by omega,zN2 Z (by unfold rnN;rw[zau O])⟩
   omega
  refine go2 ?_;refine gv (mM (pa:=(((J.getD i zA).2).2)) (pb:=([116,111,112]:List Nat)) ab (show ByB [116,111,112] by unfold ByB;decide) I I) I (gc3 (λU=>?_) λU=>?_)
  ·
   refine go2 ?_;refine gv (kU (y3e (y3u _) zA i bO) I nP D mh1 I) I (gv ((vW (y3e (y3u _) zA i bO) I nP D mh1 underlying83 I sizeOf9 I).cv (show _=zI 1 C ((i*14+13)) from zbi (zI 1 C) (by show(i*14+0)+13=(i*14+13);omega))) I (fW (A:=[_]) (F:=λc_=>RL (tFc (2000*k+2000*l+3000) (2000*k+2000*l+3000)) mb c_ (J.set i ((J.getD i zA).1,(((J.getD i zA).2).1,([122,49]:List Nat))))) (sD sizeOf9 (y3e (y4u (y4u (y3u _))) zA i bO) I nP I I D (bA (show ByB [122,49] by unfold ByB;decide)) I) ?_));intro bq bd;refine go9 ?_;refine gqL ((i+1),(J.set i ((J.getD i zA).1,(((J.getD i zA).2).1,([122,49]:List Nat)))),H,C,bq,mb) ?_ ?_
   · exact⟨mle,G,bd,M,by omega,zN2 Z (by unfold rnN;rw[zae O,zau U])⟩
   omega
  refine go2 ?_;refine gv (mM (pa:=(((J.getD i zA).2).2)) (pb:=([115,48,46,48]:List Nat)) ab (show ByB [115,48,46,48] by unfold ByB;decide) I I) I (gc3 (λaa=>?_) λaa=>?_)
  ·
   refine go2 ?_;refine gv (kU (y3e (y3u _) zA i bO) I nP D mh1 I) I (gv ((vW (y3e (y3u _) zA i bO) I nP D mh1 underlying83 I sizeOf9 I).cv (show _=zI 1 C ((i*14+13)) from zbi (zI 1 C) (by show(i*14+0)+13=(i*14+13);omega))) I (fW (A:=[_]) (F:=λc_=>RL (tFc (2000*k+2000*l+3000) (2000*k+2000*l+3000)) mb c_ (J.set i ((J.getD i zA).1,(((J.getD i zA).2).1,([121,48]:List Nat))))) (sD sizeOf9 (y3e (y4u (y4u (y3u _))) zA i bO) I nP I I D (bA (show ByB [121,48] by unfold ByB;decide)) I) ?_));intro bp bc;refine go9 ?_;refine gqL ((i+1),(J.set i ((J.getD i zA).1,(((J.getD i zA).2).1,([121,48]:List Nat)))),H,C,bp,mb) ?_ ?_
   · exact⟨mle,G,bc,M,by omega,zN2 Z (by unfold rnN;rw[zae O,zae U,zau aa])⟩
   omega
  refine go2 ?_;refine gv (mM (pa:=(((J.getD i zA).2).2)) (pb:=([115,48,46,49]:List Nat)) ab (show ByB [115,48,46,49] by unfold ByB;decide) I I) I (gc3 (λai=>?_) λai=>?_)
  ·
   refine go2 ?_;refine gv (kU (y3e (y3u _) zA i bO) I nP D mh1 I) I (gv ((vW (y3e (y3u _) zA i bO) I nP D mh1 underlying83 I sizeOf9 I).cv (show _=zI 1 C ((i*14+13)) from zbi (zI 1 C) (by show(i*14+0)+13=(i*14+13);omega))) I (fW (A:=[_]) (F:=λc_=>RL (tFc (2000*k+2000*l+3000) (2000*k+2000*l+3000)) mb c_ (J.set i ((J.getD i zA).1,(((J.getD i zA).2).1,([120,49]:List Nat))))) (sD sizeOf9 (y3e (y4u (y4u (y3u _))) zA i bO) I nP I I D (bA (show ByB [120,49] by unfold ByB;decide)) I) ?_));intro bo bb;refine go9 ?_;refine gqL ((i+1),(J.set i ((J.getD i zA).1,(((J.getD i zA).2).1,([120,49]:List Nat)))),H,C,bo,mb) ?_ ?_
   · exact⟨mle,G,bb,M,by omega,zN2 Z (by unfold rnN;rw[zae O,zae U,zae aa,zau ai])⟩
   omega
  refine go2 ?_;refine gv (mM (pa:=(((J.getD i zA).2).2)) (pb:=([115,48,46,50]:List Nat)) ab (show ByB [115,48,46,50] by unfold ByB;decide) I I) I (gc3 (λaj=>?_) λaj=>?_)
  ·
   refine go2 ?_;refine gv (kU (y3e (y3u _) zA i bO) I nP D mh1 I) I (gv ((vW (y3e (y3u _) zA i bO) I nP D mh1 underlying83 I sizeOf9 I).cv (show _=zI 1 C ((i*14+13)) from zbi (zI 1 C) (by show(i*14+0)+13=(i*14+13);omega))) I (fW (A:=[_]) (F:=λc_=>RL (tFc (2000*k+2000*l+3000) (2000*k+2000*l+3000)) mb c_ (J.set i ((J.getD i zA).1,(((J.getD i zA).2).1,([121,49]:List Nat))))) (sD sizeOf9 (y3e (y4u (y4u (y3u _))) zA i bO) I nP I I D (bA (show ByB [121,49] by unfold ByB;decide)) I) ?_));intro bn ba;refine go9 ?_;refine gqL ((i+1),(J.set i ((J.getD i zA).1,(((J.getD i zA).2).1,([121,49]:List Nat)))),H,C,bn,mb) ?_ ?_
   · exact⟨mle,G,ba,M,by omega,zN2 Z (by unfold rnN;rw[zae O,zae U,zae aa,zae ai,zau aj])⟩
   omega
  refine go2 ?_;refine gv (mM (pa:=(((J.getD i zA).2).2)) (pb:=([115,48,46,51]:List Nat)) ab (show ByB [115,48,46,51] by unfold ByB;decide) I I) I (gc3 (λap=>?_) λap=>?_)
  ·
   refine go2 ?_;refine gv (kU (y3e (y3u _) zA i bO) I nP D mh1 I) I (gv ((vW (y3e (y3u _) zA i bO) I nP D mh1 underlying83 I sizeOf9 I).cv (show _=zI 1 C ((i*14+13)) from zbi (zI 1 C) (by show(i*14+0)+13=(i*14+13);omega))) I (fW (A:=[_]) (F:=λc_=>RL (tFc (2000*k+2000*l+3000) (2000*k+2000*l+3000)) mb c_ (J.set i ((J.getD i zA).1,(((J.getD i zA).2).1,([120,48]:List Nat))))) (sD sizeOf9 (y3e (y4u (y4u (y3u _))) zA i bO) I nP I I D (bA (show ByB [120,48] by unfold ByB;decide)) I) ?_));intro bm az;refine go9 ?_;refine gqL ((i+1),(J.set i ((J.getD i zA).1,(((J.getD i zA).2).1,([120,48]:List Nat)))),H,C,bm,mb) ?_ ?_
   · exact⟨mle,G,az,M,by omega,zN2 Z (by unfold rnN;rw[zae O,zae U,zae aa,zae ai,zae aj,zau ap])⟩
   omega
  refine go9 ?_;refine gqL ((i+1),J,H,C,ae,mb) ?_ ?_
  · exact⟨mle,G,D,M,by omega,yH4 Z (by unfold rnN;rw[zae O,zae U,zae aa,zae ai,zae aj,zae ap]) oM⟩
  omega
 have ei:i=(prF (blL a b) a.z b.z).length:=by omega
 rw[ei] at Z;refine go7 ?_;refine zX (A:=[_]) (ρ:=(tFc (2000*k+2000*l+3000) (2000*k+2000*l+3000))) D ?_;intro h4 dp ax;replace G:=G.mono dp;have bh:(tSd (2*k+2*l+30) (2000*k+2000*l+3000) (2000*k+2000*l+3000) 5).R h4 H ((prP (blL a b) a.z b.z,(C,([]:List En))).1,(J,((prP (blL a b) a.z b.z,(C,([]:List En))).2).2)):=zD8 G ax;have bg:(tSd (2*k+2*l+30) (2000*k+2000*l+3000) (2000*k+2000*l+3000) 5).R h4 H (blS a b):=Rp.castR bh (by rw[Z];rfl);refine lX (xB qP pH bg) λed cn=>?_;refine uH (vs:=[_]) I I I I call82 ⟨I,y3i⟩ (λw hs=>zAG hs cn oM oM oM (by first|omega|exact an.2.2)) ?_;intro dv h5 eb fj ah;obtain⟨ck,bl,ah,rfl,bk,ac⟩:=ah
 change RL (tFc (4*(2000*k+2000*l+3000)+12) ((2000*k+2000*l+3000)+(2000*k+2000*l+3000)+12)) h5 bl (nrF (blS a b)) at ac
 replace ah:=Rp.Is.le ah (Le.p (Le.s (Le.t (Le.q (l:=2*k+2*l+31) oM))) (Le.p (Le.refl _) (Le.s (Le.p (Le.refl _) (Le.p (Le.refl _) (Le.q (l:=6) oM))))));replace ac:=(Le.p (Le.p (Le.t (Le.q (l:=8000*k+8000*l+12012) oM)) (Le.q (l:=4000*k+4000*l+6012) oM)) (Le.refl _)).rl ac;refine go1 ?_;have av:=(Le.p (Le.s (Le.t (Le.q (l:=2*k+2*l+31) oM))) (Le.p (Le.refl _) (Le.s (Le.p (Le.refl _) (Le.p (Le.refl _) (Le.q (l:=6) dC)))))).R cc;refine zU (A:=[_,_]) (uB sizeOf50 pH av ah) λdt bf=>(go4 ?_);obtain⟨e1,e2,e3⟩:=yCC cd;rw[e1,e2,e3];refine xH (qK (t:=4) qP mh2 I bf) ?_;intro du ar ay;refine kX (.cons_cons _ (zru _)) (λE S=>vG I ar (qQ I) E S) ?_;exact⟨_,_,_,I,(Rp.Is.cast (Rp.Is.le ay (Le.p (Le.s (Le.t (Le.q (l:=2*k+2*l+40) oM))) (Le.refl _))) (by rw[show nrE (blS a b)=[] from by unfold nrE;split<;>rfl])),I,bk,((Le.p (Le.p (Le.t (Le.q (l:=10000*k+10000*l+20000) oM)) (Le.q (l:=10000*k+10000*l+20000) oM)) (Le.refl _)).rl ac)⟩
end Go.Proofs.YtboaboflnckgoaaGreat
namespace Bk
open Go Go.RowKit
section
variable {P:Program}{n:Nat}{w0:World}{h0:Mem}{e:List (Nat×Value)}{L:List Res}{h:Mem}{Q:Exit->Act->World->Prop}
variable {ty:TypeId}{ps:String}{af:Array Edge}
end
section
variable {α β:Type}{h:Mem}
end
end Bk
namespace Bk
open Classical
def thN(a b c:Pt):Pt:=xC (kZ b a) (kZ c a)
def thZ(a b c:Pt):Pl:=if thN a b c=zT then zS7 else(thN a b c,xO (thN a b c) a)
def thE(a b c:Pt):Int:=if thN a b c=zT then 9 else 0
theorem yH8{a b c:Pt}(h:thN a b c=zT):thZ a b c=zS7/\thE a b c=9:=⟨zau h,zau h⟩
theorem zUV{a b c:Pt}(h:¬thN a b c=zT):thZ a b c=(thN a b c,xO (thN a b c) a)/\thE a b c=0:=⟨zae h,zae h⟩
def opP(pl:Pl):Pl:=(T3.mk (((-1:Int):Rat)*pl.1.x) (((-1:Int):Rat)*pl.1.y) (((-1:Int):Rat)*pl.1.z),-pl.2)
section
variable (l:List Pt)(t:Pt)
def pyX(i:Nat):Fc:=(thZ (l.getD i zT) (l.getD ((i+1)%l.length) zT) t,[[(i:Int),(((i+1)%l.length:Nat):Int),(l.length:Int)]],[115]++qZ (((i:Int):Int):Rat))
def pyT:Nat->List Fc:=uG (pyX l t)
def pyL(n:Nat):Nat->List Int:=uG λi=>(n:Int)-1-(i:Int)
def pyB:Fc:=(opP (thZ (l.getD 0 zT) (l.getD 1 zT) (l.getD 2 zT)),[pyL l.length l.length],[98,97,115,101])
def pyR:Sd:=(l++[t],pyT l t l.length++[pyB l],[])
def pyH:Prop:=((3<=l.length/\l.length<=64)/\¬thN (l.getD 0 zT) (l.getD 1 zT) (l.getD 2 zT)=zT)/\(zGZ (thZ (l.getD 0 zT) (l.getD 1 zT) (l.getD 2 zT)) l/\0<sdZ (thZ (l.getD 0 zT) (l.getD 1 zT) (l.getD 2 zT)) t)/\okS (pyR l t)
end
def ag(x p y q:Rat)(u:PI):P2:=(x+p*(u.1:Rat),y+q*(u.2:Rat))
theorem zI6{x p:Rat}{u v:Int}(hp:0<p):x+p*(u:Rat)<x+p*(v:Rat)↔u<v:=by
 constructor
 · intro h
   refine ywi.1 λe=>?_;have h1:(v:Rat)<=(u:Rat):=Rat.intCast_le_intCast.2 e;have h2:=Rat.mul_le_mul_of_nonneg_left h1 (Rat.le_of_lt hp);grind
 · intro h
   have h1:(u:Rat)<(v:Rat):=yce.2 h;have h2:=Rat.mul_lt_mul_of_pos_left h1 hp;grind
theorem zQK{x p:Rat}{u v:Int}(hp:0<p):x+p*(u:Rat)=x+p*(v:Rat)↔u=v:=by
 constructor
 · intro h
   rcases Int.lt_trichotomy u v with h1|h1|h1
   · have:=(zI6 (x:=x) hp).2 h1;grind
   · exact h1
   · have:=(zI6 (x:=x) hp).2 h1;grind
 · rintro rfl;rfl
variable {x p y q:Rat}
theorem yDC(u v w:PI):cr (ag x p y q u) (ag x p y q v) (ag x p y q w)=p*q*((crI u v w:Int):Rat):=by
 unfold cr ag crI;simp only[z7u,zuu];grind
theorem tV(hp:0<p)(hq:0<q):0<p*q:=by
 have:=Rat.mul_lt_mul_of_pos_left hq hp;grind
theorem zZJ(hp:0<p)(hq:0<q)(u v w:PI):orZ (ag x p y q u) (ag x p y q v) (ag x p y q w)=orI u v w:=by
 unfold orZ orI;rw[yDC,iM (tV hp hq),zBB]
 rfl
theorem yDA(hp:0<p)(hq:0<q)(u v:PI):lx (ag x p y q u) (ag x p y q v)↔lxI u v=true:=by
 unfold lx lxI;rw[zie];unfold ag;simp only[zI6 hp,zI6 hq,zQK hp]
theorem yDB(hp:0<p)(hq:0<q)(u v:PI):ag x p y q u=ag x p y q v↔u=v:=by
 obtain⟨D,C⟩:=u;obtain⟨v1,v2⟩:=v;unfold ag;rw[Prod.mk.injEq,Prod.mk.injEq,zQK hp,zQK hq]
theorem yDD{a b c d:Int}(hp:0<p):kL (x+p*(a:Rat)) (x+p*(b:Rat)) (x+p*(c:Rat)) (x+p*(d:Rat))↔apI a b c d=true:=by
 unfold kL apI;rw[zie];simp only[zI6 hp]
theorem zZL{c:Prop} [Decidable c](u v:PI):(if c then ag x p y q u else ag x p y q v)=ag x p y q (if c then u else v):=by split<;>rfl
theorem yJR(hp:0<p)(hq:0<q)(a b c d:PI):eT (ag x p y q a) (ag x p y q b) (ag x p y q c) (ag x p y q d)=alS a b c d:=by
 unfold eT alS;simp only[yDA hp hq,zZL,yDB hp hq]
theorem zNS(hp:0<p)(hq:0<q)(a b c d:PI):tF (ag x p y q a) (ag x p y q b) (ag x p y q c) (ag x p y q d)=toI a b c d:=by
 have D:kL (ag x p y q a).1 (ag x p y q b).1 (ag x p y q c).1 (ag x p y q d).1↔apI a.1 b.1 c.1 d.1=true:=yDD hp;have C:kL (ag x p y q a).2 (ag x p y q b).2 (ag x p y q c).2 (ag x p y q d).2↔apI a.2 b.2 c.2 d.2=true:=yDD hq;unfold tF toI lP alI lo2 hi2;simp only[zZJ hp hq,D,C,yDA hp hq,zZL,yJR hp hq]
def gI(s:List PI)(m:Nat):PI:=s.getD m (0,0)
def zSS(s:List PI):Bool:=decide (3<=s.length)&&(List.range s.length).all λb=>(List.range b).all λa=>!decide (gI s a=gI s b)&&decide (toI (gI s a) (gI s ((a+1)%s.length)) (gI s b) (gI s ((b+1)%s.length))=waI s.length a b)
theorem zFK(hp:0<p)(hq:0<q){l:List Pt}{s:List PI}(hl:l.length=s.length)(h:∀m,m<s.length->pr (gp l m) 0 1=ag x p y q (gI s m))(hb:zSS s=true):aG l 0 1:=by
 unfold zSS at hb;rw[zbu,zie,zob] at hb;obtain⟨h3,hb⟩:=hb;have g:∀a b,a<b->b<s.length->¬gI s a=gI s b/\toI (gI s a) (gI s ((a+1)%s.length)) (gI s b) (gI s ((b+1)%s.length))=waI s.length a b:=λa b C D=>by
  have h1:=zob.1 (hb b (zog.2 D)) a (zog.2 C);rw[zbu,zje,zgu,zie] at h1;exact h1
 refine⟨by omega,λa b H C G=>?_,λa b H C G=>?_⟩
 · show ¬pr (gp l a) 0 1=pr (gp l b) 0 1
   rw[h a zos,h b zos,yDB hp hq];exact(g a b C zos).1
 · show tF (gP l 0 1 a) (gO l 0 1 a) (gP l 0 1 b) (gO l 0 1 b)=zHR l.length a b
   unfold gP gO;rw[hl,h a zos,h b zos,h _ (zcu _ zos),h _ (zcu _ zos),zNS hp hq];exact(g a b C zos).2
theorem zF9{P:List Pt}(hs:aG P 0 1)(hl:P.length<=64)(ha:0<yU (arZ P 0 1)):uF [P] 0 1=0:=by
 have D:∀m,m<[P].length->gl [P] m=P:=λm C=>by
  rw[show m=0 by rw[zju] at C;omega];rfl
 unfold uF;rw[zae (λe=>by
  rcases e with e|⟨m,C,e⟩
  · rw[zju] at e;omega
  · rw[D m C] at e;omega),zae (λe=>by
  obtain⟨m,C,e⟩:=e;rw[D m C] at e;exact e hs),zae (λe=>by
  obtain⟨a,b,G,hb,_⟩:=e;rw[zju] at hb;omega),zae (λe=>by
  rcases e with⟨k,hk,e⟩|⟨a,b,ha',hb',e⟩
  · rw[eX,D k hk] at e;exact e.1 ha
  · rw[zju] at ha' hb'
    exact e.1.1.1 zos)]
theorem zRW{B:List Pt}{p:Pt}:∀j,(∀i,i<j->¬zJE (B.getD i zT) p)->u9 B p j= -1
  |0,_=>rfl
  |j+1,h=>by
   rw[<-yGY (h j zos)];exact zRW j λi hi=>h i zos
theorem yHZ{B:List Pt}{p:Pt}(h:∀i,i<B.length->¬zJE (B.getD i zT) p):adB B p=B++[p]/\adN B p=(B.length:Int):=by
 have h1:fdZ B p<0:=by unfold fdZ;rw[zRW _ h];decide
 exact⟨zau h1,zau h1⟩
def rgI:Nat->List Int:=uG λi=>(i:Int)
theorem zSL{l:List Pt}{i k:Nat}(h:i<k):(l.take k).getD i zT=l.getD i zT:=by
 rw[zoa,zoa,zmu,zau h]
def zNC(l:List Pt):Prop:=∀i j,i<j->j<l.length->¬zJE (l.getD i zT) (l.getD j zT)
theorem zOT{l:List Pt}(hd:zNC l):∀k,k<=l.length->plB [] l k=l.take k/\plN [] l k=rgI k
  |0,_=>⟨rfl,rfl⟩
  |k+1,hk=>by
   obtain⟨h1,h2⟩:=zOT hd k zos;have hl:(l.take k).length=k:=by rw[zei];omega
   have C:∀i,i<(l.take k).length->¬zJE ((l.take k).getD i zT) (l.getD k zT):=λi hi=>by
    rw[hl] at hi;rw[zSL hi];exact hd i k hi zos
   obtain⟨h3,D⟩:=yHZ C;refine⟨?_,?_⟩
   · show adB (plB [] l k) (l.getD k zT)=_
     rw[h1,h3];rw[zoa,zoc (show k<l.length by omega),zye (show k<l.length by omega)];rfl
   · show plN [] l k++[adN (plB [] l k) (l.getD k zT)]=rgI k++[(k:Int)]
     rw[h2,h1,D,hl]
theorem zKZ{l:List Pt}(hd:zNC l):bsZ [l]=l:=by
 have h:=(zOT hd l.length (zbe _)).1;rw[zue] at h;exact h
theorem yHO{l:List Pt}(hd:zNC l):bxZ [l]=[rgI l.length]:=zbi (λz=>[z]) (zOT hd l.length (zbe _)).2
theorem zO4{P:List Pt}(ha:0<yU (arZ P 0 1)):ouZ [P]=1:=zau ha
theorem yA0{l:List Pt}{lo hi:Rat}(hd:zNC l)(hs:aG l 0 1)(hl:l.length<=64)(ha:0<yU (arZ l 0 1))(hlh:lo<hi):prE [l] lo hi=0:=by
 unfold prE;rw[zae (λe=>e (zF9 hs hl ha)),zae (λe=>e (zO4 ha)),zae (λe=>by unfold vH at e;grind),zae];unfold prB;rw[zKZ hd];have h1:iE [l] [l].length=0+l.length:=I;rw[h1];omega
section
variable {a b:Pt}
def bB(a b:Pt):List Pt:=[T3.mk a.x a.y (0:Rat),T3.mk b.x a.y (0:Rat),T3.mk b.x b.y (0:Rat),T3.mk a.x b.y (0:Rat)]
theorem zSD(h:iF a b):a.x<b.x/\a.y<b.y/\a.z<b.z:=by
 have g:∀{u v:Rat},¬0<=vH u v->u<v:=λ{u v} h=>Rat.not_le.1 λe=>h (by unfold vH;grind);exact⟨g (h 0 zov),g (h 1 zov),g (h 2 zov)⟩
theorem zCG(hx:a.x<b.x)(hy:a.y<b.y):zNC (bB a b):=by
 intro i j G D;have C:j<4:=D;have:(i=0/\(j=1\/j=2\/j=3))\/(i=1/\(j=2\/j=3))\/(i=2/\j=3):=by omega
 rcases this with⟨rfl,rfl|rfl|rfl⟩|⟨rfl,rfl|rfl⟩|⟨rfl,rfl⟩<;>(intro e;have J:=e.1;have H:=e.2;simp only[bB,zzi,z1i] at J H;grind)
def uI:List PI:=[(0,0),(1,0),(1,1),(0,1)]
theorem yJP:∀m,m<uI.length->pr (gp (bB a b) m) 0 1=ag a.x (b.x-a.x) a.y (b.y-a.y) (gI uI m):=by
 intro m C;have G:m<4:=C;have e0:((0:Int):Rat)=0:=I;have D:((1:Int):Rat)=1:=I;have:m=0\/m=1\/m=2\/m=3:=by omega
 rcases this with rfl|rfl|rfl|rfl<;>(unfold ag;refine Prod.ext ?_ ?_<;>simp[pr,gp,bB,gI,uI,T3.at,e0,D]<;>grind)
theorem yHU(hx:a.x<b.x)(hy:a.y<b.y):aG (bB a b) 0 1:=zFK (x:=a.x) (p:=b.x-a.x) (y:=a.y) (q:=b.y-a.y) (s:=uI) zo2 zo2 rfl yJP (by decide +kernel)
theorem yCE:arZ (bB a b) 0 1=2*((b.x-a.x)*(b.y-a.y)):=by
 unfold arZ;simp[uU,gp,bB,T3.at];grind
theorem zZE(hx:a.x<b.x)(hy:a.y<b.y):0<yU (arZ (bB a b) 0 1):=by
 rw[yCE,y0];have:=tV (p:=b.x-a.x) (q:=b.y-a.y) zo2 zo2;grind
theorem yHT(h:iF a b):blE a b=0:=by
 obtain⟨hx,hy,hz⟩:=zSD h;rw[(yCC h).1];exact yA0 (zCG hx hy) (yHU hx hy) (show 4<=64 by decide) (zZE hx hy) hz
def cB(a b:Pt)(x y z:Bool):Pt:=T3.mk (if x then b.x else a.x) (if y then b.y else a.y) (if z then b.z else a.z)
def pB0(a b:Pt):List Pt:=[cB a b false false false,cB a b true false false,cB a b true true false,cB a b false true false,cB a b false false true,cB a b true false true,cB a b true true true,cB a b false true true]
theorem zFM(hx:a.x<b.x)(hy:a.y<b.y):ppZ (blL a b) a.z b.z=pB0 a b:=by
 have h:bsZ (blL a b)=bB a b:=zKZ (zCG hx hy);unfold ppZ zS5;rw[h]
 show uG _ 8=_
 have G:(bB a b).length=4:=I;have C:∀i:Nat,4<=i->(if((4:Nat):Int)<=(i:Int) then b.z else a.z)=b.z:=λi hi=>zau zos;have D:∀i:Nat,i<4->(if((4:Nat):Int)<=(i:Int) then b.z else a.z)=a.z:=λi hi=>zae zos;simp only[uG,zge,ziu,G];rw[D 0 zov,D 1 zov,D 2 zov,D 3 zov,C 4 zov,C 5 zov,C 6 zov,C 7 zov]
 rfl
theorem zNO(hx:a.x<b.x)(hy:a.y<b.y):bxZ (blL a b)=[[0,1,2,3]]:=yHO (zCG hx hy)
def sF(A B:Pt)(i j:Int)(nm:List Nat):Fc:=((T3.mk (B.y-A.y) (-(B.x-A.x)) (0:Rat),xO (T3.mk (B.y-A.y) (-(B.x-A.x)) (0:Rat)) A),[[i,j,j+4,i+4]],nm)
def bF0(a b:Pt):Fc:=((T3.mk (0:Rat) (0:Rat) (-((1:Int):Rat)),-a.z),[[3,2,1,0]],[98,111,116,116,111,109])
def tF0(a b:Pt):Fc:=((T3.mk (0:Rat) (0:Rat) ((1:Int):Rat),b.z),[[4,5,6,7]],[116,111,112])
def fB0(a b:Pt):List Fc:=[sF (cB a b false false false) (cB a b true false false) 0 1 (nmS 0 0),sF (cB a b true false false) (cB a b true true false) 1 2 (nmS 0 1),sF (cB a b true true false) (cB a b false true false) 2 3 (nmS 0 2),sF (cB a b false true false) (cB a b false false false) 3 0 (nmS 0 3),bF0 a b,tF0 a b]
theorem zBH(hx:a.x<b.x)(hy:a.y<b.y){k:Nat}(hk:k<4):sdF (blL a b) a.z b.z 0 k=sF ((pB0 a b).getD k zT) ((pB0 a b).getD ((k+1)%4) zT) (k:Int) (((k+1)%4:Nat):Int) (nmS 0 k):=by
 have hb:=zNO hx hy;have G:((bsZ (blL a b)).length:Int)=4:=by rw[show bsZ (blL a b)=bB a b from zKZ (zCG hx hy)];rfl
 have D:sdA (blL a b) 0 k=(k:Int):=by
  unfold sdA;rw[hb];have:k=0\/k=1\/k=2\/k=3:=by omega
  rcases this with rfl|rfl|rfl|rfl<;>rfl
 have C:sdB (blL a b) 0 k=(((k+1)%4:Nat):Int):=by
  unfold sdB;rw[hb];have:k=0\/k=1\/k=2\/k=3:=by omega
  rcases this with rfl|rfl|rfl|rfl<;>rfl
 have H:sdN (blL a b) a.z b.z 0 k=T3.mk (((pB0 a b).getD ((k+1)%4) zT).y-((pB0 a b).getD k zT).y) (-(((pB0 a b).getD ((k+1)%4) zT).x-((pB0 a b).getD k zT).x)) (0:Rat):=by
  unfold sdN;rw[zFM hx hy,D,C,z7i,z7i]
 unfold sdF;rw[H,zFM hx hy,D,C,G,z7i]
 rfl
theorem zLW(hx:a.x<b.x)(hy:a.y<b.y):prR (blL a b) a.z b.z=(pB0 a b,fB0 a b,[]):=by
 have hb:=zNO hx hy;have C:((bsZ (blL a b)).length:Int)=4:=by rw[show bsZ (blL a b)=bB a b from zKZ (zCG hx hy)];rfl
 unfold prR;rw[zFM hx hy];refine zbi (λz=>(pB0 a b,z,([]:List En))) ?_;have H:zLJ (blL a b) a.z b.z (bxZ (blL a b)).length=[sdF (blL a b) a.z b.z 0 0,sdF (blL a b) a.z b.z 0 1,sdF (blL a b) a.z b.z 0 2,sdF (blL a b) a.z b.z 0 3]:=by
  rw[hb]
  show[]++sfX (blL a b) a.z b.z 0 ((bxZ (blL a b)).getD 0 []).length=_
  rw[hb];rfl
 have G:btF (blL a b) a.z=bF0 a b:=by
  unfold btF bF0 zY7;rw[hb];rfl
 have D:tpF (blL a b) b.z=tF0 a b:=by
  unfold tpF tF0 zUT tpL;rw[hb,C];rfl
 rw[H,G,D,zBH hx hy zov,zBH hx hy zov,zBH hx hy zov,zBH hx hy zov]
 rfl
theorem oD{n:Nat}(h:n<10):qZ (((n:Int):Int):Rat)=[48+n]:=by
 unfold qZ;rw[Rat.num_intCast,Rat.den_intCast,zae zos,zau bZ,Int.natAbs_natCast]
 by_cases h0:n=0
 · subst h0;rfl
 · rw[zZX h0 h];rfl
theorem yFQ{k:Nat}(h:k<10):nmS 0 k=[115,48,46,48+k]:=by
 unfold nmS;rw[oD (n:=0) zov,oD h];rfl
end
def zD3(p:Nat->Bool):Nat->Nat
  |0=>0
  |k+1=>if p k then zD3 p k else k+1
theorem zCF{P:Nat->Prop}{p:Nat->Bool}:∀n,(∀k,k<n->(P k↔p k=true))->aP P n=zD3 p n
  |0,_=>rfl
  |n+1,h=>by
   have ih:=zCF n λk hk=>h k zos;have h1:=h n zos;unfold aP zD3;rw[ih]
   by_cases hp:P n
   · rw[zau hp,zau (h1.1 hp)]
   · rw[zae hp,zae (λe=>hp (h1.2 e))]
def usB(E:List E5)(i:Nat):Bool:=E.any λe=>decide (e.1=(i:Int))
theorem zUN(E:List E5)(i:Nat):zI8 E E.length i↔usB E i=true:=by
 unfold usB;rw[List.any_eq_true];constructor
 · rintro⟨q,C,h⟩
   exact⟨_,gM C,decide_eq_true h⟩
 · rintro⟨e,D,h⟩
   obtain⟨q,C,rfl⟩:=yge D;refine⟨q,C,?_⟩;rw[zoa,zoc C];exact yau h
def orB(E:List E5)(lt:Nat->Nat->Bool):Nat->List Int
  |0=>[]
  |i+1=>if usB E i then dG (orB E lt i) (zD3 (λk=>lt i ((orB E lt i).getD k 0).toNat) (orB E lt i).length) (i:Int) else orB E lt i
theorem zO7{s:Sd}{lt:Nat->Nat->Bool}{n:Nat}(h:∀i k,i<n->k<n->(lsP (gp s.1 i) (gp s.1 k)↔lt i k=true)):∀i,i<=n->aI s i=orB (edZ (uA s)) lt i
  |0,_=>rfl
  |i+1,hi=>by
   have ih:=zO7 h i zos;unfold aI orB;have hb:aP (zTB s (aI s i) i) (aI s i).length=zD3 (λk=>lt i ((orB (edZ (uA s)) lt i).getD k 0).toNat) (orB (edZ (uA s)) lt i).length:=by
    rw[<-ih];refine zCF _ λk C=>?_;have:=oN C;exact h i _ zos zos
   rw[hb,ih]
   by_cases hu:zI8 (edZ (uA s)) (edZ (uA s)).length i
   · rw[zau hu,zau ((zUN _ _).1 hu)]
   · rw[zae hu,zae (λe=>hu ((zUN _ _).2 e))]
abbrev B3:=Bool×Bool×Bool
def lt3(u v:B3):Bool:=(!u.1&&v.1)||(u.1==v.1&&((!u.2.1&&v.2.1)||(u.2.1==v.2.1&&(!u.2.2&&v.2.2))))
def cU(a b:Pt)(u:B3):Pt:=cB a b u.1 u.2.1 u.2.2
variable {a b:Pt}
theorem zTS(hx:a.x<b.x)(hy:a.y<b.y)(hz:a.z<b.z)(u v:B3):lsP (cU a b u) (cU a b v)↔lt3 u v=true:=by
 obtain⟨D,C,u3⟩:=u;obtain⟨v1,v2,v3⟩:=v
 cases D<;>cases C<;>cases u3<;>cases v1<;>cases v2<;>cases v3<;>simp[lsP,cU,cB,lt3]<;>grind
theorem yHL(hx:a.x<b.x)(hy:a.y<b.y)(hz:a.z<b.z){u v:B3}(h:cU a b u=cU a b v):u=v:=by
 obtain⟨D,C,u3⟩:=u;obtain⟨v1,v2,v3⟩:=v;have h1:=zbi T3.x h;have h2:=zbi T3.y h;have h3:=zbi T3.z h
 cases D<;>cases C<;>cases u3<;>cases v1<;>cases v2<;>cases v3<;>first|rfl|(exfalso;simp[cU,cB] at h1 h2 h3;grind)
def uB0:List B3:=[(false,false,false),(true,false,false),(true,true,false),(false,true,false),(false,false,true),(true,false,true),(true,true,true),(false,true,true)]
theorem oK:pB0 a b=uB0.map (cU a b):=rfl
theorem t6{l:List B3}{i:Nat}(h:i<l.length):gp (l.map (cU a b)) i=cU a b (l.getD i (false,false,false)):=by
 unfold gp;rw[zoa,zoa,zwi,zoc h];rfl
theorem zH9(hx:a.x<b.x)(hy:a.y<b.y)(hz:a.z<b.z){l:List B3}{F:List Fc}{E:List En}:fV (l.map (cU a b),F,E)=orB (edZ (uA (l.map (cU a b),F,E))) (λi k=>lt3 (l.getD i (false,false,false)) (l.getD k (false,false,false))) l.length:=by
 unfold fV;rw[show(l.map (cU a b),F,E).1.length=l.length from zde _];refine zO7 (n:=l.length) (λi k hi C=>?_) _ (zbe _)
 show lsP (gp (l.map (cU a b)) i) (gp (l.map (cU a b)) k)↔_
 rw[t6 hi,t6 C];exact zTS hx hy hz _ _
theorem dE:uA (pB0 a b,fB0 a b,[])=[[[0,1,5,4]],[[1,2,6,5]],[[2,3,7,6]],[[3,0,4,7]],[[3,2,1,0]],[[4,5,6,7]]]:=rfl
theorem zL3(hx:a.x<b.x)(hy:a.y<b.y)(hz:a.z<b.z):fV (pB0 a b,fB0 a b,[])=[0,4,3,7,1,5,2,6]:=by
 rw[oK,zH9 hx hy hz,<-oK,dE]
 decide +kernel
theorem bK{α:Type}{p:Nat->Prop}{g:Nat->α}:∀{n},(∀i,i<n->¬p i)->cQ p g n=[]
  |0,_=>rfl
  |n+1,h=>by
   rw[<-zBG (h n zos)];exact bK λi hi=>h i zos
theorem zDG{α:Type}{g:Nat->List α}:∀{n},(∀i,i<n->g i=[])->kK g n=[]
  |0,_=>rfl
  |n+1,h=>by
   show kK g n++g n=[]
   rw[h n zos,zDG λi hi=>h i zos];rfl
def tmB(E:List E5)(a b:Int):Nat->Int
  |0=>0
  |m+1=>if(E.getD m ((0:Int),(0:Int),(0:Int),(0:Int),(0:Int))).1=a/\(E.getD m ((0:Int),(0:Int),(0:Int),(0:Int),(0:Int))).2.1=b then tmB E a b m+1 else tmB E a b m
theorem zN3(E:List E5)(a b:Int):∀m,zA6 E a b m=tmB E a b m
  |0=>rfl
  |m+1=>by
   unfold zA6 tmB;rw[zN3 E a b m]
   by_cases h:yB6 (E.getD m ((0:Int),(0:Int),(0:Int),(0:Int),(0:Int))) a b
   · rw[zau h];exact(zau h).symm
   · rw[zae h];exact(zae h).symm
def clB(E:List E5):Bool:=(List.range E.length).all λi=>!decide (tmB E (E.getD i ((0:Int),(0:Int),(0:Int),(0:Int),(0:Int))).2.1 (E.getD i ((0:Int),(0:Int),(0:Int),(0:Int),(0:Int))).1 E.length<tmB E (E.getD i ((0:Int),(0:Int),(0:Int),(0:Int),(0:Int))).1 (E.getD i ((0:Int),(0:Int),(0:Int),(0:Int),(0:Int))).2.1 E.length)
theorem yC4{F:List (List (List Int))}(hv:vaP F)(h:clB (edZ F)=true):clZ F=[]:=by
 unfold clZ;rw[zau hv];unfold yG8;refine bK λi hi=>?_;have h1:=zob.1 h i (zog.2 hi);rw[zje,zgu] at h1;unfold yJE tmZ;rw[zN3,zN3];exact h1
theorem yCM{s:Sd}(hb:¬zNP s)(hf:∀f,f<s.2.1.length->vfP (s.2.1.getD f zA).2.1/\nmP s f):szZ s=[]:=by
 unfold szZ;rw[zae hb];exact bK λf C e=>by
  rcases e with e|e
  · exact e (hf f C).1
  · exact e (hf f C).2
theorem yCK{s:Sd}(h:∀i k,k<i->i<s.1.length->¬gp s.1 i=gp s.1 k):zK7 s s.1.length=[]:=bK λi hi e=>by
 obtain⟨k,hk,e⟩:=e;exact h i k hk hi e
theorem yCP{s:Sd}(hz:∀f,f<s.2.1.length->¬(s.2.1.getD f zA).1.1=zT)(ho:∀f,f<s.2.1.length->∀l,l<(fE s f).length->∀k,k<(gl (fE s f) l).length->sdZ (s.2.1.getD f zA).1 (gp (gl (fE s f) l) k)=0):plZ s=[]:=by
 have h1:zUH s s.2.1.length=[]:=bK λf C e=>hz f C e;have h2:zO8 s s.2.1.length=[]:=zDG λf C=>zDG λl D=>bK λk G e=>e (ho f C l D k G);unfold plZ;rw[h1,h2];rfl
theorem yCR{s:Sd}(h:∀f,f<s.2.1.length->uF (sY s f) 0 1=0/\ouZ (sY s f)=1):neZ s=[]:=by
 have h1:zY5 s s.2.1.length=[]:=bK λf C e=>e (h f C).1;have h2:yFU s s.2.1.length=[]:=bK λf C e=>e (h f C).2;unfold neZ;rw[h1,h2];rfl
theorem zQQ{s:Sd}(h1:szZ s=[])(h2:zK7 s s.1.length=[])(h3:plZ s=[])(h4:neZ s=[])(h5:clZ (uA s)=[]):lT s:=by
 unfold lT zYW;rw[h1,h2,h3,h4,h5];rfl
theorem yJJ{s:Sd}{f:Nat}{i j k l:Int}(hf:f<s.2.1.length)(hn:nmP s f)(hl:(s.2.1.getD f zA).2.1=[[i,j,k,l]]):fE s f=[[gp s.1 i.toNat,gp s.1 j.toNat,gp s.1 k.toNat,gp s.1 l.toNat]]:=by
 rw[zQA hf hn,hl];unfold zKW;rw[hl];rfl
theorem zX8{s:Sd}{f:Nat}{A B C D:Pt}(h:fE s f=[[A,B,C,D]]):sY s f=[[fX (s.2.1.getD f zA).1 A,fX (s.2.1.getD f zA).1 B,fX (s.2.1.getD f zA).1 C,fX (s.2.1.getD f zA).1 D]]:=by
 unfold sY;rw[h];rfl
theorem yE9{x p y q:Rat}(hp:0<p)(hq:0<q){l:List Pt}{t:List PI}(ht:t=[(0,0),(1,0),(1,1),(0,1)]\/t=[(1,0),(1,1),(0,1),(0,0)]\/t=[(1,1),(0,1),(0,0),(1,0)]\/t=[(0,1),(0,0),(1,0),(1,1)])
    (hl:l=t.map λu=>T3.mk (x+p*(u.1:Rat)) (y+q*(u.2:Rat)) (0:Rat)):uF [l] 0 1=0/\ouZ [l]=1:=by
 have U:t.length=4:=by rcases ht with rfl|rfl|rfl|rfl<;>rfl
 have D:l.length=t.length:=by rw[hl,zde]
 have J:∀m,m<t.length->pr (gp l m) 0 1=ag x p y q (gI t m):=λm H=>by
  rw[hl];unfold gp gI;rw[zoa,zoa,zwi,zoc H]
  rfl
 have G:aG l 0 1:=zFK hp hq D J (by rcases ht with rfl|rfl|rfl|rfl<;>decide +kernel);have e0:((0:Int):Rat)=0:=I;have O:((1:Int):Rat)=1:=I;have M:arZ l 0 1=2*(p*q):=by
  unfold arZ
  rcases ht with rfl|rfl|rfl|rfl<;>(subst hl;simp[uU,gp,T3.at,e0,O];grind)
 have C:0<yU (arZ l 0 1):=by
  rw[M,y0];have:=tV hp hq;grind
 exact⟨zF9 G zos C,zO4 C⟩
section
variable {x p y q:Rat}
def lay(x p y q:Rat)(s:List PI)(l:List Pt):Prop:=l.length=s.length/\∀m,m<s.length->pr (gp l m) 0 1=ag x p y q (gI s m)
def arG(s:List PI):Nat->Int
  |0=>0
  |m+1=>arG s m+((gI s m).1*(gI s ((m+1)%s.length)).2-(gI s ((m+1)%s.length)).1*(gI s m).2)
theorem zM0{s:List PI}{l:List Pt}(h:lay x p y q s l):∀m,m<=s.length->
 uU l 0 1 m=p*q*((arG s m:Int):Rat)+x*q*(((gI s (m%s.length)).2:Rat)-((gI s 0).2:Rat))-y*p*(((gI s (m%s.length)).1:Rat)-((gI s 0).1:Rat))
 |0,_=>by
  rw[Nat.zero_mod]
  show(0:Rat)=p*q*((0:Int):Rat)+_-_
  have:((0:Int):Rat)=0:=rfl;rw[this];grind
 |m+1,hm=>by
  have ih:=zM0 h m zos;have e1:=h.2 m zos;have e2:=h.2 ((m+1)%s.length) (zcu _ zos);have hmod:m%s.length=m:=zoh zos;rw[hmod] at ih;have a1:(gp l m).at 0=x+p*((gI s m).1:Rat):=zbi Prod.fst e1;have a2:(gp l m).at 1=y+q*((gI s m).2:Rat):=zbi Prod.snd e1;have b1:(gp l ((m+1)%s.length)).at 0=x+p*((gI s ((m+1)%s.length)).1:Rat):=zbi Prod.fst e2;have b2:(gp l ((m+1)%s.length)).at 1=y+q*((gI s ((m+1)%s.length)).2:Rat):=zbi Prod.snd e2
  show uU l 0 1 m+((gp l m).at 0*(gp l ((m+1)%l.length)).at 1-(gp l ((m+1)%l.length)).at 0*(gp l m).at 1)=_
  rw[h.1,ih,a1,a2,b1,b2]
  show _=p*q*((arG s m+((gI s m).1*(gI s ((m+1)%s.length)).2-(gI s ((m+1)%s.length)).1*(gI s m).2):Int):Rat)+_-_
  simp only[zni,z7u,zuu];grind
theorem zXU{s:List PI}{l:List Pt}(h:lay x p y q s l):arZ l 0 1=p*q*((arG s s.length:Int):Rat):=by
 unfold arZ;rw[h.1,zM0 h _ (zbe _),Nat.mod_self];grind
theorem zEU(hp:0<p)(hq:0<q){s:List PI}{l:List Pt}(h:lay x p y q s l):yU (arZ l 0 1)=sgI (arG s s.length):=by
 rw[zXU h,iM (tV hp hq),zBB];rfl
theorem zKM(hp:0<p)(hq:0<q){s:List PI}{l:List Pt}(h:lay x p y q s l)(hb:zSS s=true):aG l 0 1:=zFK hp hq h.1 h.2 hb
theorem bV{s:List PI}{l:List Pt}(h:lay x p y q s l){m:Nat}(hm:m<s.length):gP l 0 1 m=ag x p y q (gI s m)/\gO l 0 1 m=ag x p y q (gI s ((m+1)%s.length)):=by
 unfold gP gO;rw[h.1];exact⟨h.2 m hm,h.2 _ (zcu _ zos)⟩
def btI(a b c:Int):Bool:=decide ((a<=c/\c<=b)\/(b<=c/\c<=a))
def yA4(u v w:PI):Bool:=btI u.1 v.1 w.1&&btI u.2 v.2 w.2&&decide (crI u v w=0)
def csI(u v w:PI):Bool:=decide (¬(u.2<=w.2↔v.2<=w.2)/\((u.2<=w.2/\0<crI u v w)\/(v.2<=w.2/\crI u v w<0)))
def odI(s:List PI)(w:PI):Nat->Bool
  |0=>false
  |m+1=>csI (gI s m) (gI s ((m+1)%s.length)) w != odI s w m
def inI(s:List PI)(w:PI):Int:=if(List.range s.length).any λm=>yA4 (gI s m) (gI s ((m+1)%s.length)) w then 0 else if odI s w s.length then 1 else -1
theorem zZK{a b:Int}(hp:0<p):x+p*(a:Rat)<=x+p*(b:Rat)↔a<=b:=by
 rw[<-Rat.not_lt,zI6 hp,Int.not_lt]
theorem yC9(hp:0<p)(hq:0<q)(u v w:PI):onS (ag x p y q u) (ag x p y q v) (ag x p y q w)↔yA4 u v w=true:=by
 have C:cr (ag x p y q u) (ag x p y q v) (ag x p y q w)=0↔crI u v w=0:=by
  rw[yDC];have h0:¬p*q=0:=λe=>absurd (e▸tV hp hq) zov;constructor
  · intro e
    rcases zoe.1 e with e|e
    · exact absurd e h0
    · exact zsu.1 e
  · intro e
    rw[e];exact Rat.mul_zero _
 unfold onS yA4 rJ btI;rw[C,zbu,zbu,zie,zie,zie];unfold ag;simp only[zZK hp,zZK hq];constructor
 · rintro⟨a,b,c⟩;exact⟨⟨by omega,by omega⟩,c⟩
 · rintro⟨⟨a,b⟩,c⟩;exact⟨by omega,by omega,c⟩
theorem y6{n:Int}:0<sgI n↔0<n:=by unfold sgI;split<;>(try split)<;>omega
theorem zQT{n:Int}:sgI n<0↔n<0:=by unfold sgI;split<;>(try split)<;>omega
theorem yJQ(hp:0<p)(hq:0<q)(u v w:PI):dP (ag x p y q u) (ag x p y q v) (ag x p y q w)↔csI u v w=true:=by
 unfold dP csI;rw[zie,zZJ hp hq];unfold orI;rw[y6,zQT];unfold ag;simp only[zZK hq]
theorem zKN(hp:0<p)(hq:0<q){s:List PI}{l:List Pt}(h:lay x p y q s l)(w:PI):∀m,m<=s.length->(bS l (ag x p y q w) 0 1 m↔odI s w m=true)
  |0,_=>by simp[bS,odI]
  |m+1,hm=>by
   have ih:=zKN hp hq h w m zos;obtain⟨e1,e2⟩:=bV h (m:=m) zos;unfold bS odI;rw[e1,e2,yJQ hp hq,ih]
   cases csI (gI s m) (gI s ((m+1)%s.length)) w<;>cases odI s w m<;>simp
theorem yGD(hp:0<p)(hq:0<q){s:List PI}{l:List Pt}(h:lay x p y q s l)(w:PI):zAR l (ag x p y q w) 0 1=inI s w:=by
 unfold zAR inI;have h1:(∃m,m<l.length/\onS (gP l 0 1 m) (gO l 0 1 m) (ag x p y q w))↔((List.range s.length).any λm=>yA4 (gI s m) (gI s ((m+1)%s.length)) w)=true:=by
  rw[List.any_eq_true,h.1];constructor
  · rintro⟨m,D,e⟩
    obtain⟨G,C⟩:=bV h D;rw[G,C,yC9 hp hq] at e;exact⟨m,zog.2 D,e⟩
  · rintro⟨m,D,e⟩
    have D:=zog.1 D;obtain⟨G,C⟩:=bV h D;refine⟨m,D,?_⟩;rw[G,C,yC9 hp hq];exact e
 by_cases e:∃m,m<l.length/\onS (gP l 0 1 m) (gO l 0 1 m) (ag x p y q w)
 · rw[zau e,zau (h1.1 e)]
 · rw[zae e,zae λH=>e (h1.2 H),h.1]
   by_cases C:bS l (ag x p y q w) 0 1 s.length
   · rw[zau C,zau ((zKN hp hq h w _ (zbe _)).1 C)]
   · rw[zae C,zae λH=>C ((zKN hp hq h w _ (zbe _)).2 H)]
def dbI(s:List PI):List PI:=s.map λu=>(2*u.1,2*u.2)
def miI(u v:PI):PI:=(u.1+v.1,u.2+v.2)
theorem yG5(s:List PI){m:Nat}(hm:m<s.length):gI (dbI s) m=(2*(gI s m).1,2*(gI s m).2):=by
 unfold gI dbI;rw[zoa,zoa,zwi,zoc hm];rfl
theorem yGE{s:List PI}{l:List Pt}(h:lay x p y q s l):lay x (p/2) y (q/2) (dbI s) l:=by
 have D:(dbI s).length=s.length:=zde _;refine⟨by rw[D];exact h.1,λm C=>?_⟩;rw[D] at C;rw[h.2 m C,yG5 s C];unfold ag;have e:∀a:Int,(((2*a:Int)):Rat)=2*(a:Rat):=λa=>by rw[zuu];rfl
 show(x+p*_,y+q*_)=(x+p/2*(((2*_:Int)):Rat),y+q/2*(((2*_:Int)):Rat))
 rw[e,e];refine Prod.ext ?_ ?_
 · show x+p*_=x+p/2*(2*_);grind
 · show y+q*_=y+q/2*(2*_);grind
theorem yHW(u v:PI):zPR (ag x p y q u) (ag x p y q v)=ag x (p/2) y (q/2) (miI u v):=by
 have C:zGN=1/2:=zIW.symm.trans I;unfold zPR ag miI zC8;rw[C];simp only[zni];refine Prod.ext ?_ ?_
 · show(x+p*_+(x+p*_))*(1/2)=x+p/2*(_+_);grind
 · show(y+q*_+(y+q*_))*(1/2)=y+q/2*(_+_);grind
def wiB(c s:List PI):Bool:=(List.range s.length).all λm=>decide (inI (dbI c) (miI (gI s m) (gI s ((m+1)%s.length)))=1)
theorem zK3{c l:List Pt}(h:∀m,m<l.length->zAR c (zPR (gP l 0 1 m) (gO l 0 1 m)) 0 1=1):∀m,m<=l.length->pW c l 0 1 m=m
  |0,_=>rfl
  |m+1,hm=>by
   unfold pW;rw[zau (h m zos),zK3 h m zos];omega
theorem zXT(hp:0<p)(hq:0<q){s t:List PI}{c l:List Pt}(hc:lay x p y q s c)(hl:lay x p y q t l)(h:wiB s t=true):wiZ c l 0 1=l.length:=by
 refine zK3 (λm C=>?_) _ (zbe _);rw[hl.1] at C;obtain⟨G,D⟩:=bV hl C;rw[G,D,yHW,yGD (p:=p/2) (q:=q/2) zo2 zo2 (yGE hc)];have:=zob.1 h m (zog.2 C);exact yau this
theorem zH5{P:List Pt}(h:0<yU (arZ P 0 1)):cS P:=zDH λe=>by
 have e':arZ P 0 1=0:=e;rw[e',show yU 0=0 from zau rfl] at h;omega
def noX(s t:List PI):Bool:=(List.range s.length).all λa=>(List.range t.length).all λb=>!decide (1<toI (gI s a) (gI s ((a+1)%s.length)) (gI t b) (gI t ((b+1)%t.length)))
theorem yBP(hp:0<p)(hq:0<q){s t:List PI}{c l:List Pt}(hc:lay x p y q s c)(hl:lay x p y q t l)(h:noX s t=true):¬fD c l 0 1:=by
 rintro⟨a,b,C,hb,e⟩
 rw[hc.1] at C;rw[hl.1] at hb;unfold s4 at e;rw[(bV hc C).1,(bV hc C).2,(bV hl hb).1,(bV hl hb).2,zNS hp hq] at e;have h1:=zob.1 (zob.1 h a (zog.2 C)) b (zog.2 hb);rw[zje,zgu] at h1;exact h1 e
theorem zWZ{P Q:List Pt}(hs:aG P 0 1)(ht:aG Q 0 1)(hl:P.length<=64/\Q.length<=64)(hx:¬fD P Q 0 1)(ha:0<yU (arZ P 0 1))(hw:wiZ P Q 0 1=Q.length):uF [P,Q] 0 1=0:=by
 have C:∀m,m<[P,Q].length->m=0\/m=1:=λm D=>by have:m<2:=D;omega
 have hb:yJN [P,Q] 0 1 1 0 (-1):=⟨⟨ha,hw⟩,.inl zov⟩;have O:pZ [P,Q] 0 1 0= -1:=zau ha;have M:0<=sG [P,Q] 0 1 1 2:=by
  have J:sG [P,Q] 0 1 1 1=0:=zau hb;unfold sG;rw[J]
  split<;>decide
 unfold uF;rw[zae (λe=>by
  rcases e with e|⟨m,D,e⟩
  · have:16<2:=e
    omega
  · rcases C m D with rfl|rfl
    · have:64<P.length:=e
      omega
    · have:64<Q.length:=e
      omega),zae (λe=>by
  obtain⟨m,D,e⟩:=e
  rcases C m D with rfl|rfl
  · exact e hs
  · exact e ht),zae (λe=>by
  obtain⟨a,b,H,hb,e⟩:=e;have:b<2:=hb;have:a=0/\b=1:=by omega
  obtain⟨rfl,rfl⟩:=this;exact hx e),zae (λe=>by
  rcases e with⟨k,hk,e⟩|⟨a,b,hka,hkb,e⟩
  · rcases C k hk with rfl|rfl
    · exact e.1 ha
    · have:=e.2
      have Z:sG [P,Q] 0 1 1 [P,Q].length=sG [P,Q] 0 1 1 2:=I;omega
  · obtain⟨⟨⟨G,h0⟩,U⟩,_⟩:=e
    rcases C a hka with rfl|rfl
    · omega
    · rcases C b hkb with rfl|rfl
      · omega
      · exact G I)]
def nsI(S:List (List PI)):Bool:=
 match S with
 |[s]=>zSS s&&decide (s.length<=64)&&decide (0<arG s s.length)
 |[s,t]=>zSS s&&zSS t&&decide (s.length<=64/\t.length<=64)&&noX s t&&decide (0<arG s s.length)&&decide (arG t t.length<0)&&wiB s t
 |_=>false
def yGF(x p y q:Rat)(S:List (List PI))(L:List (List Pt)):Prop:=L.length=S.length/\∀m,m<S.length->lay x p y q (S.getD m []) (gl L m)
theorem zML(hp:0<p)(hq:0<q){S:List (List PI)}{L:List (List Pt)}(h:yGF x p y q S L)(hb:nsI S=true):uF L 0 1=0/\ouZ L=1/\∀l,l∈L->cS l:=by
 match S,hb with
 |[s],hb=>
  match L,h.1 with
  |[l],_=>
   have h0:lay x p y q s l:=h.2 0 (show 0<_ from ytu _);simp only[nsI,zbu,zie] at hb;have C:0<yU (arZ l 0 1):=by rw[zEU hp hq h0];exact y6.2 hb.2
   refine⟨zF9 (zKM hp hq h0 hb.1.1) (by rw[h0.1];exact hb.1.2) C,zO4 C,λz hz=>?_⟩;rw[zpe.1 hz];exact zH5 C
 |[s,t],hb=>
  match L,h.1 with
  |[l,k],_=>
   have h0:lay x p y q s l:=h.2 0 (show 0<_ from ytu _);have h1:lay x p y q t k:=h.2 1 (show 1<2 from by decide);simp only[nsI,zbu,zie] at hb;obtain⟨⟨⟨⟨⟨⟨b1,Z⟩,U⟩,O⟩,M⟩,J⟩,H⟩:=hb;have C:0<yU (arZ l 0 1):=by rw[zEU hp hq h0];exact y6.2 M
   have D:yU (arZ k 0 1)<0:=by rw[zEU hp hq h1];exact zQT.2 J
   refine⟨zWZ (zKM hp hq h0 b1) (zKM hp hq h1 Z) (by rw[h0.1,h1.1];exact U) (yBP hp hq h0 h1 O) C (zXT hp hq h0 h1 H),?_,λz hz=>?_⟩
   · have G:zAE [l,k] 1=1:=zau C
     show zAE [l,k] 2=1
     unfold zAE;rw[zae (show ¬0<yU (arZ (gl [l,k] 1) 0 1) fromλe=>by have:0<yU (arZ k 0 1):=e;omega),G]
   · rcases zfi.1 hz with rfl|hz
     · exact zH5 C
     · rw[zpe.1 hz]
       refine zDH λe=>?_;have:arZ k 0 1=0:=e;rw[this,show yU 0=0 from zau I] at D;omega
end
abbrev Dir:=Nat×Bool
def dI:Dir->Nat
  |(2,true)=>0|(2,false)=>1|(1,true)=>2|(1,false)=>0|(_,true)=>1|(_,false)=>2
def dJ:Dir->Nat
  |(2,true)=>1|(2,false)=>0|(1,true)=>0|(1,false)=>2|(_,true)=>2|(_,false)=>1
def dN(d:Dir)(c:Rat):Pt:=(zT).set d.1 (if d.2 then c else -c)
def zUE(u:B3):Nat->Bool
  |0=>u.1|1=>u.2.1|_=>u.2.2
def bI(x:Bool):Int:=if x then 1 else 0
def pI2(d:Dir)(u:B3):PI:=(bI (zUE u (dI d)),bI (zUE u (dJ d)))
variable {a b:Pt}
theorem yC5(u:B3)(i:Nat):(cU a b u).at i=if zUE u i then b.at i else a.at i:=by
 obtain⟨D,C,u3⟩:=u
 match i with
 |0=>rfl
 |1=>rfl
 |n+2=>rfl
theorem zYY(u:B3)(i:Nat):(cU a b u).at i=a.at i+(b.at i-a.at i)*((bI (zUE u i):Int):Rat):=by
 rw[yC5];have e0:((0:Int):Rat)=0:=I;have C:((1:Int):Rat)=1:=I;unfold bI
 split
 · rw[C];grind
 · rw[e0];grind
theorem zQI{d:Dir}{c:Rat}(hd:d.1<3)(hc:0<c):axI (dN d c)=dI d/\axJ (dN d c)=dJ d/\¬dN d c=zT:=by
 obtain⟨C,D⟩:=d;have h3:C=0\/C=1\/C=2:=by have:C<3:=hd;omega
 have H:¬dN (C,D) c=zT:=λe=>by
  have h1:=zbi T3.x e;have h2:=zbi T3.y e;have G:=zbi T3.z e
  rcases h3 with rfl|rfl|rfl<;>cases D<;>simp[dN,T3.set] at h1 h2 G<;>grind
 refine⟨?_,?_,H⟩
 · rcases h3 with rfl|rfl|rfl<;>cases D<;>simp[dN,T3.set,axI,dI]<;>grind
 · rcases h3 with rfl|rfl|rfl<;>cases D<;>simp[dN,T3.set,axJ,dJ]<;>grind
def zK8(d:Dir)(us:List B3):Bool:=(us.all λu=>zUE u d.1==d.2)&&(decide (us.map (pI2 d)=[(0,0),(1,0),(1,1),(0,1)])||decide (us.map (pI2 d)=[(1,0),(1,1),(0,1),(0,0)])||decide (us.map (pI2 d)=[(1,1),(0,1),(0,0),(1,0)])||decide (us.map (pI2 d)=[(0,1),(0,0),(1,0),(1,1)]))
theorem yBZ{d:Dir}{c o:Rat}(hd:d.1<3)(hc:0<c)(u:B3):fX (dN d c,o) (cU a b u)=T3.mk (a.at (dI d)+(b.at (dI d)-a.at (dI d))*(((pI2 d u).1:Int):Rat)) (a.at (dJ d)+(b.at (dJ d)-a.at (dJ d))*(((pI2 d u).2:Int):Rat)) (0:Rat):=by
 unfold fX;rw[(zQI hd hc).1,(zQI hd hc).2.1,zYY,zYY];rfl
theorem zIZ{d:Dir}{c o:Rat}(hd:d.1<3)(hc:0<c)(h:∀i,a.at i<b.at i){us:List B3}(ht:zK8 d us=true):uF [us.map λu=>fX (dN d c,o) (cU a b u)] 0 1=0/\ouZ [us.map λu=>fX (dN d c,o) (cU a b u)]=1:=by
 unfold zK8 at ht;simp only[zbu,zyi,zie] at ht;refine yE9 (x:=a.at (dI d)) (p:=b.at (dI d)-a.at (dI d)) (y:=a.at (dJ d)) (q:=b.at (dJ d)-a.at (dJ d)) (t:=us.map (pI2 d)) (by have:=h (dI d);grind) (by have:=h (dJ d);grind) ?_ ?_
 · rcases ht.2 with((h1|h1)|h1)|h1
   · exact .inl h1
   · exact .inr (.inl h1)
   · exact .inr (.inr (.inl h1))
   · exact .inr (.inr (.inr h1))
 · rw[yuu]
   exact yhi λu _=>yBZ hd hc u
theorem zT2{d:Dir}{c:Rat}(hd:d.1<3){u:B3}(hu:zUE u d.1=d.2):sdZ (dN d c,(if d.2 then c else -c)*(if d.2 then b.at d.1 else a.at d.1)) (cU a b u)=0:=by
 unfold sdZ hgt;have e:=yC5 (a:=a) (b:=b) u d.1;rw[hu] at e;obtain⟨C,D⟩:=d;have h3:C=0\/C=1\/C=2:=by have:C<3:=hd;omega
 have h0:xO (dN (C,D) c) (cU a b u)=(if D then c else -c)*(cU a b u).at C:=by
  rcases h3 with rfl|rfl|rfl<;>(simp only[xO,dN,T3.set,T3.at];grind)
 rw[h0,e];refine zau ?_
 show _*_-_*_=(0:Rat)
 grind
abbrev u0:B3:=(false,false,false)
def eQ(a b:Pt)(us:List B3)(d:Dir)(f:Fc):Prop:=
 d.1<3/\∃c,0<c/\f.1=(dN d c,(if d.2 then c else -c)*(if d.2 then b.at d.1 else a.at d.1))/\∃i j k l:Nat,f.2.1=[[(i:Int),(j:Int),(k:Int),(l:Int)]]/\(i<us.length/\j<us.length/\k<us.length/\l<us.length)/\zK8 d [us.getD i u0,us.getD j u0,us.getD k u0,us.getD l u0]=true
section
variable {us:List B3}{F:List Fc}
theorem zY3{d:Dir}{f:Nat}(h:eQ a b us d (F.getD f zA)):nmP (us.map (cU a b),F,[]) f:=by
 obtain⟨_,c,_,_,i,j,k,l,O,⟨h1,h2,h3,U⟩,_⟩:=h;intro m M q J
 show 0<=_/\_<(((us.map (cU a b)).length:Nat):Int)
 rw[zde];have D:m<((F.getD f zA).2.1).length:=M;have C:q<(((F.getD f zA).2.1).getD m []).length:=J
 show 0<=(((F.getD f zA).2.1).getD m []).getD q 0/\(((F.getD f zA).2.1).getD m []).getD q 0<_
 rw[O] at D C ⊢;have G:m=0:=by have:m<1:=D;omega
 subst G;have H:q<4:=C;have:q=0\/q=1\/q=2\/q=3:=by omega
 rcases this with rfl|rfl|rfl|rfl
 · show 0<=(i:Int)/\(i:Int)<_;omega
 · show 0<=(j:Int)/\(j:Int)<_;omega
 · show 0<=(k:Int)/\(k:Int)<_;omega
 · show 0<=(l:Int)/\(l:Int)<_;omega
theorem zEZ{d:Dir}{f:Nat}(hf:f<F.length)(h:eQ a b us d (F.getD f zA)):∃vs:List B3,zK8 d vs=true/\vs.length=4/\fE (us.map (cU a b),F,[]) f=[vs.map (cU a b)]:=by
 have D:=zY3 h;obtain⟨_,c,_,_,i,j,k,l,G,⟨h1,h2,h3,H⟩,C⟩:=h;refine⟨[us.getD i u0,us.getD j u0,us.getD k u0,us.getD l u0],C,I,?_⟩;rw[yJJ (s:=(us.map (cU a b),F,[])) hf D G]
 show[[gp (us.map (cU a b)) _,gp (us.map (cU a b)) _,gp (us.map (cU a b)) _,gp (us.map (cU a b)) _]]=_
 rw[z7i,z7i,z7i,z7i,t6 h1,t6 h2,t6 h3,t6 H];rfl
theorem zSC(h:a.x<b.x/\a.y<b.y/\a.z<b.z)(hn:∀i k,k<i->i<us.length->¬us.getD i u0=us.getD k u0)(hu:us.length<=512/\F.length<=256)(hF:∀f,f<F.length->∃d,eQ a b us d (F.getD f zA))(hv:∀f,f<F.length->vfP (F.getD f zA).2.1)
    (hva:vaP (uA (us.map (cU a b),F,[])))(hc:clB (edZ (uA (us.map (cU a b),F,[])))=true):lT (us.map (cU a b),F,[]):=by
 have ae:∀i,a.at i<b.at i:=λi=>match i with
  |0=>h.1|1=>h.2.1|_+2=>h.2.2
 have ab:(us.map (cU a b)).length=us.length:=zde _;refine zQQ (yCM (λe=>?_) λf D=>?_) (yCK λi k ad hi e=>?_) (yCP (λf D=>?_) λf D l hl k hk=>?_) (yCR λf D=>?_) (yC4 hva hc)
 · rcases e with(e|e)|e
   · have O:512<(us.map (cU a b)).length:=e
     omega
   · have O:256<F.length:=e
     omega
   · have O:1024<([]:List En).length:=e
     simp at O
 · obtain⟨d,J⟩:=hF f D
   exact⟨hv f D,zY3 J⟩
 · have aa:i<us.length:=by rw[<-ab];exact hi
   have O:gp (us.map (cU a b)) i=gp (us.map (cU a b)) k:=e;rw[t6 aa,t6 zos] at O;exact hn i k ad aa (yHL h.1 h.2.1 h.2.2 O)
 · obtain⟨d,C,c,G,Z,_⟩:=hF f D
   show ¬(F.getD f zA).1.1=zT
   rw[Z];exact(zQI C G).2.2
 · obtain⟨d,J⟩:=hF f D
   obtain⟨vs,U,h4,M⟩:=zEZ D J;obtain⟨C,c,G,Z,_⟩:=J;rw[M] at hl hk ⊢;have ac:l=0:=by have:l<1:=hl;omega
   subst ac;have H:k<(vs.map (cU a b)).length:=hk;rw[zde] at H
   show sdZ (F.getD f zA).1 (gp (vs.map (cU a b)) k)=0
   rw[Z,t6 H];refine zT2 C ?_;unfold zK8 at U;simp only[zbu] at U;have h9:=zob.1 U.1 (vs.getD k u0) (gM H);exact eq_of_beq h9
 · obtain⟨d,J⟩:=hF f D
   obtain⟨vs,U,h4,M⟩:=zEZ D J;obtain⟨C,c,G,Z,_⟩:=J;have e:sY (us.map (cU a b),F,[]) f=[vs.map λu=>fX (F.getD f zA).1 (cU a b u)]:=by
    obtain⟨v1,v2,v3,v4,rfl⟩:∃v1 v2 v3 v4,vs=[v1,v2,v3,v4]:=by
     match vs,h4 with
     |[v1,v2,v3,v4],_=>exact⟨_,_,_,_,rfl⟩
    exact zX8 M
   rw[e,Z];exact zIZ C G ae U
end
instance decLp(x:List Int):Decidable (lpP x):=by unfold lpP;exact inferInstance
instance decVf(L:List (List Int)):Decidable (vfP L):=by unfold vfP;exact inferInstance
instance decVa(F:List (List (List Int))):Decidable (vaP F):=by unfold vaP;exact inferInstance
variable {a b:Pt}
theorem zH6{N M:Pt}{o r:Rat}(h1:N=M)(h2:o=r):(N,o)=(M,r):=by rw[h1,h2]
theorem zRZ(h:a.x<b.x/\a.y<b.y/\a.z<b.z):eQ a b uB0 (1,false) ((fB0 a b).getD 0 zA)/\eQ a b uB0 (0,true) ((fB0 a b).getD 1 zA)/\eQ a b uB0 (1,true) ((fB0 a b).getD 2 zA)/\eQ a b uB0 (0,false) ((fB0 a b).getD 3 zA)/\eQ a b uB0 (2,false) ((fB0 a b).getD 4 zA)/\eQ a b uB0 (2,true) ((fB0 a b).getD 5 zA):=by
 obtain⟨hx,hy,hz⟩:=h;refine⟨?_,?_,?_,?_,?_,?_⟩
 · refine⟨by decide,b.x-a.x,by grind,zH6 ?_ ?_,0,1,5,4,I,by decide,by decide⟩
   · show T3.mk (a.y-a.y) (-(b.x-a.x)) (0:Rat)=T3.mk 0 (-(b.x-a.x)) 0
     rw[gH];refine⟨?_,I,I⟩;show a.y-a.y=0;grind
   · show xO (T3.mk (a.y-a.y) (-(b.x-a.x)) (0:Rat)) (T3.mk a.x a.y a.z)= -(b.x-a.x)*a.y
     unfold xO;simp only;grind
 · refine⟨by decide,b.y-a.y,by grind,zH6 ?_ ?_,1,2,6,5,I,by decide,by decide⟩
   · show T3.mk (b.y-a.y) (-(b.x-b.x)) (0:Rat)=T3.mk (b.y-a.y) 0 0
     rw[gH];refine⟨I,?_,I⟩;show -(b.x-b.x)=0;grind
   · show xO (T3.mk (b.y-a.y) (-(b.x-b.x)) (0:Rat)) (T3.mk b.x a.y a.z)=(b.y-a.y)*b.x
     unfold xO;simp only;grind
 · refine⟨by decide,b.x-a.x,by grind,zH6 ?_ ?_,2,3,7,6,I,by decide,by decide⟩
   · show T3.mk (b.y-b.y) (-(a.x-b.x)) (0:Rat)=T3.mk 0 (b.x-a.x) 0
     rw[gH];refine⟨?_,?_,I⟩
     · show b.y-b.y=0;grind
     · show -(a.x-b.x)=b.x-a.x;grind
   · show xO (T3.mk (b.y-b.y) (-(a.x-b.x)) (0:Rat)) (T3.mk b.x b.y a.z)=(b.x-a.x)*b.y
     unfold xO;simp only;grind
 · refine⟨by decide,b.y-a.y,by grind,zH6 ?_ ?_,3,0,4,7,I,by decide,by decide⟩
   · show T3.mk (a.y-b.y) (-(a.x-a.x)) (0:Rat)=T3.mk (-(b.y-a.y)) 0 0
     rw[gH];refine⟨?_,?_,I⟩
     · show a.y-b.y= -(b.y-a.y);grind
     · show -(a.x-a.x)=0;grind
   · show xO (T3.mk (a.y-b.y) (-(a.x-a.x)) (0:Rat)) (T3.mk a.x b.y a.z)= -(b.y-a.y)*a.x
     unfold xO;simp only;grind
 · refine⟨by decide,1,by decide,zH6 I ?_,3,2,1,0,I,by decide,by decide⟩
   show -a.z= -1*a.z
   grind
 · refine⟨by decide,1,by decide,zH6 I ?_,4,5,6,7,I,by decide,by decide⟩
   show b.z=1*b.z
   grind
theorem zR0(h:a.x<b.x/\a.y<b.y/\a.z<b.z):∀f,f<(fB0 a b).length->∃d,eQ a b uB0 d ((fB0 a b).getD f zA):=by
 intro f D;have C:f<6:=D;obtain⟨h0,h1,h2,h3,H,G⟩:=zRZ h;have:f=0\/f=1\/f=2\/f=3\/f=4\/f=5:=by omega
 rcases this with rfl|rfl|rfl|rfl|rfl|rfl
 · exact⟨_,h0⟩
 · exact⟨_,h1⟩
 · exact⟨_,h2⟩
 · exact⟨_,h3⟩
 · exact⟨_,H⟩
 · exact⟨_,G⟩
theorem zHZ(h:a.x<b.x/\a.y<b.y/\a.z<b.z):lT (pB0 a b,fB0 a b,[]):=by
 have g:∀i,i<uB0.length->∀k,k<i->¬uB0.getD i u0=uB0.getD k u0:=by decide +kernel
 rw[oK];refine zSC h (λi k C hi=>g i hi k C) ⟨by decide,show 6<=256 by decide⟩ (zR0 h) (λf G=>?_) ?_ ?_
 · have D:f<6:=G
   have:f=0\/f=1\/f=2\/f=3\/f=4\/f=5:=by omega
   rcases this with rfl|rfl|rfl|rfl|rfl|rfl
   · show vfP [[0,1,5,4]];decide +kernel
   · show vfP [[1,2,6,5]];decide +kernel
   · show vfP [[2,3,7,6]];decide +kernel
   · show vfP [[3,0,4,7]];decide +kernel
   · show vfP [[3,2,1,0]];decide +kernel
   · show vfP [[4,5,6,7]];decide +kernel
 · rw[<-oK,dE];decide +kernel
 · rw[<-oK,dE];decide +kernel
variable {a b:Pt}
def ixB(o:List Int)(n:Nat):Nat->List Int
  |0=>List.replicate n (0:Int)
  |i+1=>(ixB o n i).set (o.getD i 0).toNat (i:Int)
theorem zP2{s:Sd}{o:List Int}(h:fV s=o):∀i,zHM s i=ixB o s.1.length i
  |0=>rfl
  |i+1=>by unfold zHM ixB;rw[zP2 h i,h]
theorem zXV(h:a.x<b.x/\a.y<b.y/\a.z<b.z):ixZ (pB0 a b,fB0 a b,[])=[0,4,6,2,1,5,7,3]:=by
 have C:=zL3 h.1 h.2.1 h.2.2;unfold ixZ;rw[zP2 C,C]
 show ixB _ 8 8=_
 decide
def uB1:List B3:=[(false,false,false),(false,false,true),(false,true,false),(false,true,true),(true,false,false),(true,false,true),(true,true,false),(true,true,true)]
theorem zWV(h:a.x<b.x/\a.y<b.y/\a.z<b.z):nrP (pB0 a b,fB0 a b,[])=uB1.map (cU a b):=by
 have C:=zL3 h.1 h.2.1 h.2.2;unfold nrP;rw[zau (zHZ h)];unfold zWW;rw[C];rfl
theorem zQ0(h:a.x<b.x/\a.y<b.y/\a.z<b.z){us:List B3}{F:List Fc}{f:Nat}(hf:f<F.length){d:Dir}(hd:eQ a b us d (F.getD f zA)):zEA (us.map (cU a b),F,[]) f 0:=by
 have H:∀i,a.at i<b.at i:=λi=>match i with
  |0=>h.1|1=>h.2.1|_+2=>h.2.2
 obtain⟨vs,M,Z,D⟩:=zEZ hf hd;obtain⟨C,c,G,O,_⟩:=hd;obtain⟨v1,v2,v3,v4,rfl⟩:∃v1 v2 v3 v4,vs=[v1,v2,v3,v4]:=by
  match vs,Z with
  |[v1,v2,v3,v4],_=>exact⟨_,_,_,_,rfl⟩
 have e:sY (us.map (cU a b),F,[]) f=[[v1,v2,v3,v4].map λu=>fX (F.getD f zA).1 (cU a b u)]:=zX8 D;have J:=(zIZ (o:=(F.getD f zA).1.2) C G H M).2;unfold zEA;rw[e];have e2:(F.getD f zA).1=(dN d c,(F.getD f zA).1.2):=by rw[O]
 rw[e2];refine zdu λU=>?_;have h0:ouZ [[v1,v2,v3,v4].map λu=>fX (dN d c,(F.getD f zA).1.2) (cU a b u)]=0:=zae U;rw[h0] at J;exact absurd J zov
theorem yE6{d:Dir}{c r:Rat}(hd:d.1<3)(hc:0<c):scZ (dN d c,(if d.2 then c else -c)*r)=(dN d 1,(if d.2 then 1 else -1)*r):=by
 obtain⟨G,J⟩:=d;have h3:G=0\/G=1\/G=2:=by have:G<3:=hd;omega
 have H:∀{x:Rat},x≠0->¬yU x=0:=λ{x} hx e=>by unfold yU at e;rw[zae hx] at e;split at e<;>omega
 have hz:yU 0=0:=zau I;have D:c≠0:=by grind
 have C:-c≠0:=by grind
 have U:ivA c*c=1/\ivA (-c)*c=1:=by
  have Z:((1:Int):Rat)=1:=I;have O:¬c.num<0:=Int.not_lt.2 (yxe.2 (Rat.le_of_lt hc));have M:(-c).num<0:=ywi.1 λe=>by have:=yxe.1 e;grind
  have a1:cM c=c:=zae O;have a2:cM (-c)=c:=by
   have:cM (-c)= - -c:=zau M;rw[this];grind
  unfold ivA;rw[a1,a2,zae D,Z];grind
 rcases h3 with rfl|rfl|rfl<;>cases J<;>simp[scZ,dN,T3.set,hz,H D,H C,scW]<;>grind
abbrev I3:=Int×Int×Int
def aI3(u:I3):Nat->Int
  |0=>u.1|1=>u.2.1|_=>u.2.2
def cP(v u:I3):Pt:=T3.mk ((v.1+u.1:Int):Rat) ((v.2.1+u.2.1:Int):Rat) ((v.2.2+u.2.2:Int):Rat)
def nr3(n:I3):Pt:=T3.mk (n.1:Rat) (n.2.1:Rat) (n.2.2:Rat)
def dt3(n u:I3):Int:=n.1*u.1+n.2.1*u.2.1+n.2.2*u.2.2
abbrev FI:=I3×Int×List (List Int)×List Nat
abbrev SI:=List I3×List FI
abbrev z3:I3:=((0:Int),(0:Int),(0:Int))
abbrev fi0:FI:=(z3,(0:Int),([]:List (List Int)),([]:List Nat))
abbrev g3(P:List I3)(k:Nat):I3:=P.getD k z3
def cPl(v:I3)(f:FI):Pl:=(nr3 f.1,((f.2.1+dt3 f.1 v:Int):Rat))
def zKG(v:I3)(f:FI)(x:Fc):Prop:=(∃a:Int,(0<a/\a<=1000)/\x.1=scW (1/(a:Rat)) (cPl v f))/\x.2=f.2.2
theorem zM1{a:Int}(h:0<a):(0:Rat)<1/(a:Rat):=by
 rw[yzu];exact tV zov (Rat.inv_pos.2 (ype.2 h))
theorem zRB{v:I3}{f:FI}{x:Fc}(h:zKG v f x):∃r:Rat,0<r/\x.1=scW r (cPl v f):=by
 obtain⟨a,C,e⟩:=h.1;exact⟨_,zM1 C.1,e⟩
def cO(v:I3)(I:SI)(s:Sd):Prop:=s.1=I.1.map (cP v)/\s.2.2=[]/\s.2.1.length=I.2.length/\∀f,f<I.2.length->zKG v (I.2.getD f fi0) (s.2.1.getD f zA)
theorem yC6(v u:I3)(n:Nat):(cP v u).at n=((aI3 v n+aI3 u n:Int):Rat):=by
 match n with
 |0=>rfl
 |1=>rfl
 |_+2=>rfl
theorem zGO{v:I3}{P:List I3}{k:Nat}(hk:k<P.length):gp (P.map (cP v)) k=cP v (g3 P k):=by
 show(P.map (cP v)).getD k _=cP v (P.getD k z3)
 rw[zoa,zoa,zwi,zoc hk];rfl
theorem yBE(v u:I3)(f:FI)(r:Rat):hgt (scW r (cPl v f)) (cP v u)=r*((dt3 f.1 u-f.2.1:Int):Rat):=by
 unfold hgt scW cPl xO nr3 cP dt3;simp only[zni,z7u,zuu];grind
theorem yFW{v u:I3}{f:FI}{r:Rat}(hr:0<r):sdZ (scW r (cPl v f)) (cP v u)=sgI (dt3 f.1 u-f.2.1):=by
 unfold sdZ;rw[yBE,iM hr,zBB];rfl
def dR(n:I3):Nat×Nat:=if 0<n.2.2 then(0,1) else if n.2.2<0 then(1,0) else if 0<n.2.1 then(2,0) else if n.2.1<0 then(0,2) else if 0<n.1 then(1,2) else if n.1<0 then(2,1) else(1,2)
theorem zVC{r:Rat}(hr:0<r)(n:Int):0<r*(n:Rat)↔0<n:=by
 constructor
 · intro h
   refine ywi.1 λe=>?_;have h1:(n:Rat)<=0:=Rat.intCast_nonpos.2 e;have:=Rat.mul_le_mul_of_nonneg_left h1 (Rat.le_of_lt hr);grind
 · intro h
   exact tV hr (ype.2 h)
theorem zVD{r:Rat}(hr:0<r)(n:Int):r*(n:Rat)<0↔n<0:=by
 have:=zVC hr (-n);rw[zui] at this;constructor
 · intro h
   have:=this.1 zo2;omega
 · intro h
   have:=this.2 zos;grind
theorem zXA{v:I3}{f:FI}{r:Rat}(hr:0<r):axI (scW r (cPl v f)).1=(dR f.1).1/\axJ (scW r (cPl v f)).1=(dR f.1).2:=by
 unfold axI axJ dR scW cPl nr3;simp only[zVC hr,zVD hr]
 repeat' split
 all_goals first|exact⟨I,I⟩|omega
theorem zVE{v:I3}{f:FI}{r:Rat}(hr:0<r)(h:¬f.1=z3):¬(scW r (cPl v f)).1=zT:=λe=>by
 have g:∀n:Int,r*(n:Rat)=0->n=0:=λn e=>by
  rcases zoe.1 e with e|e
  · rw[e] at hr;exact absurd hr zov
  · exact zsu.1 e
 have e1:=g _ (zbi T3.x e);have e2:=g _ (zbi T3.y e);have e3:=g _ (zbi T3.z e);exact h (Prod.ext e1 (Prod.ext e2 e3))
def flI(a:Nat×Nat)(P:List I3)(x:List Int):List PI:=x.map λk=>(aI3 (g3 P k.toNat) a.1,aI3 (g3 P k.toNat) a.2)
def lpB(n:Nat)(x:List Int):Bool:=decide (3<=x.length/\x.length<=64)&&(List.range x.length).all λi=>decide (0<=x.getD i 0/\x.getD i 0<n)&&(List.range i).all λk=>!decide (x.getD i 0=x.getD k 0)
theorem zXO{n:Nat}{x:List Int}(hn:n<=512)(h:lpB n x=true):lpP x/\nmL n x:=by
 unfold lpB at h;rw[zbu,zie] at h;have g:∀i,i<x.length->(0<=x.getD i 0/\x.getD i 0<n)/\∀k,k<i->¬x.getD i 0=x.getD k 0:=λi hi=>by
  have h1:=zob.1 h.2 i (zog.2 hi);rw[zbu,zie] at h1;refine⟨h1.1,λk C=>?_⟩;have h2:=zob.1 h1.2 k (zog.2 C);rw[zje,zgu] at h2;exact h2
 refine⟨⟨h.1,λi hi=>⟨?_,(g i hi).2⟩⟩,λi hi=>(g i hi).1⟩;have:=(g i hi).1;omega
def bd3(u:I3):Bool:=decide ((-1000<=u.1/\u.1<=1000)/\(-1000<=u.2.1/\u.2.1<=1000)/\(-1000<=u.2.2/\u.2.2<=1000))
def faB(P:List I3)(f:FI):Bool:=(bd3 f.1&&decide (-1000<=f.2.1/\f.2.1<=1000))&&(decide (1<=f.2.2.1.length/\f.2.2.1.length<=16)&&f.2.2.1.all (λx=>lpB P.length x&&x.all λk=>decide (dt3 f.1 (g3 P k.toNat)=f.2.1))&&!decide (f.1=z3)&&nsI (f.2.2.1.map (flI (dR f.1) P)))
def dsB(P:List I3):Bool:=(List.range P.length).all λi=>(List.range i).all λk=>!decide (g3 P i=g3 P k)
def chI(I:SI):Bool:=I.1.all bd3&&(decide (I.1.length<=512/\I.2.length<=256)&&I.2.all (faB I.1)&&dsB I.1&&clB (edZ (I.2.map λf=>f.2.2.1)))
theorem rW{α:Type}(d:α){l k:List α}(hl:l.length=k.length)(h:∀i,i<l.length->l.getD i d=k.getD i d):l=k:=by
 refine List.ext_getElem hl λi h1 h2=>?_;have:=h i h1;rw[zoa,zoa,zoc h1,zoc h2] at this;exact this
theorem jR{α β:Type}(g:α->β)(d:α)(e:β){l:List α}{i:Nat}(hi:i<l.length):(l.map g).getD i e=g (l.getD i d):=by
 rw[zoa,zoa,zwi,zoc hi];rfl
section
variable {v:I3}{I:SI}{s:Sd}
theorem zIR(h:cO v I s):uA s=I.2.map λf=>f.2.2.1:=by
 obtain⟨h1,h2,h3,D⟩:=h;refine rW [] (by rw[rH,zde,h3]) λf C=>?_;rw[rH,h3] at C;rw[mR zos,jR (λf:FI=>f.2.2.1) fi0 [] C,(D f C).2]
theorem mP{f:Nat}(h:cO v I s)(hb:chI I=true)(hf:f<I.2.length):faB I.1 (I.2.getD f fi0)=true:=by
 unfold chI at hb;replace hb:=(zbu _ _▸hb).2;rw[zbu,zbu,zbu] at hb;exact zob.1 hb.1.1.2 _ (gM hf)
theorem oU(h:cO v I s):s.1.length=I.1.length:=by rw[h.1,zde]
theorem zGW{P:List I3}{f:FI}(h:faB P f=true){l:Nat}(hl:l<f.2.2.1.length):lpB P.length (f.2.2.1.getD l [])=true/\∀k,k<(f.2.2.1.getD l []).length->dt3 f.1 (g3 P ((f.2.2.1.getD l []).getD k 0).toNat)=f.2.1:=by
 unfold faB at h;replace h:=(zbu _ _▸h).2;rw[zbu,zbu,zbu] at h;have h1:=zob.1 h.1.1.2 _ (gM (d:=[]) hl);rw[zbu] at h1;refine⟨h1.1,λk C=>?_⟩;exact yau (zob.1 h1.2 _ (gM (d:=0) C))
theorem zKF{f:Nat}(h:cO v I s)(hb:chI I=true)(hf:f<I.2.length):nmP s f/\vfP (s.2.1.getD f zA).2.1:=by
 have D:=mP h hb hf;have e:(s.2.1.getD f zA).2.1=(I.2.getD f fi0).2.2.1:=zbi Prod.fst (h.2.2.2 f hf).2;have H:I.1.length<=512:=by
  unfold chI at hb;replace hb:=(zbu _ _▸hb).2;rw[zbu,zbu,zbu,zie] at hb;exact hb.1.1.1.1
 have h1:1<=(I.2.getD f fi0).2.2.1.length/\(I.2.getD f fi0).2.2.1.length<=16:=by
  have C:=D;unfold faB at C;replace C:=(zbu _ _▸C).2;rw[zbu,zbu,zbu,zie] at C;exact C.1.1.1
 refine⟨λl G=>?_,?_⟩
 · rw[e] at G ⊢
   rw[oU h];exact(zXO H (zGW D G).1).2
 · rw[e]
   exact⟨h1,λl G=>(zXO H (zGW D G).1).1⟩
theorem zRE{f:Nat}(h:cO v I s)(hb:chI I=true)(hf:f<I.2.length):(fE s f).length=(I.2.getD f fi0).2.2.1.length/\∀l,l<(I.2.getD f fi0).2.2.1.length->(gl (fE s f) l).length=((I.2.getD f fi0).2.2.1.getD l []).length/\∀k,k<((I.2.getD f fi0).2.2.1.getD l []).length->gp (gl (fE s f) l) k=cP v (g3 I.1 (((I.2.getD f fi0).2.2.1.getD l []).getD k 0).toNat):=by
 have e:(s.2.1.getD f zA).2.1=(I.2.getD f fi0).2.2.1:=zbi Prod.fst (h.2.2.2 f hf).2;have D:=(zKF h hb hf).1;rw[zQA (by rw[h.2.2.1];exact hf) D];refine⟨by rw[<-e];exact xZ _ _,λl J=>?_⟩;have C:l<(s.2.1.getD f zA).2.1.length:=by rw[e];exact J
 have M:gl (zKW s f (s.2.1.getD f zA).2.1.length) l=zOM s.1 ((s.2.1.getD f zA).2.1.getD l []) ((s.2.1.getD f zA).2.1.getD l []).length:=jL _ _ C;rw[M,e];refine⟨xZ _ _,λk G=>?_⟩;have H:=D l C k (by rw[e];exact G);rw[e,oU h] at H;have O:gp (zOM s.1 ((I.2.getD f fi0).2.2.1.getD l []) ((I.2.getD f fi0).2.2.1.getD l []).length) k=gp s.1 (((I.2.getD f fi0).2.2.1.getD l []).getD k 0).toNat:=jL _ _ G;rw[O,h.1,zGO zos]
theorem zRC{f:Nat}(h:cO v I s)(hb:chI I=true)(hf:f<I.2.length):yGF (aI3 v (dR (I.2.getD f fi0).1).1:Rat) 1 (aI3 v (dR (I.2.getD f fi0).1).2:Rat) 1 ((I.2.getD f fi0).2.2.1.map (flI (dR (I.2.getD f fi0).1) I.1)) (sY s f):=by
 obtain⟨U,c2⟩:=zRE h hb hf;obtain⟨r,M,H⟩:=zRB (h.2.2.2 f hf);have D:=zEX s f;refine⟨by rw[D.1,U,zde],λl G=>?_⟩;rw[zde] at G;obtain⟨O,c4⟩:=c2 l G;rw[jR (flI (dR (I.2.getD f fi0).1) I.1) [] [] G];have J:(gl (sY s f) l).length=((I.2.getD f fi0).2.2.1.getD l []).length:=by rw[D.2 l];exact O
 refine⟨by rw[J];exact(zde _).symm,λm hm=>?_⟩;have C:m<((I.2.getD f fi0).2.2.1.getD l []).length:=by
  have:(flI (dR (I.2.getD f fi0).1) I.1 ((I.2.getD f fi0).2.2.1.getD l [])).length=((I.2.getD f fi0).2.2.1.getD l []).length:=zde _;omega
 have e1:gl (sY s f) l=flA (s.2.1.getD f zA).1 (gl (fE s f) l) (gl (fE s f) l).length:=jL _ _ (by rw[U];exact G);have e2:gp (flA (s.2.1.getD f zA).1 (gl (fE s f) l) (gl (fE s f) l).length) m=fX (s.2.1.getD f zA).1 (gp (gl (fE s f) l) m):=jL _ _ (by rw[O];exact C);rw[e1,e2,c4 m C,H];unfold fX;rw[(zXA M).1,(zXA M).2,yC6,yC6];have Z:gI (flI (dR (I.2.getD f fi0).1) I.1 ((I.2.getD f fi0).2.2.1.getD l [])) m=(aI3 (g3 I.1 (((I.2.getD f fi0).2.2.1.getD l []).getD m 0).toNat) (dR (I.2.getD f fi0).1).1,aI3 (g3 I.1 (((I.2.getD f fi0).2.2.1.getD l []).getD m 0).toNat) (dR (I.2.getD f fi0).1).2):=by
  unfold gI flI;exact jR (λk:Int=>(aI3 (g3 I.1 k.toNat) (dR (I.2.getD f fi0).1).1,aI3 (g3 I.1 k.toNat) (dR (I.2.getD f fi0).1).2)) 0 (0,0) C
 rw[Z];unfold ag pr;rw[yku,yku,<-zni,<-zni]
 rfl
theorem zGD{f:Nat}(h:cO v I s)(hb:chI I=true)(hf:f<I.2.length):uF (sY s f) 0 1=0/\ouZ (sY s f)=1/\∀l,l∈sY s f->cS l:=by
 have C:=mP h hb hf;unfold faB at C;replace C:=(zbu _ _▸C).2;rw[zbu] at C;exact zML zov zov (zRC h hb hf) C.2
theorem yHM{v u w:I3}(h:cP v u=cP v w):u=w:=by
 have G:=zsu.1 (zbi T3.x h);have D:=zsu.1 (zbi T3.y h);have C:=zsu.1 (zbi T3.z h);exact Prod.ext zos (Prod.ext zos zos)
theorem zBX(h:cO v I s)(hb:chI I=true):lT s/\okS s:=by
 have G:=hb;unfold chI at G;replace G:=(zbu _ _▸G).2;rw[zbu,zbu,zbu,zie] at G;obtain⟨⟨⟨aa,_⟩,U⟩,Z⟩:=G;have ac:=oU h;have ab:=h.2.2.1;have H:∀f,f<s.2.1.length->nmP s f/\vfP (s.2.1.getD f zA).2.1:=λf C=>zKF h hb zos;have M:vaP (uA s):=⟨by rw[rH];omega,λf C=>by rw[rH] at C;rw[mR C];exact(H f C).2⟩;constructor
 · refine zQQ (yCM ?_ λf C=>⟨(H f C).2,(H f C).1⟩) (yCK λi k hk hi e=>?_) (yCP (λf C=>?_) λf C l hl k hk=>?_) (yCR λf C=>?_) (yC4 M ?_)
   · unfold zNP
     rw[h.2.1]
     show ¬((512<s.1.length\/256<s.2.1.length)\/1024<0)
     omega
   · rw[h.1,zGO zos,zGO zos] at e
     have h1:=zob.1 (zob.1 U i (zog.2 zos)) k (zog.2 hk);rw[zje,zgu] at h1;exact h1 (yHM e)
   · obtain⟨r,O,J⟩:=zRB (h.2.2.2 f zos)
     rw[J];refine zVE O λe=>?_;have D:=mP h hb (f:=f) zos;unfold faB at D;replace D:=(zbu _ _▸D).2;rw[zbu,zbu,zje,zgu] at D;exact D.1.2 e
   · obtain⟨r,O,J⟩:=zRB (h.2.2.2 f zos)
     obtain⟨c1,c2⟩:=zRE h hb (f:=f) zos;obtain⟨c3,c4⟩:=c2 l zos;rw[c4 k zos,J,yFW O,(zGW (mP h hb (f:=f) zos) (l:=l) zos).2 k zos,ywe]
     rfl
   · exact⟨(zGD h hb zos).1,(zGD h hb zos).2.1⟩
   · rw[zIR h];exact Z
 · refine⟨⟨⟨by omega,by omega⟩,by rw[h.2.1];exact zri _⟩,λf C=>?_,λf C x hx=>(zGD h hb zos).2.2 x hx⟩
   have h1:=(H f C).2;exact⟨h1.1.2,λl hl=>(h1.2 l hl).1.2⟩
end
variable {x y X Y:Rat}
def oneI(p:Prop):Int:=if p then 1 else 0
variable {l1 h1 l2 h2 l3 h3:Rat}
variable {a b:Pt}
def plD(a b:Pt)(d:Dir):Pl:=(dN d 1,(if d.2 then 1 else -1)*(if d.2 then b.at d.1 else a.at d.1))
theorem aE(h:a.x<b.x/\a.y<b.y/\a.z<b.z){us:List B3}{F:List Fc}{f:Nat}(hf:f<F.length){d:Dir}(hd:eQ a b us d (F.getD f zA))(ix:List Int){x:List Int}(hx:(F.getD f zA).2.1=[x]):
 nfF (us.map (cU a b),F,[]) ix f=(plD a b d,[zS1 (uG (λq=>ix.getD (x.getD q 0).toNat 0) x.length)],(F.getD f zA).2.2):=by
 have H:=zQ0 h hf hd;obtain⟨D,c,G,C,_⟩:=hd;unfold nfF
 show(scZ (F.getD f zA).1,ouL (us.map (cU a b),F,[]) ix f ((F.getD f zA).2.1).length++zAS (us.map (cU a b),F,[]) ix f ((F.getD f zA).2.1).length,(F.getD f zA).2.2)=_
 rw[C,yE6 D G,hx];have O:ouL (us.map (cU a b),F,[]) ix f 1=[nfL (us.map (cU a b),F,[]) ix f 0]:=by
  unfold ouL;rw[<-zBF H];rfl
 have M:zAS (us.map (cU a b),F,[]) ix f 1=[]:=zau H
 show(_,ouL _ ix f 1++zAS _ ix f 1,_)=_
 rw[O,M];have J:nfL (us.map (cU a b),F,[]) ix f 0=zS1 (uG (λq=>ix.getD (x.getD q 0).toNat 0) x.length):=by
  unfold nfL nwL
  show zS1 (uG (λq=>ix.getD ((((F.getD f zA).2.1).getD 0 []).getD q 0).toNat 0) (((F.getD f zA).2.1).getD 0 []).length)=_
  rw[hx];rfl
 rw[J];rfl
theorem zWX(h:a.x<b.x/\a.y<b.y/\a.z<b.z)(ix:List Int)(hix:ix=[0,4,6,2,1,5,7,3]):
 nfF (pB0 a b,fB0 a b,[]) ix 0=(plD a b (1,false),[[0,4,5,1]],nmS 0 0)/\nfF (pB0 a b,fB0 a b,[]) ix 1=(plD a b (0,true),[[4,6,7,5]],nmS 0 1)/\nfF (pB0 a b,fB0 a b,[]) ix 2=(plD a b (1,true),[[2,3,7,6]],nmS 0 2)/\
 nfF (pB0 a b,fB0 a b,[]) ix 3=(plD a b (0,false),[[0,1,3,2]],nmS 0 3)/\nfF (pB0 a b,fB0 a b,[]) ix 4=(plD a b (2,false),[[0,2,6,4]],[98,111,116,116,111,109])/\nfF (pB0 a b,fB0 a b,[]) ix 5=(plD a b (2,true),[[1,5,7,3]],[116,111,112]):=by
 subst hix;have g:=zRZ h;rw[oK];refine⟨?_,?_,?_,?_,?_,?_⟩
 · rw[aE h (F:=fB0 a b) (f:=0) (show 0<6 by decide) g.1 _ (x:=[0,1,5,4]) I];rfl
 · rw[aE h (F:=fB0 a b) (f:=1) (show 1<6 by decide) g.2.1 _ (x:=[1,2,6,5]) I];rfl
 · rw[aE h (F:=fB0 a b) (f:=2) (show 2<6 by decide) g.2.2.1 _ (x:=[2,3,7,6]) I];rfl
 · rw[aE h (F:=fB0 a b) (f:=3) (show 3<6 by decide) g.2.2.2.1 _ (x:=[3,0,4,7]) I];rfl
 · rw[aE h (F:=fB0 a b) (f:=4) (show 4<6 by decide) g.2.2.2.2.1 _ (x:=[3,2,1,0]) I];rfl
 · rw[aE h (F:=fB0 a b) (f:=5) (show 5<6 by decide) g.2.2.2.2.2 _ (x:=[4,5,6,7]) I];rfl
def lsB:List Nat->List Nat->Bool
  |[],[]=>false
  |[],_::_=>true
  |_::_,[]=>false
  |x::a,y::b=>if x=y then lsB a b else decide (x<y)
theorem zXF:∀a b:List Nat,lsN a b↔lsB a b=true
  |[],[]=>by simp[lsN,lsB]
  |[],_::_=>by simp[lsN,lsB]
  |_::_,[]=>by simp[lsN,lsB]
  |x::a,y::b=>by
   have ih:=zXF a b
   by_cases h:x=y
   · simp[lsN,lsB,h,ih]
   · simp[lsN,lsB,h]
def nsB(nm:Nat->List Nat):Nat->List Nat
  |0=>[]
  |f+1=>dG (nsB nm f) (zD3 (λk=>lsB (nm f) (nm ((nsB nm f).getD k 0))) (nsB nm f).length) f
theorem zJ9(nm:Nat->List Nat):∀f x,x∈nsB nm f->x<f
  |f+1,x,h=>by
   unfold nsB dG at h
   rcases zpi.1 h with h|h
   · have:=zJ9 nm f x (zwe h);omega
   · rcases zfi.1 h with rfl|h
     · omega
     · have:=zJ9 nm f x (z5e h);omega
theorem zXW{α β:Type}(g:α->β)(l:List α)(k:Nat)(x:α):dG (l.map g) k (g x)=(dG l k x).map g:=by
 unfold dG;rw[z2i,zxe,List.map_take,List.map_drop]
theorem zJ8{s:Sd}{nm:Nat->List Nat}{n:Nat}(hn:∀i,i<n->(nfF s (ixZ s) i).2.2=nm i)(hd:∀i,i<n->∀k,k<i->¬nm i=nm k):∀f,f<=n->zAJ s f=(nsB nm f).map λi=>nfF s (ixZ s) i
  |0,_=>rfl
  |f+1,hf=>by
   have ih:=zJ8 hn hd f zos;unfold zAJ nsB;have hb:aP (zPV (nfF s (ixZ s) f) (zAJ s f)) (zAJ s f).length=zD3 (λk=>lsB (nm f) (nm ((nsB nm f).getD k 0))) (nsB nm f).length:=by
    rw[ih,zde];refine zCF _ λk C=>?_;have D:=zJ9 nm f _ (gM (d:=0) C);have e:((nsB nm f).map λi=>nfF s (ixZ s) i).getD k zA=nfF s (ixZ s) ((nsB nm f).getD k 0):=by
     rw[zoa,zwi,zoc C,zoa,zoc C];rfl
    unfold zPV lsF;rw[e,hn f zos,hn _ zos,zae (hd f zos _ D)];exact zXF _ _
   rw[hb,ih,zXW]
variable {a b:Pt}
def nm0(i:Nat):List Nat:=([[115,48,46,48],[115,48,46,49],[115,48,46,50],[115,48,46,51],[98,111,116,116,111,109],[116,111,112]]:List (List Nat)).getD i []
def fB1(a b:Pt):List Fc:=[(plD a b (2,false),[[0,2,6,4]],[98,111,116,116,111,109]),(plD a b (1,false),[[0,4,5,1]],[115,48,46,48]),(plD a b (0,true),[[4,6,7,5]],[115,48,46,49]),(plD a b (1,true),[[2,3,7,6]],[115,48,46,50]),(plD a b (0,false),[[0,1,3,2]],[115,48,46,51]),(plD a b (2,true),[[1,5,7,3]],[116,111,112])]
theorem zWU(h:a.x<b.x/\a.y<b.y/\a.z<b.z):nrF (pB0 a b,fB0 a b,[])=fB1 a b:=by
 have C:=zXV h;obtain⟨h0,h1,h2,h3,G,D⟩:=zWX h _ C;rw[yFQ zov] at h0 h1 h2 h3;have H:∀i,i<6->(nfF (pB0 a b,fB0 a b,[]) (ixZ (pB0 a b,fB0 a b,[])) i).2.2=nm0 i:=λi hi=>by
  have:i=0\/i=1\/i=2\/i=3\/i=4\/i=5:=by omega
  rcases this with rfl|rfl|rfl|rfl|rfl|rfl
  · rw[h0];rfl
  · rw[h1];rfl
  · rw[h2];rfl
  · rw[h3];rfl
  · rw[G];rfl
  · rw[D];rfl
 have J:∀i,i<6->∀k,k<i->¬nm0 i=nm0 k:=by decide
 unfold nrF;rw[zau (zHZ h)]
 show zAJ _ 6=_
 rw[zJ8 H J 6 (zbe _),show nsB nm0 6=[4,0,1,2,3,5] by decide];simp only[zxe,yru];rw[h0,h1,h2,h3,G,D]
 rfl
variable {a b:Pt}
def fB2(a b:Pt):List Fc:=[(plD a b (2,false),[[0,2,6,4]],[122,48]),(plD a b (1,false),[[0,4,5,1]],[121,48]),(plD a b (0,true),[[4,6,7,5]],[120,49]),(plD a b (1,true),[[2,3,7,6]],[121,49]),(plD a b (0,false),[[0,1,3,2]],[120,48]),(plD a b (2,true),[[1,5,7,3]],[122,49])]
theorem yAY(h:iF a b):prP (blL a b) a.z b.z=uB1.map (cU a b)/\prF (blL a b) a.z b.z=fB1 a b:=by
 have C:=zSD h;have D:=yHT h;rw[(yCC h).1] at D;unfold prP prF;rw[zau D,zau D,zLW C.1 C.2.1];exact⟨zWV C,zWU C⟩
theorem zSG(h:iF a b):blS a b=(uB1.map (cU a b),fB2 a b,[]):=by
 obtain⟨h1,h2⟩:=yAY h;unfold blS blG;rw[zZU,h1,h2];refine zbi (λz=>(uB1.map (cU a b),z,([]:List En))) ?_;simp only[fB1,fB2,zxe,yru,rnF];simp[rnN]
variable {a b:Pt}
theorem zKV:eQ a b uB1 (2,false) ((fB2 a b).getD 0 zA)/\eQ a b uB1 (1,false) ((fB2 a b).getD 1 zA)/\eQ a b uB1 (0,true) ((fB2 a b).getD 2 zA)/\eQ a b uB1 (1,true) ((fB2 a b).getD 3 zA)/\eQ a b uB1 (0,false) ((fB2 a b).getD 4 zA)/\eQ a b uB1 (2,true) ((fB2 a b).getD 5 zA):=
 ⟨⟨by decide,1,by decide,rfl,0,2,6,4,rfl,by decide,by decide⟩,⟨by decide,1,by decide,rfl,0,4,5,1,rfl,by decide,by decide⟩,⟨by decide,1,by decide,rfl,4,6,7,5,rfl,by decide,by decide⟩,⟨by decide,1,by decide,rfl,2,3,7,6,rfl,by decide,by decide⟩,⟨by decide,1,by decide,rfl,0,1,3,2,rfl,by decide,by decide⟩,⟨by decide,1,by decide,rfl,1,5,7,3,rfl,by decide,by decide⟩⟩
theorem zAN:uA (uB1.map (cU a b),fB2 a b,[])=[[[0,2,6,4]],[[0,4,5,1]],[[4,6,7,5]],[[2,3,7,6]],[[0,1,3,2]],[[1,5,7,3]]]:=rfl
theorem zU3(h:a.x<b.x/\a.y<b.y/\a.z<b.z):lT (uB1.map (cU a b),fB2 a b,[]):=by
 have g:∀i,i<uB1.length->∀k,k<i->¬uB1.getD i u0=uB1.getD k u0:=by decide +kernel
 obtain⟨h0,h1,h2,h3,J,H⟩:=zKV (a:=a) (b:=b);refine zSC h (λi k G hi=>g i hi k G) ⟨by decide,show 6<=256 by decide⟩ (λf D=>?_) (λf D=>?_) ?_ ?_
 · have C:f<6:=D
   have:f=0\/f=1\/f=2\/f=3\/f=4\/f=5:=by omega
   rcases this with rfl|rfl|rfl|rfl|rfl|rfl
   · exact⟨_,h0⟩
   · exact⟨_,h1⟩
   · exact⟨_,h2⟩
   · exact⟨_,h3⟩
   · exact⟨_,J⟩
   · exact⟨_,H⟩
 · have C:f<6:=D
   have:f=0\/f=1\/f=2\/f=3\/f=4\/f=5:=by omega
   rcases this with rfl|rfl|rfl|rfl|rfl|rfl
   · show vfP [[0,2,6,4]];decide +kernel
   · show vfP [[0,4,5,1]];decide +kernel
   · show vfP [[4,6,7,5]];decide +kernel
   · show vfP [[2,3,7,6]];decide +kernel
   · show vfP [[0,1,3,2]];decide +kernel
   · show vfP [[1,5,7,3]];decide +kernel
 · rw[zAN];decide +kernel
 · rw[zAN];decide +kernel
variable {a b:Pt}
theorem zQ3(h:a.x<b.x/\a.y<b.y/\a.z<b.z):fV (uB1.map (cU a b),fB2 a b,[])=[0,1,2,3,4,5,6,7]:=by
 rw[zH9 h.1 h.2.1 h.2.2,zAN]
 decide +kernel
theorem yBR(h:a.x<b.x/\a.y<b.y/\a.z<b.z):ixZ (uB1.map (cU a b),fB2 a b,[])=[0,1,2,3,4,5,6,7]:=by
 have C:=zQ3 h;unfold ixZ;rw[zP2 C,C]
 show ixB _ 8 8=_
 decide
def fB3(a b:Pt):List Fc:=[(plD a b (0,false),[[0,1,3,2]],[120,48]),(plD a b (0,true),[[4,6,7,5]],[120,49]),(plD a b (1,false),[[0,4,5,1]],[121,48]),(plD a b (1,true),[[2,3,7,6]],[121,49]),(plD a b (2,false),[[0,2,6,4]],[122,48]),(plD a b (2,true),[[1,5,7,3]],[122,49])]
def nm1(i:Nat):List Nat:=([[122,48],[121,48],[120,49],[121,49],[120,48],[122,49]]:List (List Nat)).getD i []
theorem yA7(h:a.x<b.x/\a.y<b.y/\a.z<b.z)(ix:List Int)(hix:ix=[0,1,2,3,4,5,6,7]):∀i,i<6->nfF (uB1.map (cU a b),fB2 a b,[]) ix i=(fB2 a b).getD i zA:=by
 subst hix;obtain⟨h0,h1,h2,h3,D,C⟩:=zKV (a:=a) (b:=b);intro i hi;have:i=0\/i=1\/i=2\/i=3\/i=4\/i=5:=by omega
 rcases this with rfl|rfl|rfl|rfl|rfl|rfl
 · rw[aE h (F:=fB2 a b) (f:=0) (show 0<6 by decide) h0 _ (x:=[0,2,6,4]) I];rfl
 · rw[aE h (F:=fB2 a b) (f:=1) (show 1<6 by decide) h1 _ (x:=[0,4,5,1]) I];rfl
 · rw[aE h (F:=fB2 a b) (f:=2) (show 2<6 by decide) h2 _ (x:=[4,6,7,5]) I];rfl
 · rw[aE h (F:=fB2 a b) (f:=3) (show 3<6 by decide) h3 _ (x:=[2,3,7,6]) I];rfl
 · rw[aE h (F:=fB2 a b) (f:=4) (show 4<6 by decide) D _ (x:=[0,1,3,2]) I];rfl
 · rw[aE h (F:=fB2 a b) (f:=5) (show 5<6 by decide) C _ (x:=[1,5,7,3]) I];rfl
theorem zQF(h:iF a b):blP a b=uB1.map (cU a b)/\blF a b=fB3 a b:=by
 have D:=zSD h;obtain⟨_,U,O⟩:=yCC h;rw[U,O,zSG h];have H:=zU3 D;have J:=zQ3 D;have G:=yBR D;refine⟨?_,?_⟩
 · unfold nrP
   rw[zau H];unfold zWW;rw[J];rfl
 · have C:=yA7 D _ G
   have M:∀i,i<6->(nfF (uB1.map (cU a b),fB2 a b,[]) (ixZ (uB1.map (cU a b),fB2 a b,[])) i).2.2=nm1 i:=λi hi=>by
    rw[C i hi];have:i=0\/i=1\/i=2\/i=3\/i=4\/i=5:=by omega
    rcases this with rfl|rfl|rfl|rfl|rfl|rfl<;>rfl
   unfold nrF;rw[zau H]
   show zAJ _ 6=_
   rw[zJ8 M zov 6 (zbe _),show nsB nm1 6=[4,2,1,3,0,5] by decide];simp only[zxe,yru];rw[C 0 zov,C 1 zov,C 2 zov,C 3 zov,C 4 zov,C 5 zov]
   rfl
variable {a b:Pt}
theorem zLX{P:List Pt}(h:0<yU (arZ P 0 1)):cS P:=zDH λe=>by
 have:arZ P 0 1=0:=e;rw[this] at h;exact absurd h zov
theorem zY2(h:a.x<b.x/\a.y<b.y/\a.z<b.z){us:List B3}{F:List Fc}(hu:us.length<=512/\F.length<=256)(hF:∀f,f<F.length->∃d,eQ a b us d (F.getD f zA)):okS (us.map (cU a b),F,[]):=by
 refine⟨⟨⟨?_,?_⟩,zri _⟩,λf C=>?_,λf C x hx=>?_⟩
 · show(us.map (cU a b)).length<=1000
   rw[zde];omega
 · show F.length<=1000
   omega
 · obtain⟨d,_,c,_,_,i,j,k,l,O,_⟩:=hF f C
   show(F.getD f zA).2.1.length<=16/\∀l,l<(F.getD f zA).2.1.length->((F.getD f zA).2.1.getD l []).length<=64
   rw[O];refine⟨show 1<=16 by decide,λm M=>?_⟩;have G:m=0:=by have:m<1:=M;omega
   subst G
   show 4<=64
   decide
 · obtain⟨d,J⟩:=hF f C
   have D:=zQ0 h C J;obtain⟨vs,Z,U,H⟩:=zEZ C J;obtain⟨v1,v2,v3,v4,rfl⟩:∃v1 v2 v3 v4,vs=[v1,v2,v3,v4]:=by
    match vs,U with
    |[v1,v2,v3,v4],_=>exact⟨_,_,_,_,rfl⟩
   have e:sY (us.map (cU a b),F,[]) f=[[v1,v2,v3,v4].map λu=>fX (F.getD f zA).1 (cU a b u)]:=zX8 H;unfold zEA at D;rw[e] at D hx;rw[zpe.1 hx];exact zLX D
theorem zY6(h:iF a b):blH a b:=by
 have C:=zSD h;refine⟨λx hx=>?_,λ_=>?_,?_⟩
 · have:x=bB a b:=zpe.1 hx
   rw[this];exact zLX (zZE C.1 C.2.1)
 · rw[zLW C.1 C.2.1,oK]
   exact zY2 C ⟨by decide,show 6<=256 by decide⟩ (zR0 C)
 · rw[zSG h]
   obtain⟨h0,h1,h2,h3,J,H⟩:=zKV (a:=a) (b:=b);refine zY2 C ⟨by decide,show 6<=256 by decide⟩ λf G=>?_;have D:f<6:=G;have:f=0\/f=1\/f=2\/f=3\/f=4\/f=5:=by omega
   rcases this with rfl|rfl|rfl|rfl|rfl|rfl
   · exact⟨_,h0⟩
   · exact⟨_,h1⟩
   · exact⟨_,h2⟩
   · exact⟨_,h3⟩
   · exact⟨_,J⟩
   · exact⟨_,H⟩
def zMP(r:Rat)(n:Int):Prop:=¬((yU r<0\/n<0)\/64<n)
def dB(r:Rat)(n:Int):Rat:=if zMP r n then fT r n else 0
def dD(r:Rat)(n:Int):Rat:=if zMP r n then zCU r n else 0
theorem zW4{r:Rat}{n:Int}(h:(yU r<0\/n<0)\/64<n):dB r n=0/\dD r n=0/\¬zMP r n:=⟨zae λe=>e h,zae λe=>e h,λe=>e h⟩
theorem zGA{r:Rat}{n:Int}(h:¬((yU r<0\/n<0)\/64<n)):dB r n=fT r n/\dD r n=zCU r n/\¬r<0/\zMP r n:=⟨zau h,zau h,λe=>h (.inl (.inl (qX.2 e))),h⟩
theorem yI9{r:Rat}{n:Int}(h:¬((yU r<0\/n<0)\/64<n)):(↑(kN n):Int)=n/\kN n<=64:=by unfold kN;omega
theorem zAV{a b:Rat}:0<=vH a b↔b<=a:=by unfold vH;grind
theorem zVK{r:Rat}{n:Int}(h0:¬r<0)(h:fT r n*fT r n=r):fT r n=zCU r n:=yAK h0 (by rw[h];exact Rat.lt_irrefl)
theorem zXB{r:Rat}(h:¬r<0):mQ r 0=r:=by unfold mQ;grind
theorem yIW{a:Rat}(n:Int)(h:¬a<0):zSV a a n=fT a n:=by unfold zSV;rw[zae h,zXB h]
abbrev Tri:=T3 Pt
def pnA(s:Sd)(i:Int):Pt:=s.1.getD i.toNat zT
def inR(s:Sd)(i:Int):Prop:=0<=i/\i<s.1.length
def cnT(s:Sd)(l:List Int):Tri:=T3.mk (pnA s (l.getD 0 0)) (pnA s (l.getD 1 0)) (pnA s (l.getD 2 0))
def yJM(s:Sd)(l:List Int):Nat->Tri
  |0=>T3.mk zT zT zT
  |i+1=>(yJM s l i).set i (pnA s (l.getD i 0))
def yGZ(s:Sd)(l:List Int)(q:Nat):Tri:=T3.mk (pnA s (l.getD 0 0)) (pnA s (l.getD (q+1) 0)) (pnA s (l.getD (q+2) 0))
def zKU(s:Sd)(l:List Int):Nat->List Tri:=uG (yGZ s l)
def fO(s:Sd)(ls:List (List Int)):Nat->List Tri:=kK λi=>zKU s (ls.getD i []) ((ls.getD i []).length-2)
theorem zYD{s:Sd}{l:List Int}{kq:Nat}(h:2<=kq):zKU s l (kq-2)++[cnT s [l.getD 0 0,l.getD (kq-1) 0,l.getD kq 0]]=zKU s l (kq+1-2):=by
 obtain⟨q,rfl⟩:∃q,kq=q+2:=⟨kq-2,by omega⟩;rw[show q+2+1-2=q+1 by omega,z8e,show q+2-1=q+1 by omega]
 rfl
theorem zYE{s:Sd}{ls:List (List Int)}{i kq:Nat}(h:kq-2=(ls.getD i []).length-2):fO s ls i++zKU s (ls.getD i []) (kq-2)=fO s ls (i+1):=by
 rw[h];rfl
theorem zRX{s:Sd}{ls:List (List Int)}(h:∀u,u<ls.length->(ls.getD u []).length<=1000):∀i,i<=ls.length->(fO s ls i).length<=1000*i
  |0,_=>zri _
  |i+1,hi=>by
   have h1:=zRX (s:=s) h i zos;have h2:=h i zos;have h3:(zKU s (ls.getD i []) ((ls.getD i []).length-2)).length=(ls.getD i []).length-2:=xZ _ _
   show(fO s ls i++zKU s (ls.getD i []) ((ls.getD i []).length-2)).length<=_
   rw[lAz];omega
theorem nY{α:Type}{l:List α}{i:Nat}(d:α)(h:i<l.length):l.take i++[l.getD i d]=l.take (i+1):=by
 rw[zoa,zoc h,zye h];rfl
def rX(s:Sd)(F:List Fc):Nat->List Tri:=kK λf=>fO s (F.getD f zA).2.1 (F.getD f zA).2.1.length
def smT(t:Tri):Pt:=qF (qF t.x t.y) t.z
def scT(q:Rat)(p:Pt):Pt:=T3.mk (q*p.x) (q*p.y) (q*p.z)
def u4(l:List Tri):Rat:=l.foldl (λa t=>a+tB t.x t.y t.z) 0
def zHD(l:List Tri):Pt:=l.foldl (λa t=>qF a (scT (tB t.x t.y t.z) (smT t))) zT
def zA7(l:List Tri):Pt:=l.foldl (λa t=>qF a (xC (kZ t.y t.x) (kZ t.z t.x))) zT
theorem zHW(l:List Tri)(t:Tri):u4 l+tB t.x t.y t.z=u4 (l++[t]):=by unfold u4;rw[y2i];rfl
theorem zSN(l:List Tri)(t:Tri):qF (zHD l) (scT (tB t.x t.y t.z) (smT t))=zHD (l++[t]):=by unfold zHD;rw[y2i];rfl
theorem zSM(l:List Tri)(t:Tri):qF (zA7 l) (xC (kZ t.y t.x) (kZ t.z t.x))=zA7 (l++[t]):=by unfold zA7;rw[y2i];rfl
def pX(s:Sd):Rat:=u4 (rX s s.2.1 s.2.1.length)
def zQD(s:Sd):Pt:=zHD (rX s s.2.1 s.2.1.length)
def arV(s:Sd)(f:Fc):Pt:=scT (1/2) (zA7 (fO s f.2.1 f.2.1.length))
def lqP(k:Nat)(p:Pt):Prop:=lq p.x<=k/\lq p.y<=k/\lq p.z<=k
theorem zMS{k:Nat}(h:1<=k):lqP k zT:=by
 have:=cH;exact⟨by show lq 0<=k;omega,by show lq 0<=k;omega,by show lq 0<=k;omega⟩
theorem zES{a b:Pt}{k l:Nat}(ha:lqP k a)(hb:lqP l b):lqP (k+l+1) (qF a b):=by
 obtain⟨M,J,H⟩:=ha;obtain⟨G,D,C⟩:=hb;have h1:=kW a.x b.x;have h2:=kW a.y b.y;have h3:=kW a.z b.z;exact⟨by show lq (a.x+b.x)<=_;omega,by show lq (a.y+b.y)<=_;omega,by show lq (a.z+b.z)<=_;omega⟩
theorem zRM{a b:Pt}{k l:Nat}(ha:lqP k a)(hb:lqP l b):lqP (k+l+1) (kZ a b):=by
 obtain⟨M,J,H⟩:=ha;obtain⟨G,D,C⟩:=hb;have h1:=oW a.x b.x;have h2:=oW a.y b.y;have h3:=oW a.z b.z;exact⟨by show lq (a.x-b.x)<=_;omega,by show lq (a.y-b.y)<=_;omega,by show lq (a.z-b.z)<=_;omega⟩
theorem zTU{q:Rat}{b:Pt}{k l:Nat}(ha:lq q<=k)(hb:lqP l b):lqP (k+l) (scT q b):=by
 obtain⟨G,D,C⟩:=hb;have h1:=pK q b.x;have h2:=pK q b.y;have h3:=pK q b.z;exact⟨by show lq (q*b.x)<=_;omega,by show lq (q*b.y)<=_;omega,by show lq (q*b.z)<=_;omega⟩
theorem zIU{a b:Pt}{k l:Nat}(ha:lqP k a)(hb:lqP l b):lqP (2*k+2*l+1) (xC a b):=by
 obtain⟨M,J,H⟩:=ha;obtain⟨G,D,C⟩:=hb;have m:∀x y z w:Rat,lq x<=k->lq y<=l->lq z<=k->lq w<=l->lq (x*y-z*w)<=2*k+2*l+1:=λx y z w h1 h2 h3 O=>by
  have:=oW (x*y) (z*w);have:=pK x y;have:=pK z w;omega
 exact⟨m _ _ _ _ J C H D,m _ _ _ _ H G M C,m _ _ _ _ M D J G⟩
theorem yBL{a b:Pt}{k l:Nat}(ha:lqP k a)(hb:lqP l b):lq (xO a b)<=3*k+3*l+2:=by
 obtain⟨U,O,M⟩:=ha;obtain⟨J,H,G⟩:=hb;have h1:=pK a.x b.x;have h2:=pK a.y b.y;have h3:=pK a.z b.z;have D:=kW (a.x*b.x) (a.y*b.y);have C:=kW (a.x*b.x+a.y*b.y) (a.z*b.z);unfold xO;omega
theorem zRN{a b c:Pt}{k:Nat}(ha:lqP k a)(hb:lqP k b)(hc:lqP k c):lq (tB a b c)<=15*k+5:=by
 have:=yBL ha (zIU hb hc);unfold tB;omega
def lqT(k:Nat)(t:Tri):Prop:=lqP k t.x/\lqP k t.y/\lqP k t.z
theorem zRI{k:Nat}:∀(l:List Tri) (a:Rat),(∀t,t∈l->lqT k t)->lq (l.foldl (λa t=>a+tB t.x t.y t.z) a)<=lq a+l.length*(15*k+6)
  |[],a,_=>by simp
  |t::l,a,h=>by
   obtain⟨h1,h2,h3⟩:=h t (.head _);have hd:=zRN h1 h2 h3;have ha:=kW a (tB t.x t.y t.z);have ih:=zRI l (a+tB t.x t.y t.z) (λu hu=>h u (.tail _ hu));rw[zyu,lC,ygi];omega
theorem yF8{k:Nat}{t:Tri}(h:lqT k t):lqP (3*k+2) (smT t):=by
 have:=zES (zES h.1 h.2.1) h.2.2;rw[show k+k+1+k+1=3*k+2 by omega] at this;exact this
theorem zB1{k l:Nat}{p:Pt}(h:lqP k p)(hkl:k<=l):lqP l p:=⟨zci h.1 hkl,zci h.2.1 hkl,zci h.2.2 hkl⟩
theorem zRJ{k:Nat}:∀(l:List Tri) (a:Pt) (m:Nat),lqP m a->(∀t,t∈l->lqT k t)->lqP (m+l.length*(18*k+8)) (l.foldl (λa t=>qF a (scT (tB t.x t.y t.z) (smT t))) a)
  |[],a,m,ha,_=>by simpa using ha
  |t::l,a,m,ha,h=>by
   have ht:=h t (.head _);have hd:=zRN ht.1 ht.2.1 ht.2.2;have hs:=zTU hd (yF8 ht);have ih:=zRJ l _ _ (zES ha hs) (λu hu=>h u (.tail _ hu));rw[zyu,lC,ygi];exact zB1 ih zos
theorem zRH{k:Nat}:∀(l:List Tri) (a:Pt) (m:Nat),lqP m a->(∀t,t∈l->lqT k t)->lqP (m+l.length*(8*k+6)) (l.foldl (λa t=>qF a (xC (kZ t.y t.x) (kZ t.z t.x))) a)
  |[],a,m,ha,_=>by simpa using ha
  |t::l,a,m,ha,h=>by
   have ht:=h t (.head _);have hs:=zIU (zRM ht.2.1 ht.1) (zRM ht.2.2 ht.1);have ih:=zRH l _ _ (zES ha hs) (λu hu=>h u (.tail _ hu));rw[zyu,lC,ygi];exact zB1 ih zos
theorem zVI{β:Type}{h:Mem}{v:Go.Value}{k:Nat}{σ:Rp β}{x:List Pt×β}(r:(rpP (rpS (rpT (rpQ k))) σ).Is h v x):∀i,i<x.1.length->lqP k (x.1.getD i zT):=by
 obtain⟨cs,⟨a,b,rfl,⟨D,ds,rfl,h1,C⟩,_⟩,_⟩:=r;intro i hi;have:=C.get (zoc hi);obtain⟨_,_,_,⟨_,hx⟩,_,_,_,⟨_,hy⟩,⟨_,hz⟩⟩:=this;rw[zoa,zoc hi];exact⟨hx,hy,hz⟩
theorem zVW{h:Mem}{cs:List Go.Value}{a b:Pt}{k l:Nat}(r:(rpT (rpQ k)).R h cs a)(e:a=b)(hl:lqP l b):(rpT (rpQ l)).R h cs b:=by
 subst e;obtain⟨x,_,rfl,⟨G,_⟩,y,z,rfl,⟨D,_⟩,⟨C,_⟩⟩:=r;exact⟨x,_,I,⟨G,hl.1⟩,y,z,I,⟨D,hl.2.1⟩,⟨C,hl.2.2⟩⟩
def yB1(s:Sd)(f:Fc):Prop:=(∀u v,u<f.2.1.length->v<(f.2.1.getD u []).length->inR s ((f.2.1.getD u []).getD v 0))/\(∀u,u<f.2.1.length->(f.2.1.getD u []).length<=1000)/\f.2.1.length<=1000
def zM7(s:Sd)(F:List Fc):Prop:=(∀i,i<F.length->yB1 s (F.getD i zA))/\F.length<=1000/\(rX s F F.length).length<=1000
theorem zP6{s:Sd}{k:Nat}(hp:∀i,i<s.1.length->lqP k (s.1.getD i zT)){f:Fc}(hf:yB1 s f):∀t,t∈fO s f.2.1 f.2.1.length->lqT k t:=by
 intro t G;obtain⟨u,D,h1⟩:=dO G;obtain⟨q,H,rfl⟩:=zKI h1;have g:∀v,v<(f.2.1.getD u []).length->lqP k (pnA s ((f.2.1.getD u []).getD v 0)):=λv C=>by
  obtain⟨h1,h2⟩:=hf.1 u v D C;exact hp _ zos
 exact⟨g 0 zos,g (q+1) zos,g (q+2) zos⟩
theorem zNR{s:Sd}{F:List Fc}{i n:Nat}(h:i<=n):(rX s F i).length<=(rX s F n).length:=by
 induction n with
 |zero=>rw[show i=0 by omega];exact zbe _
 |succ n ih=>
  rcases zve i (n+1) with h1|h1
  · refine zci (ih zos) ?_
    show _<=(rX s F n++_).length
    rw[lAz];omega
  · rw[show i=n+1 by omega];exact zbe _
theorem zG8{s:Sd}{F:List Fc}{k:Nat}(ho:zM7 s F)(hp:∀i,i<s.1.length->lqP k (s.1.getD i zT)){i q:Nat}(hi:i<F.length):
 (rX s F i++(fO s (F.getD i zA).2.1 (F.getD i zA).2.1.length).take q).length<=1000/\∀t,t∈rX s F i++(fO s (F.getD i zA).2.1 (F.getD i zA).2.1.length).take q->lqT k t:=by
 have h1:=zNR (s:=s) (F:=F) (show i+1<=F.length from hi);have h2:(rX s F (i+1)).length=(rX s F i++fO s (F.getD i zA).2.1 (F.getD i zA).2.1.length).length:=I;rw[lAz] at h2;refine⟨by rw[lAz,zei];have:=ho.2.2;omega,λt C=>?_⟩
 rcases zpi.1 C with h3|h3
 · obtain⟨u,G,D⟩:=dO h3
   exact zP6 hp (ho.1 u zos) t D
 · exact zP6 hp (ho.1 i hi) t (zwe h3)
theorem zGV{s:Sd}{F:List Fc}(ho:zM7 s F){i:Nat}(hi:i<F.length):(fO s (F.getD i zA).2.1 (F.getD i zA).2.1.length).length<=1000:=by
 have h1:=zNR (s:=s) (F:=F) (show i+1<=F.length from hi);have h2:(rX s F (i+1)).length=(rX s F i++fO s (F.getD i zA).2.1 (F.getD i zA).2.1.length).length:=I;rw[lAz] at h2;have:=ho.2.2;omega
theorem dA{n a:Nat}(h:n<=1000):n*a<=1000*a:=zfu _ h
theorem yI7{l:List Tri}{k:Nat}(h:l.length<=1000/\∀t,t∈l->lqT k t):lq (u4 l)<=20000*k+100000:=by
 have h1:=zRI l 0 h.2;have h2:=dA (a:=15*k+6) h.1;have h3:=cH;unfold u4;omega
theorem lq_C{l:List Tri}{k:Nat}(h:l.length<=1000/\∀t,t∈l->lqT k t):lqP (20000*k+100000) (zHD l):=by
 have h1:=zRJ l zT 1 (zMS zov) h.2;have h2:=dA (a:=18*k+8) h.1;exact zB1 h1 zos
theorem lq_V{l:List Tri}{k:Nat}(h:l.length<=1000/\∀t,t∈l->lqT k t):lqP (20000*k+100000) (zA7 l):=by
 have h1:=zRH l zT 1 (zMS zov) h.2;have h2:=dA (a:=8*k+6) h.1;exact zB1 h1 zos
def cnS(s:Sd):Pt:=if((4:Int):Rat)*pX s=0 then zT else scT (((1:Int):Rat)/(((4:Int):Rat)*pX s)) (zQD s)
def cnO(s:Sd):Prop:=¬((4:Int):Rat)*pX s=0
def arS(s:Sd)(d:Int):Nat->Rat×Rat
  |0=>(0,0)
  |i+1=>((arS s d i).1+dB (xO (arV s (s.2.1.getD i zA)) (arV s (s.2.1.getD i zA))) d,(arS s d i).2+dD (xO (arV s (s.2.1.getD i zA)) (arV s (s.2.1.getD i zA))) d)
theorem yI6{a:Rat}{k:Nat}(h:lq a<=k)(n:Int):lq (dB a n)<=k+140/\lq (dD a n)<=k+140:=by
 have h0:=cH;unfold dB dD
 by_cases ho:zMP a n
 · rw[zau ho,zau ho]
   exact⟨yBJ h n,yBI h (zGA (zdi (λe=>e ho))).2.2.1 n⟩
 · rw[zae ho,zae ho];omega
def yHV(s:Sd):Prop:=∀i,i<s.2.1.length->lq (xO (arV s (s.2.1.getD i zA)) (arV s (s.2.1.getD i zA)))<=200
theorem zPX{s:Sd}(h:yHV s)(d:Int):∀i,i<=s.2.1.length->lq (arS s d i).1<=1+341*i/\lq (arS s d i).2<=1+341*i
  |0,_=>by have h0:=cH;exact⟨by show lq 0<=_;omega,by show lq 0<=_;omega⟩
  |i+1,hi=>by
   obtain⟨h1,h2⟩:=zPX h d i zos;obtain⟨h3,h4⟩:=yI6 (h i zos) d;have h5:=kW (arS s d i).1 (dB (xO (arV s (s.2.1.getD i zA)) (arV s (s.2.1.getD i zA))) d);have h6:=kW (arS s d i).2 (dD (xO (arV s (s.2.1.getD i zA)) (arV s (s.2.1.getD i zA))) d);exact⟨by show lq (_+_)<=_;omega,by show lq (_+_)<=_;omega⟩
theorem reb2{h:Mem}{cs:List Go.Value}{a b:Rat×Rat}{k l k' l':Nat}(r:(rpP (rpQ k) (rpQ l)).R h cs a)(e:a=b)(h1:lq b.1<=k')(h2:lq b.2<=l'):(rpP (rpQ k') (rpQ l')).R h cs b:=by
 subst e;obtain⟨x,y,rfl,⟨D,_⟩,⟨C,_⟩⟩:=r;exact⟨x,y,I,⟨D,h1⟩,⟨C,h2⟩⟩
def pI(a b c:Int):Pt:=T3.mk (a:Rat) (b:Rat) (c:Rat)
def bkS(a b:Pt):Sd:=(blP a b,blF a b,[])
def lgS(s:Sd):Prop:=∀f,f<s.2.1.length->(s.2.1.getD f zA).2.1.length<=10000/\∀l,l<(s.2.1.getD f zA).2.1.length->((s.2.1.getD f zA).2.1.getD l []).length<=10000
def yIV(s:Sd):Prop:=(nmA s/\lgS s)/\zM7 s s.2.1/\yHV s
structure SaneF:Prop where
 h:iF (pI 0 0 0) (pI 2 2 2)->blH (pI 0 0 0) (pI 2 2 2)
 ok:yIV (bkS (pI 0 0 0) (pI 2 2 2))
 vol:pX (bkS (pI 0 0 0) (pI 2 2 2))/((6:Int):Rat)=((8:Int):Rat)
 cen:cnS (bkS (pI 0 0 0) (pI 2 2 2))=pI 1 1 1/\cnO (bkS (pI 0 0 0) (pI 2 2 2))
 area:arS (bkS (pI 0 0 0) (pI 2 2 2)) 0 (bkS (pI 0 0 0) (pI 2 2 2)).2.1.length=(((24:Int):Rat),((24:Int):Rat))
theorem yCO:fT ((2:Int):Rat) 1=((1:Int):Rat):=by
 have h1:flN ((2:Int):Rat) (kN 1)=8:=by decide
 have h2:sqN 8=2:=zN6 zov zov;have h3:kN 1=1:=by decide
 unfold fT;rw[h1,h2,h3];unfold ovQ
 decide +kernel
theorem zPN:zMP ((2:Int):Rat) 1/\dB ((2:Int):Rat) 1=((1:Int):Rat)/\dD ((2:Int):Rat) 1=kJ 3 2:=by
 have h0:¬((2:Int):Rat)<0:=by decide +kernel
 have H:¬((yU ((2:Int):Rat)<0\/(1:Int)<0)\/64<(1:Int)):=λe=>by
  rcases e with(e|e)|e
  · exact h0 (qX.1 e)
  · omega
  · omega
 obtain⟨G,D,M,C⟩:=zGA H;refine⟨C,G.trans yCO,?_⟩;rw[D];unfold zCU;rw[zae h0,yCO,zau (by decide +kernel)];have h3:kN 1=1:=by decide
 have J:kJ 3 2=3/2:=I;rw[h3,J];unfold ovQ
 decide +kernel
theorem yCS:zMP (kJ 9 4) 1/\dB (kJ 9 4) 1=dD (kJ 9 4) 1:=by
 have C:kJ 9 4=9/4:=I;have h0:¬kJ 9 4<0:=by rw[C];decide +kernel
 have J:¬((yU (kJ 9 4)<0\/(1:Int)<0)\/64<(1:Int)):=λe=>by
  rcases e with(e|e)|e
  · exact h0 (qX.1 e)
  · omega
  · omega
 obtain⟨H,G,M,D⟩:=zGA J;refine⟨D,?_⟩;rw[H,G];have h1:flN (9/4:Rat) (kN 1)=9:=by decide +kernel
 have h2:sqN 9=3:=zN6 zov zov;have h3:kN 1=1:=by decide
 refine zVK h0 ?_;unfold fT;rw[C,h1,h2,h3];unfold ovQ
 decide +kernel
theorem zSU:yU 0=0:=zau rfl
variable {a b:Pt}
def bxS(a b:Pt):Sd:=(uB1.map (cU a b),fB3 a b,[])
theorem zSE(h:iF a b):bkS a b=bxS a b:=by
 obtain⟨h1,h2⟩:=zQF h;unfold bkS bxS;rw[h1,h2]
def cC(a b:Pt)(i:Nat):Pt:=cU a b (uB1.getD i u0)
theorem zAU(i j k l:Nat)(hi:i<8)(hj:j<8)(hk:k<8)(hl:l<8):fO (bxS a b) [[(i:Int),(j:Int),(k:Int),(l:Int)]] 1=[T3.mk (cC a b i) (cC a b j) (cC a b k),T3.mk (cC a b i) (cC a b k) (cC a b l)]:=by
 have g:∀m:Nat,m<8->pnA (bxS a b) (m:Int)=cC a b m:=λm C=>by
  unfold pnA;rw[z7i];exact t6 (l:=uB1) C
 show[]++([]++[T3.mk (pnA (bxS a b) (i:Int)) (pnA (bxS a b) (j:Int)) (pnA (bxS a b) (k:Int))]++[T3.mk (pnA (bxS a b) (i:Int)) (pnA (bxS a b) (k:Int)) (pnA (bxS a b) (l:Int))])=_
 rw[g i hi,g j hj,g k hk,g l hl];rfl
theorem zQJ:rX (bxS a b) (fB3 a b) 6=[T3.mk (cC a b 0) (cC a b 1) (cC a b 3),T3.mk (cC a b 0) (cC a b 3) (cC a b 2),T3.mk (cC a b 4) (cC a b 6) (cC a b 7),T3.mk (cC a b 4) (cC a b 7) (cC a b 5),T3.mk (cC a b 0) (cC a b 4) (cC a b 5),T3.mk (cC a b 0) (cC a b 5) (cC a b 1),T3.mk (cC a b 2) (cC a b 3) (cC a b 7),T3.mk (cC a b 2) (cC a b 7) (cC a b 6),T3.mk (cC a b 0) (cC a b 2) (cC a b 6),T3.mk (cC a b 0) (cC a b 6) (cC a b 4),T3.mk (cC a b 1) (cC a b 5) (cC a b 7),T3.mk (cC a b 1) (cC a b 7) (cC a b 3)]:=by
 show((((([]++fO (bxS a b) [[((0:Nat):Int),((1:Nat):Int),((3:Nat):Int),((2:Nat):Int)]] 1)++fO (bxS a b) [[((4:Nat):Int),((6:Nat):Int),((7:Nat):Int),((5:Nat):Int)]] 1)++fO (bxS a b) [[((0:Nat):Int),((4:Nat):Int),((5:Nat):Int),((1:Nat):Int)]] 1)++fO (bxS a b) [[((2:Nat):Int),((3:Nat):Int),((7:Nat):Int),((6:Nat):Int)]] 1)++fO (bxS a b) [[((0:Nat):Int),((2:Nat):Int),((6:Nat):Int),((4:Nat):Int)]] 1)++fO (bxS a b) [[((1:Nat):Int),((5:Nat):Int),((7:Nat):Int),((3:Nat):Int)]] 1=_
 rw[zAU 0 1 3 2 zov zov zov zov,zAU 4 6 7 5 zov zov zov zov,zAU 0 4 5 1 zov zov zov zov,zAU 2 3 7 6 zov zov zov zov,zAU 0 2 6 4 zov zov zov zov,zAU 1 5 7 3 zov zov zov zov]
 rfl
theorem zUL:pX (bxS a b)=6*((b.x-a.x)*(b.y-a.y)*(b.z-a.z)):=by
 have e:pX (bxS a b)=u4 (rX (bxS a b) (fB3 a b) 6):=I;rw[e,zQJ];simp only[u4,List.foldl,tB,xO,xC,cC,cU,cB,uB1,zzi,z1i,if_true,z5u,if_false];generalize a.x=p;generalize a.y=q;generalize a.z=r;generalize b.x=u;generalize b.y=v;generalize b.z=w;grind
theorem yHK:zQD (bxS a b)=scT (12*((b.x-a.x)*(b.y-a.y)*(b.z-a.z))) (qF a b):=by
 have e:zQD (bxS a b)=zHD (rX (bxS a b) (fB3 a b) 6):=I;rw[e,zQJ];simp only[zHD,List.foldl,tB,xO,xC,cC,cU,cB,uB1,zzi,z1i,if_true,z5u,if_false,smT,scT,qF];generalize a.x=p;generalize a.y=q;generalize a.z=r;generalize b.x=u;generalize b.y=v;generalize b.z=w;rw[gH];refine⟨?_,?_,?_⟩<;>simp only<;>grind
def yFA(p d:Pt)(t:Rat):Pt:=qF p (scT t d)
section
variable {a b:Pt}
def sI(a b q:Pt)(v:Nat):Prop:=a.at v<q.at v/\q.at v<b.at v
def kI(a b q:Pt)(v:Nat):Prop:=a.at v<=q.at v/\q.at v<=b.at v
end
def hitE(p A B v:Pt):Prop:=if xC (kZ A p) (kZ B p)=zT then xC (kZ B A) v=zT else tB (kZ A p) (kZ B p) v=0
def vK(k:Int):Pt:=T3.mk ((1:Int):Rat) (k:Rat) ((k*k:Int):Rat)
theorem zXR{q:Nat->Prop}:∀n,q n->∃k,k<=n/\q k/\∀j,j<k->¬q j:=by
 intro n
 induction n using Nat.strongRecOn with
 |_ n ih=>
  intro hn
  by_cases h:∃j,j<n/\q j
  · obtain⟨j,hj,hq⟩:=h
    obtain⟨k,h1,h2,h3⟩:=ih j hj hq;exact⟨k,by omega,h2,h3⟩
  · exact⟨n,zbe n,hn,λj hj hq=>h ⟨j,hj,hq⟩⟩
theorem zXS{q:Nat->Prop}(h:∃n,q n):∃k,q k/\∀j,j<k->¬q j:=by
 obtain⟨n,C⟩:=h;obtain⟨k,_,h2⟩:=zXR n C;exact⟨k,h2⟩
def yGC(q:Nat->Prop):Nat:=if h:∃n,q n then Classical.choose (zXS h) else 0
abbrev PIr:=Int×Int
def mmI(a b:Int):PIr:=(min a b,max a b)
def ptI(P:List Pt)(i:Int):Pt:=gp P i.toNat
def sxE(P:List Pt)(x:List Int)(S:List PIr):Nat->List PIr
  |0=>S
  |k+1=>if mmI (x.getD k 0) (x.getD ((k+1)%x.length) 0)∈sxE P x S k\/ptI P (x.getD k 0)=ptI P (x.getD ((k+1)%x.length) 0) then sxE P x S k else sxE P x S k++[mmI (x.getD k 0) (x.getD ((k+1)%x.length) 0)]
def slE(P:List Pt)(L:List (List Int))(S:List PIr):Nat->List PIr
  |0=>S
  |l+1=>sxE P (L.getD l []) (slE P L S l) (L.getD l []).length
def sfE(s:Sd):Nat->List PIr
  |0=>[]
  |f+1=>slE s.1 (s.2.1.getD f zA).2.1 (sfE s f) (s.2.1.getD f zA).2.1.length
theorem zSQ{s:Sd}(h:lT s):szZ s=[]/\zK7 s s.1.length=[]/\plZ s=[]/\neZ s=[]/\clZ (uA s)=[]:=by
 unfold lT zYW at h
 by_cases h1:0<(szZ s).length
 · rw[zau h1] at h;omega
 · rw[zae h1] at h
   by_cases h2:0<(zK7 s s.1.length).length
   · rw[zau h2] at h;omega
   · rw[zae h2] at h
     by_cases h3:0<(plZ s).length
     · rw[zau h3] at h;omega
     · rw[zae h3] at h
       by_cases h4:0<(neZ s).length
       · rw[zau h4] at h;omega
       · rw[zae h4] at h
         exact⟨zof zos,zof zos,zof zos,zof zos,zof h⟩
theorem yEL{s:Sd}(h:lT s){f:Nat}(hf:f<s.2.1.length):vfP (s.2.1.getD f zA).2.1/\nmP s f:=by
 have hz:=(zSQ h).1;unfold szZ at hz
 by_cases hb:zNP s
 · rw[zau hb] at hz;simp at hz
 · rw[zae hb] at hz
   have:=(zJI (p:=szP s) _).1 hz f hf;unfold szP at this;exact⟨zdi λe=>this (.inl e),zdi λe=>this (.inr e)⟩
variable {a b p d:Pt}
structure Ax(a b p d:Pt)(M:Rat)(u:Nat)(l h:Rat):Prop where
 lt:l<h
 z:d.at u=0->l= -M/\h=M
 n:d.at u≠0->(-M<l/\l<M)/\-M<h/\h<M
 s:∀t,-M<t->t<M->(sI a b (yFA p d t) u↔l<t/\t<h)
 k:∀t,-M<t->t<M->(kI a b (yFA p d t) u↔l<=t/\t<=h)
 pos:0<d.at u->l*d.at u=a.at u-p.at u/\h*d.at u=b.at u-p.at u
 neg:d.at u<0->l*d.at u=b.at u-p.at u/\h*d.at u=a.at u-p.at u
variable {a b p d:Pt}
section
variable {a b:Pt}
end
abbrev Fm:=Pl×List (List Pt)×Int×Int
abbrev Md:=List Fm×List (List Pt)
abbrev ed0:List Pt:=List.replicate 2 zT
abbrev fm0:Fm:=(zS7,([]:List (List Pt)),(0:Int),(0:Int))
def shpF(P:List Pt)(L:List (List Int)):Nat->List (List Pt):=uG λl=>zOM P (L.getD l []) (L.getD l []).length
def fmF(s:Sd)(f:Fc):Fm:=(f.1,shpF s.1 f.2.1 f.2.1.length,(↑(axI f.1.1):Int),(↑(axJ f.1.1):Int))
def edP(P:List Pt)(e:PIr):List Pt:=[ptI P e.1,ptI P e.2]
def fmT(s:Sd):Nat->List Fm:=uG λf=>fmF s (s.2.1.getD f zA)
def zKH(s:Sd):Md:=(fmT s s.2.1.length,(sfE s s.2.1.length).map (edP s.1))
def whM(f:Fm)(p:Pt):Int:=whZ f.2.1 (pr p f.2.2.1.toNat f.2.2.2.toNat) f.2.2.1.toNat f.2.2.2.toNat
def onM(md:Md)(p:Pt)(f:Nat):Prop:=(sdZ (md.1.getD f fm0).1 p=0/\0<(md.1.getD f fm0).2.1.length)/\0<=whM (md.1.getD f fm0) p
def onA(md:Md)(p:Pt):Prop:=∃f,f<md.1.length/\onM md p f
def cnM(f:Fm)(d:Pt):Rat:=xO f.1.1 d
def hnM(f:Fm)(p:Pt):Rat:=f.1.2-xO f.1.1 p
def skM(f:Fm)(p d:Pt):Prop:=yU (cnM f d)*yU (hnM f p)<=0\/f.2.1.length=0
def wrM(f:Fm)(p d:Pt):Int:=whM f (yFA p d (hnM f p/cnM f d))
def bdM(f:Fm)(p d:Pt):Prop:=¬skM f p d/\wrM f p d=0
def crM(md:Md)(p d:Pt):Nat->Int×Int
  |0=>(0,0)
  |n+1=>if skM (md.1.getD n fm0) p d then crM md p d n else if wrM (md.1.getD n fm0) p d=1 then(if 0<cnM (md.1.getD n fm0) d then((crM md p d n).1+1,(crM md p d n).2) else((crM md p d n).1,(crM md p d n).2+1)) else crM md p d n
def nbM(md:Md)(p d:Pt):Prop:=∀f,f<md.1.length->¬bdM (md.1.getD f fm0) p d
def clM(md:Md)(p v:Pt):Prop:=∀q,q<md.2.length->¬hitE p ((md.2.getD q ed0).getD 0 zT) ((md.2.getD q ed0).getD 1 zT) v
def yJG(md:Md)(p:Pt):Nat:=yGC λk=>clM md p (vK k)
def crA(md:Md)(p d:Pt):Int:=if nbM md p d then(crM md p d md.1.length).1 else 0
def crB(md:Md)(p d:Pt):Int:=if nbM md p d then(crM md p d md.1.length).2 else 0
section
variable {md:Md}{p d:Pt}{f:Nat}
end
def wdM(md:Md)(p:Pt):Int:=if onA md p then 0 else crA md p (vK ↑(yJG md p))-crB md p (vK ↑(yJG md p))
end Bk
namespace Bk
open Go Go.RowKit
open Classical
section
variable {P:Program}{n:Nat}{w0:World}{h0:Mem}{e:List (Nat×Value)}{L:List Res}{h:Mem}{Q:Exit->Act->World->Prop}
variable {ds:Option Tmp}{ty:TypeId}{ps:String}{af:Array Edge}{gd:Option (Nat×Bool)}
structure MapTy(P:Program)(mt kt et it:TypeId):Prop where
 m:P.underlying mt=some (.map kt et)
 k:P.underlying kt=some (.array 2 it)
 i:P.underlying it=some (.int .i64)
 sz:∀w,(Go.sizeOf it).run P w=.ok 1 w
 ag:∀w,(isAgg it).run P w=.ok false w
 z:∀w,(zeroValue et).run P w=.ok (.bool false) w
variable {mt kt et it:TypeId}
end
end Bk
namespace Bk
open Classical
section
variable {P:List Pt}{x:List Int}{S T:List PIr}{u:Nat}
end
theorem zPS{α:Type}(d:α){l:List α}{x:α}(h:x∈l):∃i,i<l.length/\x=l.getD i d:=by
 obtain⟨i,hi,e⟩:=List.mem_iff_getElem.1 h;refine⟨i,hi,?_⟩;rw[<-e,zoa,zoc hi]
 rfl
def inM(md:Md)(p:Pt):Int:=if onA md p then 0 else if 0<wdM md p then 1 else -1
end Bk
namespace Bk
open Go Go.RowKit
open Classical
theorem zFD{α:Type}{ρ σ:Rp α}(P:α->Prop)(hn:ρ.n=σ.n)(k:∀{h cs x},ρ.R h cs x->P x->σ.R h cs x){h:Mem}{cs:List Value}{xs:List α}(r:(rpS ρ).R h cs xs)(hp:∀x,x∈xs->P x):(rpS σ).R h cs xs:=by
 obtain⟨v,ds,e,s,rl⟩:=r;refine⟨v,ds,e,hn▸s,?_⟩
 clear s e
 induction xs generalizing ds with
 |nil=>exact rl
 |cons x xs ih=>
  obtain⟨a,b,e,ra,rb⟩:=rl;exact⟨a,b,e,k ra (hp x (.head _)),ih (λy hy=>hp y (.tail _ hy)) b rb⟩
end Bk
namespace Bk
open Classical
def smS(k m n j:Nat)(s:Sd):Prop:=(∀p,p∈s.1->lqP k p)/\(∀f,f∈s.2.1->lqP m f.1.1/\lq f.1.2<=n)/\∀e,e∈s.2.2->lq e.2.2<=j
section
variable {h:Mem}{cs:List Go.Value}
theorem zYC{M N m n:Nat}{f:Fc}(r:(rpP (rpP (rpT (rpQ M)) (rpQ N)) (rpP (rpS (rpS rpI)) uP)).R h cs f)(hp:lqP m f.1.1/\lq f.1.2<=n):(rpP (rpP (rpT (rpQ m)) (rpQ n)) (rpP (rpS (rpS rpI)) uP)).R h cs f:=by
 obtain⟨a,b,e,⟨H,G,D,r1,r2⟩,C⟩:=r;exact⟨a,b,e,⟨H,G,D,zVW r1 I hp.1,zVX r2 I hp.2⟩,C⟩
theorem zYI{J j:Nat}{x:En}(r:(rpP rpI (rpP rpI (rpQ J))).R h cs x)(hp:lq x.2.2<=j):(rpP rpI (rpP rpI (rpQ j))).R h cs x:=by
 obtain⟨a,b,e,G,c,d,H,D,C⟩:=r;exact⟨a,b,e,G,c,d,H,D,zVX C I hp⟩
theorem zFC{K M N J k m n j:Nat}{s:Sd}(r:(rpP (rpS (rpT (rpQ K))) (rpP (rpS (rpP (rpP (rpT (rpQ M)) (rpQ N)) (rpP (rpS (rpS rpI)) uP))) (rpS (rpP rpI (rpP rpI (rpQ J)))))).R h cs s)(hp:smS k m n j s):
 (rpP (rpS (rpT (rpQ k))) (rpP (rpS (rpP (rpP (rpT (rpQ m)) (rpQ n)) (rpP (rpS (rpS rpI)) uP))) (rpS (rpP rpI (rpP rpI (rpQ j)))))).R h cs s:=by
 obtain⟨a,b,e,G,c,d,H,D,C⟩:=r;exact⟨a,b,e,zFD (ρ:=rpT (rpQ K)) (σ:=rpT (rpQ k)) (lqP k) I (λr hp=>zVW r I hp) G hp.1,c,d,H,
  zFD (ρ:=rpP (rpP (rpT (rpQ M)) (rpQ N)) (rpP (rpS (rpS rpI)) uP)) (σ:=rpP (rpP (rpT (rpQ m)) (rpQ n)) (rpP (rpS (rpS rpI)) uP)) (λf=>lqP m f.1.1/\lq f.1.2<=n) I zYC D hp.2.1,
  zFD (ρ:=rpP rpI (rpP rpI (rpQ J))) (σ:=rpP rpI (rpP rpI (rpQ j))) (λx=>lq x.2.2<=j) I zYI C hp.2.2⟩
end
section
variable {a b:Pt}
structure BoxL(k:Nat)(a b:Pt):Prop where
 lq:lqP k b
 ok:iF a b
 h:blH a b
 e:blE a b=0
 oks:okS (bkS a b)
 snd:lT (bkS a b)
 sm:smS k 2 (k+2) 0 (bkS a b)
 onb:∀p,onA (zKH (bkS a b)) p↔(∀u,u<3->kI a b p u)/\¬∀u,u<3->sI a b p u
 wd:∀p,¬onA (zKH (bkS a b)) p->wdM (zKH (bkS a b)) p=oneI (∀u,u<3->sI a b p u)
 inb:∀p,inM (zKH (bkS a b)) p=if ∀u,u<3->sI a b p u then 1 else if ∀u,u<3->kI a b p u then 0 else -1
theorem zUU{i:Nat}(h:i<3):i=0\/i=1\/i=2:=by omega
end
structure SaneL:Prop where
 b:BoxL 2 (pI 0 0 0) (pI 1 1 1)
 o1:¬onA (zKH (bkS (pI 0 0 0) (pI 1 1 1))) (T3.mk (kJ 1 2) (kJ 1 2) (kJ 1 2))
 w1:wdM (zKH (bkS (pI 0 0 0) (pI 1 1 1))) (T3.mk (kJ 1 2) (kJ 1 2) (kJ 1 2))=1
 o2:¬onA (zKH (bkS (pI 0 0 0) (pI 1 1 1))) (pI 2 0 0)
 w2:wdM (zKH (bkS (pI 0 0 0) (pI 1 1 1))) (pI 2 0 0)=0
 i3:inM (zKH (bkS (pI 0 0 0) (pI 1 1 1))) (pI 1 1 1)=0
end Bk
namespace Bk
open Go Go.RowKit
section
variable {P:Program}{n:Nat}{w0:World}{h0:Mem}{e:List (Nat×Value)}{A B R:List Res}{q:Res}{h:Mem}{Q:Exit->Act->World->Prop}
theorem yDW:(A++q::(B++R)).Perm (A++(B++(R++[q]))):=by
 refine List.Perm.append_left A ?_;rw[<-zhu];exact(List.perm_append_singleton q (B++R)).symm
theorem zTZ{ops:Array Oper}{l:List Oper}(k:GL P n w0 h0 ops Q l e (A++(B++(R++[q]))) h):GL P n w0 h0 ops Q l e (A++q::(B++R)) h:=λa w E S=>k a w E (S.perm yDW)
theorem zX2{x:Exit}(k:GQ n w0 h0 Q x e (q::(A++B)) h):GQ n w0 h0 Q x e (A++q::B) h:=λa w E S=>k a w E (S.perm yne)
theorem yII:((A++R)++B).Perm (A++(B++R)):=by
 rw[zhu];exact List.Perm.append_left A List.perm_append_comm
theorem zM3{ops:Array Oper}{l:List Oper}(k:GL P n w0 h0 ops Q l e (A++(B++R)) h):GL P n w0 h0 ops Q l e ((A++R)++B) h:=λa w E S=>k a w E (S.perm yII)
end
section
variable {α:Type}{ρ:Rp α}{E:Nat}{h h':Mem}
def lQ(E:Nat)(ρ:Rp α)(h:Mem):List Value->List (List α)->List Res->Prop
  |[],_,R=>R=[]
  |v::vs,x::xs,R=>∃cs R',R=.gs E ρ.n v x.length cs::R'/\v.oneCell'=true/\RL ρ h cs x/\lQ E ρ h vs xs R'
  |_::_,[],_=>False
theorem lQ.mono(hh:MLe h h'):∀{vs:List Value} {xs:List (List α)} {R:List Res},lQ E ρ h vs xs R->lQ E ρ h' vs xs R
  |[],_,_,r=>r
  |_::_,_::_,_,⟨cs,R',e,o,r,s⟩=>⟨cs,R',e,o,r.mono hh,s.mono hh⟩
  |_::_,[],_,r=>r.elim
theorem lQ.snoc:∀{vs:List Value} {xs:List (List α)} {R:List Res} {v:Value} {x:List α} {cs:List Value},lQ E ρ h vs xs R->vs.length=xs.length->v.oneCell'=true->RL ρ h cs x->lQ E ρ h (vs++[v]) (xs++[x]) (R++[.gs E ρ.n v x.length cs])
  |[],[],R,v,x,cs,r,_,o,rl=>by
   have:R=[]:=r;subst this;exact⟨cs,[],rfl,o,rl,rfl⟩
  |[],_::_,_,_,_,_,_,hl,_,_=>absurd hl zo1
  |_::_,[],_,_,_,_,r,_,_,_=>r.elim
  |_::vs,_::xs,R,v,x,cs,⟨c1,R',e,o1,r1,s⟩,hl,o,rl=>by
   subst e;exact⟨c1,_,rfl,o1,r1,s.snoc (by simpa using hl) o rl⟩
theorem lQ.head{vs:List Value}{xs:List (List α)}{R:List Res}{i:Nat}(r:lQ E ρ h (vs.drop i) (xs.drop i) R)(hi:i<vs.length)(hx:i<xs.length):∃cs R',R=.gs E ρ.n (vs.getD i (.slice none 0 0)) (xs.getD i []).length cs::R'/\(vs.getD i (.slice none 0 0)).oneCell'=true/\RL ρ h cs (xs.getD i [])/\lQ E ρ h (vs.drop (i+1)) (xs.drop (i+1)) R':=by
 rw[z3e hi,z3e hx] at r;have D:vs.getD i (.slice none 0 0)=vs[i]:=by rw[zoa,zoc hi];rfl
 have C:xs.getD i []=xs[i]:=by rw[zoa,zoc hx];rfl
 rw[D,C];exact r
end
abbrev FV:=Pl×Value×List Nat
abbrev fv0:FV:=((T3.mk (0:Rat) 0 0,(0:Rat)),((Value.slice none 0 0),([]:List Nat)))
abbrev nV:Value:=.slice none 0 0
def fvZ(F:List Fc)(vs:List Value):Nat->List FV:=uG λu=>((F.getD u zA).1,(vs.getD u nV,(F.getD u zA).2.2))
def lpS(F:List Fc):List (List (List Int)):=F.map λf=>f.2.1
section
variable {k l:Nat}{h:Mem}
theorem fv_R{π:Rp Pl}{cs:List Value}{a:Pl}{v:Value}{X:List (List Int)}{m:List Nat}(r:(rpP π (rpP rpV uP)).R h cs (a,(v,m)))(s:(rpS (rpS rpI)).Is h v X):(rpP π (rpP (rpS (rpS rpI)) uP)).R h cs (a,(X,m)):=by
 obtain⟨p,q,e,H,C,J,M,G,D⟩:=r;exact⟨p,q,e,H,C,J,M,by rw[show C=[v] from G.1];exact zOF s,D⟩
theorem zX6{π:Rp Pl}:∀{xs:List FV} {ys:List Fc} {cs:List Value},RL (rpP π (rpP rpV uP)) h cs xs->xs.length=ys.length->(∀u,u<xs.length->(xs.getD u fv0).1=(ys.getD u zA).1/\(xs.getD u fv0).2.2=(ys.getD u zA).2.2/\(rpS (rpS rpI)).Is h (xs.getD u fv0).2.1 (ys.getD u zA).2.1)->RL (rpP π (rpP (rpS (rpS rpI)) uP)) h cs ys
  |[],[],_,r,_,_=>r
  |[],_::_,_,_,hl,_=>absurd hl zo1
  |_::_,[],_,_,hl,_=>absurd hl zo1
  |x::xs,y::ys,_,⟨a,b,e,r,s⟩,hl,hg=>by
   obtain⟨g1,g2,g3⟩:=hg 0 (ytu _);refine⟨a,b,e,?_,zX6 s (by simpa using hl) λu hu=>hg (u+1) (Nat.succ_lt_succ hu)⟩;obtain⟨x1,x2,x3⟩:=x;obtain⟨y1,y2,y3⟩:=y;have g1':x1=y1:=g1;have g2':x3=y3:=g2;subst g1' g2';exact fv_R r g3
end
theorem zRO(F:List Fc){i:Nat}(hi:i<F.length):(lpS F).getD i []=(F.getD i zA).2.1:=by
 unfold lpS;rw[zoa,zoa,zwi,zoc hi];rfl
theorem zXN{F:List Fc}{i:Nat}(hi:i<F.length):(lpS F).take (i+1)=(lpS F).take i++[(F.getD i zA).2.1]:=by
 have C:i<(lpS F).length:=by unfold lpS;rw[zde];exact hi
 rw[zye C,<-zRO F hi,zoa,zoc C];rfl
theorem zKK(F:List Fc):(lpS F).length=F.length:=zde _
theorem yBM(F:List Fc):(lpS F).take F.length=lpS F:=by rw[<-zKK,zue]
theorem yJD{π:Rp Pl}{ρ:Rp (List Int)}{h:Mem}{v:Value}{f:Fc}(r:(rpP π (rpP (rpS ρ) uP)).Is h v f):∃u,(rpP π (rpP rpV uP)).Is h v (f.1,(u,f.2.2))/\(rpS ρ).Is h u f.2.1:=by
 obtain⟨cs,r,e⟩:=r;obtain⟨p,q,U,H,Z,J,O,C,G⟩:=r;have M:=(rpS ρ).one C;obtain⟨u,ds,rfl,s,D⟩:=C;exact⟨u,⟨cs,⟨p,q,U,H,[u],J,O,⟨I,by simpa using M⟩,G⟩,e⟩,[u],⟨u,ds,I,s,D⟩,I⟩
theorem zXL(q:Rat):lq (((-1:Int):Rat)*q)=lq q:=by
 rw[show(((-1:Int):Rat)*q)= -q by rw[show(((-1:Int):Rat))= -(1:Rat) from I];grind];exact zGG q
theorem zWJ{K L m n:Nat}{h h':Mem}{v v':Value}{pl:Pl}(r:(rpP (rpT (rpQ K)) (rpQ L)).Is h v (opP pl))(s:(rpP (rpT (rpQ m)) (rpQ n)).Is h' v' pl):(rpP (rpT (rpQ m)) (rpQ n)).Is h v (opP pl):=by
 obtain⟨cs,⟨U,O,M,r1,r2⟩,e⟩:=r;obtain⟨ds,⟨b1,b2,Z,D,C⟩,_⟩:=s;obtain⟨x,_,rfl,⟨_,J⟩,y,z,rfl,⟨_,H⟩,⟨_,G⟩⟩:=D;refine⟨cs,⟨U,O,M,zVW r1 I ⟨?_,?_,?_⟩,zVX r2 I ?_⟩,e⟩
 · exact(zXL _).symm▸J
 · exact(zXL _).symm▸H
 · exact(zXL _).symm▸G
 · show lq (-pl.2)<=n
   rw[zGG];exact C.2
theorem zX7{F:List Fc}{vs:List Value}{f:Nat}(v:Value)(h:vs.length=f):fvZ F vs f++[((F.getD f zA).1,(v,(F.getD f zA).2.2))]=fvZ F (vs++[v]) (f+1):=by
 subst h
 show _=fvZ F (vs++[v]) vs.length++[((F.getD vs.length zA).1,((vs++[v]).getD vs.length nV,(F.getD vs.length zA).2.2))]
 have D:(vs++[v]).getD vs.length nV=v:=by simp
 rw[D]
 congr 1
 refine tE _ λu C=>?_;have:(vs++[v]).getD u nV=vs.getD u nV:=by
  rw[zoa,zoa,ypu C]
 rw[this]
def flZ(F:List Fc)(vs:List Value)(i:Nat):List FV:=uG (λu=>(if u<i then opP (F.getD u zA).1 else(F.getD u zA).1,(vs.getD u nV,(F.getD u zA).2.2))) F.length
theorem fl_0{F:List Fc}{vs:List Value}(h:vs.length=F.length):fvZ F vs vs.length=flZ F vs 0:=by
 unfold fvZ flZ;rw[h];exact tE _ λu _=>by rw[zae (z4u u)]
theorem eG(F:List Fc)(vs:List Value)(i:Nat):(flZ F vs i).length=F.length:=xZ _ _
theorem zAT{F:List Fc}{vs:List Value}{i u:Nat}(hu:u<F.length):(flZ F vs i).getD u fv0=(if u<i then opP (F.getD u zA).1 else(F.getD u zA).1,(vs.getD u nV,(F.getD u zA).2.2)):=jL _ fv0 hu
theorem yGW{F:List Fc}{vs:List Value}{i:Nat}(hi:i<F.length):(flZ F vs i).set i (opP ((flZ F vs i).getD i fv0).1,((flZ F vs i).getD i fv0).2)=flZ F vs (i+1):=by
 rw[zAT hi,zae (yii i)];refine rW fv0 (by rw[lS,eG,eG]) λu C=>?_;rw[lS,eG] at C;rw[zAT C]
 by_cases e:u=i
 · subst e
   rw[zau (yte u),zoa,yke (by rw[eG];exact C)];rfl
 · rw[zoa,yee (λh=>e h.symm),<-zoa,zAT C]
   by_cases c:u<i
   · rw[zau c,zau zos]
   · rw[zae c,zae zos]
def rvL(L:List (List Int))(k:Nat):List (List Int):=uG (λq=>if q<k then zAA (L.getD q []) (L.getD q []).length else L.getD q []) L.length
theorem oH(L:List (List Int))(k:Nat):(rvL L k).length=L.length:=xZ _ _
theorem zCT{L:List (List Int)}{k q:Nat}(hq:q<L.length):(rvL L k).getD q []=if q<k then zAA (L.getD q []) (L.getD q []).length else L.getD q []:=jL _ [] hq
theorem yAJ(L:List (List Int)):rvL L 0=L:=by
 refine rW [] (oH L 0) λq C=>?_;rw[oH] at C;rw[zCT C,zae (z4u q)]
theorem zVJ{L:List (List Int)}{k:Nat}(hk:k<L.length):(rvL L k).set k (zAA ((rvL L k).getD k []) ((rvL L k).getD k []).length)=rvL L (k+1):=by
 rw[zCT hk,zae (yii k)];refine rW [] (by rw[lS,oH,oH]) λu C=>?_;rw[lS,oH] at C;rw[zCT C]
 by_cases e:u=k
 · subst e
   rw[zau (yte u),zoa,yke (by rw[oH];exact C)];rfl
 · rw[zoa,yee (λh=>e h.symm),<-zoa,zCT C]
   by_cases c:u<k
   · rw[zau c,zau zos]
   · rw[zae c,zae zos]
theorem lQ.flip{E:Nat}{h:Mem}{vs:List Value}{F:List Fc}{R:List Res}{i:Nat}(r:lQ E (rpS rpI) h (vs.drop i) ((lpS F).drop i) R)(hi:i<vs.length)(hx:i<F.length):∃cs R',R=.gs E 1 (vs.getD i nV) (rvL (F.getD i zA).2.1 0).length cs::R'/\(vs.getD i nV).oneCell'=true/\RL (rpS rpI) h cs (rvL (F.getD i zA).2.1 0)/\lQ E (rpS rpI) h (vs.drop (i+1)) ((lpS F).drop (i+1)) R':=by
 rw[yAJ,<-zRO F hx];exact r.head hi (by rw[zKK];exact hx)
def zAX(h:Mem)(vs:List Value)(G:Nat->List (List Int))(i:Nat):Prop:=∀u,u<i->(rpS (rpS rpI)).Is h (vs.getD u nV) (G u)
theorem zAX.mono{h h':Mem}(hh:MLe h h'){vs:List Value}{G:Nat->List (List Int)}{i:Nat}(r:zAX h vs G i):zAX h' vs G i:=λu hu=>(r u hu).mono hh
theorem zAX.next{h h':Mem}(hh:MLe h h'){vs:List Value}{G:Nat->List (List Int)}{i:Nat}(r:zAX h vs G i)(s:(rpS (rpS rpI)).Is h' (vs.getD i nV) (G i)):zAX h' vs G (i+1):=λu hu=>by
 rcases znu.1 hu with h1|rfl
 · exact(r u h1).mono hh
 · exact s
theorem lQ.up{α:Type}{ρ:Rp α}{E:Nat}{h h':Mem}{vs:List Value}{xs:List (List α)}{R:List Res}(r:lQ E ρ h vs xs R)(hm:MLe h h':=by exact mle):lQ E ρ h' vs xs R:=r.mono hm
theorem zAX.up{h h':Mem}{vs:List Value}{G:Nat->List (List Int)}{i:Nat}(r:zAX h vs G i)(hm:MLe h h':=by exact mle):zAX h' vs G i:=r.mono hm
def fcS(f:Fc):Fc:=(opP f.1,(rvL f.2.1 f.2.1.length,f.2.2))
def flS(s:Sd):Sd:=(s.1,(s.2.1.map fcS,s.2.2))
theorem yGX{h:Mem}{π:Rp Pl}{F:List Fc}{vs:List Value}{cs:List Value}(r:RL (rpP π (rpP rpV uP)) h cs (flZ F vs F.length))(s:zAX h vs (λu=>rvL (F.getD u zA).2.1 (F.getD u zA).2.1.length) F.length):RL (rpP π (rpP (rpS (rpS rpI)) uP)) h cs (F.map fcS):=by
 refine zX6 r (by rw[eG,zde]) λu C=>?_;rw[eG] at C;have e:(F.map fcS).getD u zA=fcS (F.getD u zA):=by
  rw[zoa,zoa,zwi,zoc C];rfl
 rw[zAT C,e,zau C];exact⟨I,I,s u C⟩
end Bk
namespace Go.Proofs.YtboaboflnckgoaaGreat
open Bk Go Tryz
attribute [local irreducible] GL GC GQ W OpV
theorem zMF{w0:World}{h0:Mem}(hs:MLe h0 (mem w0)){vL:Value}{L:(List (List Int))}(rL:tII.Is h0 vL L)(hcd0:L.length<=100000)(hcd1:∀x,x∈L->x.length<=100000):
 Calls prog 108 #[vL] w0 (rA w0 h0 (λh r L_=>∃vF cs,rpV.Is h r vF/\L_=[.gs 32 1 vF (L).length cs]/\vF.oneCell'=true/\RL (rpS rpI) h cs (L))):=by
 refine cb1 20 vL func108 hs ?_;refine iD ?_;refine xK 32 1 ?_;have Z:=RL.nil (ρ:=rpS rpI) (h:=h0);refine gcL (ι:=Nat×List (List Int)×Value×List Value×Mem) (λ(i,D,C,G,mi)=>(MLe h0 mi/\(RL (rpS rpI) mi G D/\C.oneCell'=true/\i<=L.length/\D=L.take i),[(0,vL),(3,C),(4,vI ↑i)],[.gs 32 1 C D.length G],mi,L.length-i)) (0,[],(.slice none 0 0),[],h0) ?_ ?_
 · exact⟨mle,Z,I,by omega,I⟩
 rintro⟨i,D,C,G,mi⟩ ⟨ao,H,J,bb,hD⟩
 refine yW ?_;have be:=zM5 hcd1 i;have ba:D.length<=i:=by rw[hD,zei];omega
 refine gc9 (λak=>?_) λak=>?_
 ·
  refine go8 ?_;refine lX (xI [] i underlying81 fR rL) λaw aj=>(lX (xA fR aj) λav ai=>(zDE 3 1 ?_));have U:=RL.nil (ρ:=rpI) (h:=mi);refine xU (A:=[]) (uN (yB (ρ:=rpI) (bytes:=8) underlying32 jV I I I I nP I I U ai bO bO)) I I I ?_
  rintro au az ⟨an,aq,rfl,ac⟩
  refine zX (A:=[]) (ρ:=rpI) ac ?_;intro h1 bd O;refine zH (zN (ρ:=(rpS rpI)) (m:=1) (xs:=[(([]:List Int)++(L.getD i []))]) (ps':=[(0,_)]) underlying81 jH I I I wD e2z (zC I (y3e (y3u _) [] 0 dC) O zQ) zoj nP) I I I ?_
  rintro ar ay ⟨ap,rfl,ab⟩
  refine zX (A:=[]) (ρ:=(rpS rpI)) ab ?_;intro h2 bc M;refine xU (A:=[]) (uN (yB (ρ:=(rpS rpI)) (bytes:=24) underlying81 jH I I I I nP I I H.up M bO bO)) I I I ?_
  rintro ah ax ⟨ad,ae,rfl,aa⟩
  refine go9 ?_;refine gqL ((i+1),(D++[(([]:List Int)++(L.getD i []))]),ah,ae,h2) ?_ ?_
  · exact⟨mle,aa,ad,by omega,by rw[hD,zge];exact(zHV [] oM).symm⟩
  omega
 have ei:i=L.length:=by omega
 have am:D=L:=by rw[hD,ei,zue]
 refine jF ?_;rw[<-am];refine kX (.cons_cons _ (zru _)) (λE S=>zS I (qQ I) E S) ?_;exact⟨_,_,dF J,I,J,H.up⟩
set_option maxHeartbeats 1000000 in
theorem zIL{w0:World}{h0:Mem}(hs:MLe h0 (mem w0)){k m n j:Nat}{vs:Value}{s:Sq}(rs:(tSd k m n j).Is h0 vs s)(hcd0:okS s)(hcd1:1<=m)(hcd2:1<=n):
 Calls prog 62 #[vs] w0 (rA w0 h0 (λh r L_=>∃vP csP vF csF vs R,(rpP rpV (rpP rpV (rpS (rpP rpI (rpP rpI (rpQ j)))))).Is h r (vP,(vF,s.2.2))/\L_=.gs 53 9 vP s.1.length csP::.gs 83 14 vF (fvZ s.2.1 vs vs.length).length csF::R/\(vP.oneCell'=true/\vF.oneCell'=true/\vs.length=s.2.1.length)/\RL (tPt k) h csP s.1/\RL (rpP (tPl m n) (rpP rpV uP)) h csF (fvZ s.2.1 vs vs.length)/\lQ 32 (rpS rpI) h vs (lpS s.2.1) R)):=by
 have dn:=hcd0.1.1.1;have dm:=hcd0.1.1.2;have dl:=hcd0.1.2;refine cb1 36 vs func62 hs ?_;refine go2 ?_;refine nB rs λb1 ck ai=>(nA (ρ:=(rpP rpV (rpP rpV (rpS (rpP rpI (rpP rpI (rpQ j))))))) (X:=((Value.slice none 0 0),((Value.slice none 0 0),[]))) qC (yF fG (yF fG wD)) λb2 cj br=>(go3 ?_));refine zK 8 _ [(7,(3,50,[.slice none 0 0,.slice none 0 0,.slice none 0 0]))] [(0,.q),(1,.q),(3,.q),(4,.q),(2,.c),(5,.c),(6,.c),(7,.a),(8,.t)] yA (jT.cons I I (uX qC I I) jT.nil) zot (qA I I kO) (λr hr=>hr) (go1 ?_);refine wX I (xB qD (y4i pH) ai) λv7 r7=>(go1 ?_);refine wX I (xB yDT (y4u (y4u pH)) ai) λdf cb=>?_;refine w_c I (iN 53 9 ?_);have bd:=RL.nil (ρ:=rpT (rpQ k)) (h:=h0);refine gV (A:=[]) (λX=>uN (yB (ρ:=(tPt k)) (bytes:=168) underlying46 yO I I I I nP I I bd r7 bO bO)) I (wA zox) ?_
 rintro v8 q8 ⟨bh,ci,rfl,bo⟩
 refine w_c I (iN 233 5 ?_);have bc:=RL.nil (ρ:=rpP rpI (rpP rpI (rpQ j))) (h:=h0);refine gV (A:=[]) (λX=>uN (yB (ρ:=(rpP rpI (rpP rpI (rpQ j)))) (bytes:=72) underlying48 zRS I I I I nP I I bc cb bO bO)) I (wA zox) ?_
 rintro de dk ⟨cm,cp,rfl,bf⟩
 refine w_c I (xT (A:=[]) (ρ:=(rpP rpI (rpP rpI (rpQ j)))) bf dK ?_);intro h1 dp az;refine sX (xV (ρ:=(rpP rpV (rpP rpV (rpS (rpP rpI (rpP rpI (rpQ j))))))) (xE (ps':=[(0,_),(2,_)]) underlying50 qC I I (sN underlying50) e4z I (yF fG (yF fG wD)) (zC I (y4i (y3u _)) (dF bh) (zC I (y4u (y4u (y3u _))) az zQ)))) λdd ca=>?_;refine w_a I I (λb3=>?_);have bq:(rpP rpV (rpP rpV (rpS (rpP rpI (rpP rpI (rpQ j)))))).R h1 [.slice none 0 0,.slice none 0 0,.slice none 0 0] ((Value.slice none 0 0),((Value.slice none 0 0),[])):=(yF fG (yF fG wD));refine yG (A:=[]) I (uB sizeOf50 pH bq ca) λbl bg=>(go9 ?_);refine xK 83 14 ?_;have bb:=RL.nil (ρ:=rpP (tPl m n) (rpP rpV uP)) (h:=h1);refine gcL (ι:=Nat×List Value×List Res×List Value×Value×List Value×Value×List Value×Mem) (λ(f,us,R,ad,G,D,M,J,ma)=>(MLe h1 ma/\((rpP rpV (rpP rpV (rpS (rpP rpI (rpP rpI (rpQ j)))))).R ma ad (G,(M,s.2.2))/\RL (tPt k) ma D s.1/\G.oneCell'=true/\RL (rpP (tPl m n) (rpP rpV uP)) ma J (fvZ s.2.1 us f)/\M.oneCell'=true/\f<=s.2.1.length/\us.length=f/\lQ 32 (rpS rpI) ma us ((lpS s.2.1).take f) R),[(1,vP b1 0),(2,vP b2 0),(3,vP b3 0),(4,vI ↑f)],(.gs 83 14 M (fvZ s.2.1 us f).length J::.var b3 50 ad::.gs 53 9 G s.1.length D::.var b2 50 cj::.var b1 50 ck::R),ma,s.2.1.length-f)) (0,[],([]:List Res),bl,v8,ci,(.slice none 0 0),[],h1) ?_ ?_
 · exact⟨mle,bg,bo.up,bh,bb,I,by omega,I,I⟩
 rintro⟨f,us,R,ad,G,D,M,J,ma⟩ ⟨cn,H,Z,ac,U,aw,dr,ak,bk⟩
 refine yW ?_;have dq:(fvZ s.2.1 us f).length=f:=xZ _ _;refine go5 ?_;refine lX (xB gG (y4u (y4i pH)) ai) λdc dh=>(gc4 (λbi=>?_) λbi=>?_)
 ·
  refine go7 ?_;refine lX (xB gG (y4u (y4i pH)) ai) λdb bz=>(go1 ?_);refine lX (xI zA f underlying47 sJ bz) λda bx=>(lX (xA sJ bx) λcz bw=>?_);obtain⟨ah,ay,ba⟩:=yJD bw;refine nA (ρ:=(rpP (tPl m n) (rpP rpV uP))) (X:=((zT,(0:Rat)),((Value.slice none 0 0),([]:List Nat)))) qJ (yF (yF (yS (yE oM)) (yE oM)) (yF fG kE)) λb5 dt bp=>(zU (A:=[]) (uB sizeOf83 pH bp ay) λch aa=>(go5 ?_));refine lX (fN (xB rQ (y4u (y4i pH)) aa)) λcy bv=>?_;subst bv;refine uH (vs:=[_]) I I I I call108 ⟨I,y3i⟩ (λw hs=>zMF hs ba (by first|omega|exact zci (hcd0.2.1 f oM).1 dC|(intro x hx;obtain⟨q,hq,rfl⟩:=zPS [] hx;exact zci ((hcd0.2.1 f oM).2 q hq) dC)) (by first|omega|exact zci (hcd0.2.1 f oM).1 dC|(intro x hx;obtain⟨q,hq,rfl⟩:=zPS [] hx;exact zci ((hcd0.2.1 f oM).2 q hq) dC))) ?_;intro cw h2 du ce av;obtain⟨C,ae,av,rfl,ab,O⟩:=av;obtain rfl:=yIO av
  change RL (rpS rpI) h2 ae ((s.2.1.getD f zA).2.1) at O
  refine go1 ?_;refine zU (A:=[_]) (uB sizeOf81 (y4u (y4i pH)) aa (dF ab)) λcg au=>(go4 ?_);refine lX (fN (xB gG (y4u (y4i pH)) H)) λcv bu=>?_;subst bu;refine lX (xB sJ pH au) λcu bt=>(zH (zN (ρ:=(rpP (tPl m n) (rpP rpV uP))) (m:=1) (xs:=[(((s.2.1.getD f zA).1,(ah,(s.2.1.getD f zA).2.2)).1,(C,(((s.2.1.getD f zA).1,(ah,(s.2.1.getD f zA).2.2)).2).2))]) (ps':=[(0,_)]) underlying47 qJ I I I (yF (yF (yS (yE oM)) (yE oM)) (yF fG kE)) e2z (zC I (y3e (y3u _) fv0 0 dC) bt zQ) zom nP) I I I ?_)
  rintro ct dj ⟨co,rfl,be⟩
  refine zX (A:=[]) (ρ:=(rpP (tPl m n) (rpP rpV uP))) be ?_;intro h3 cd ao;refine xU (A:=[_,_]) (uN (yB (ρ:=(rpP (tPl m n) (rpP rpV uP))) (bytes:=264) underlying47 qJ I I I I nP I I U.up ao bO bO)) I I I ?_
  rintro bn di ⟨an,bm,rfl,am⟩
  rw[show((fvZ s.2.1 us f)++[(((s.2.1.getD f zA).1,(ah,(s.2.1.getD f zA).2.2)).1,(C,(((s.2.1.getD f zA).1,(ah,(s.2.1.getD f zA).2.2)).2).2))])=(fvZ s.2.1 (us++[C]) (f+1)) by exact zX7 C ak] at am ⊢;refine go1 ?_;refine zU (A:=[_,_,_]) (uB sizeOf47 (y4u (y4i pH)) H (dF an)) λax ar=>(go4 ?_);refine zTZ (A:=[]) (B:=[_,_,_,_,_,_]) (R:=R) (go4 ?_);refine uR (A:=[]) ?_;refine gqL ((f+1),(us++[C]),(R++[.gs 32 1 C ((s.2.1.getD f zA).2.1).length ae]),ax,G,D,bn,bm,h3) ?_ ?_
  · exact⟨mle,ar,Z.up,ac,am,an,by omega,by rw[lAz,ak];rfl,by rw[zXN oM];exact(bk.mono (ce.trans cd)).snoc (by rw[ak,zei,zKK];omega) ab O.up⟩
  omega
 have ef:f=s.2.1.length:=by omega
 have cc:us.length=s.2.1.length:=by omega
 have bj:lQ 32 (rpS rpI) ma us (lpS s.2.1) R:=by rw[<-yBM s.2.1,<-ef];exact bk
 refine go7 ?_;refine lX (xB qP pH H) λcq bs=>(zU (A:=[_,_,_]) (uB sizeOf50 pH br bs) λcf aq=>(go3 ?_));subst ak;refine zX2 (A:=[_,_]) (xH (qK (t:=2) qP mh3 I aq) ?_);intro cl aj ap;refine kX (.cons_cons _ (.cons_cons _ (.cons _ (.cons _ (.cons _ (zme _)))))) (λE S=>zS I aj E S) ?_;exact⟨_,_,_,_,us,_,ap,I,⟨ac,aw,cc⟩,Z.up,U.up,bj⟩
end Go.Proofs.YtboaboflnckgoaaGreat
