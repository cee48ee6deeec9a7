/- Texts that the proof needs, part 6. -/
import Derived.Test.YtpkaegemlpaenaaGreatKH5
set_option linter.unusedVariables false
set_option linter.unusedSimpArgs false
noncomputable section
set_option maxRecDepth 10000
set_option maxHeartbeats 1000000
namespace Bk
open Classical
def iN{α:Type}(f:α->α)(d:α)(A:List α):Nat->List α
  |0=>A
  |k+1=>(iN f d A k).set k (f ((iN f d A k).getD k d))
theorem z5{α:Type}(f:α->α)(d:α)(A:List α):∀k,(iN f d A k).length=A.length
  |0=>rfl
  |k+1=>by
   show List.length (List.set _ _ _)=_
   rw[lS];exact z5 f d A k
theorem zF1{α:Type}(f:α->α)(d:α)(A:List α):∀k i,i<A.length->(iN f d A k).getD i d=if i<k then f (A.getD i d) else A.getD i d
  |0,i,_=>rfl
  |k+1,i,h=>by
   show(List.set _ k _).getD i d=_
   rw[zoa,y2i]
   split
   · rename_i e
     subst e;rw[zau (by rw[z5];exact h),zau zot,zF1 f d A k k h,zae zot];rfl
   · rename_i e
     rw[<-zoa,zF1 f d A k i h]
     by_cases h1:i<k
     · rw[zau h1,zau zot]
     · rw[zae h1,zae zot]
theorem yEE{α:Type}(f:α->α)(d:α)(A:List α):iN f d A A.length=A.map f:=by
 refine List.ext_getElem (by rw[z5,zde]) λi h1 h2=>?_;rw[z5] at h1;have:=zF1 f d A A.length i h1;rw[zau h1,zoa,zoc (by rw[z5];exact h1)] at this;rw[zoa,zoc h1] at this;rw[List.getElem_map];exact this
def rnN(n:List Nat):List Nat:=if n=[98,111,116,116,111,109] then[122,48] else if n=[116,111,112] then[122,49] else if n=[115,48,46,48] then[121,48] else if n=[115,48,46,49] then[120,49] else if n=[115,48,46,50] then[121,49] else if n=[115,48,46,51] then[120,48] else n
def rnF(f:Fc):Fc:=(f.1,(f.2.1,rnN f.2.2))
theorem zQH{F F0:List Fc}{i:Nat}{nm:List Nat}(hF:F=iN rnF zA F0 i)(h:rnN (F.getD i zA).2.2=nm):F.set i ((F.getD i zA).1,((F.getD i zA).2.1,nm))=iN rnF zA F0 (i+1):=by
 subst hF;subst h;rfl
theorem yMO{F F0:List Fc}{i:Nat}(hF:F=iN rnF zA F0 i)(h:rnN (F.getD i zA).2.2=(F.getD i zA).2.2)(hi:i<F.length):F=iN rnF zA F0 (i+1):=by
 rw[<-zQH hF h]
 show F=F.set i (F.getD i zA)
 rw[zoa,zoc hi];exact(List.set_getElem_self hi).symm
section
variable (a b:Pt)
def dX:Prop:=∀u,u<3->¬0<=xZ (a.at u) (b.at u)
def blL:List (List Pt):=[[T3.mk a.x a.y (0:Rat),T3.mk b.x a.y (0:Rat),T3.mk b.x b.y (0:Rat),T3.mk a.x b.y (0:Rat)]]
def blG:List Fc:=iN rnF zA (prF (blL a b) a.z b.z) (prF (blL a b) a.z b.z).length
def blS:Sd:=(prP (blL a b) a.z b.z,blG a b,[])
def blP:List Pt:=if dX a b then nrP (blS a b) else[]
def blF:List Fc:=if dX a b then nrF (blS a b) else[]
def blE:Int:=if dX a b then prE (blL a b) a.z b.z else 9
def blH:Prop:=(∀x,x∈blL a b->cA x)/\(prE (blL a b) a.z b.z=0->okS (prR (blL a b) a.z b.z))/\okS (blS a b)
end
theorem yFB{L:List (List Pt)}{lo hi:Rat}(h:prE L lo hi=0->okS (prR L lo hi)):(prF L lo hi).length<=1000:=by
 unfold prF
 split
 · rename_i h0
   unfold nrF
   split
   · rw[zRY];exact(h h0).1.1.2
   · exact zuu _
 · exact zuu _
theorem bl_9{a b:Pt}(h:¬dX a b):blE a b=9/\blP a b=[]/\blF a b=[]:=⟨zae h,zae h,zae h⟩
theorem yGT{a b:Pt}(h:dX a b):blE a b=prE (blL a b) a.z b.z/\blP a b=nrP (blS a b)/\blF a b=nrF (blS a b):=⟨zau h,zau h,zau h⟩
end Bk
namespace Go.Proofs.YtpkaegemlpaenaaGreat
open Bk Go Tryz
attribute [local irreducible] GL GC GQ W OpV
set_option maxHeartbeats 1000000 in
theorem zJ5{w0:World}{h0:Mem}(hs:MLe h0 (mem w0)){k l:Nat}{va:Value}{a:Tq}(ra:(tPt k).Is h0 va a){vb:Value}{b:Tq}(rb:(tPt l).Is h0 vb b)(H0:k<=5)(H1:l<=5)(H2:dX a b->blH a b):
 Calls prog 15 #[va,vb] w0 (tP w0 h0 (λh r L_=>∃u0 vF cs,r=.tuple #[u0,vI (blE a b)]/\(rpP (tLs (2*k+2*l+40)) (rpP rpV (rpS (rpP rpI (rpP rpI (rpQ 6)))))).Is h u0 (blP a b,(vF,[]))/\L_=[.gs 53 14 vF (blF a b).length cs]/\vF.oneCell'=true/\RL (tFc (10000*k+10000*l+20000) (10000*k+10000*l+20000)) h cs (blF a b))):=by
 refine cb2 102 va vb func15 hs ?_;refine go2 ?_;refine nB ra λb2 ck an=>(nB rb λb3 cj am=>(nA (ρ:=(rpP (tLs 1) (rpP rpV (rpS (rpP rpI (rpP rpI (rpQ 1))))))) (X:=([],((Value.slice none 0 0),[]))) qQ (yA wC (yA fD wC)) λb4 ci cd=>(uR ?_)));refine gcL (ι:=Nat×Mem) (λ(i,ma)=>(MLe h0 ma/\(i<=3/\∀u,u<i->¬0<=xZ (a.at u) (b.at u)),[(2,vP b2 0),(3,vP b3 0),(4,vP b4 0),(6,vI ↑i)],[.var b4 39 ci,.var b3 31 cj,.var b2 31 ck],ma,3-i)) (0,h0) ?_ ?_
 · exact⟨mle,zot,λu h=>by omega⟩
 rintro⟨i,ma⟩ ⟨dy,fj,hi2⟩
 refine yY ?_;refine gc7 (λch=>?_) λch=>?_
 ·
  refine go5 ?_;refine zJ 8 _ [] (zai 0 6 [(6,.c),(7,.q)]) zX nX zou nX (λr hr=>hr) (go1 ?_);refine wZ I (λ_ _=>(zW (sz:=3) i underlying31 sizeOf29 I I I oM).cv (show _=vP b2 ((i*3+0)) from zbi (vP b2) oM)) I (wX I (xB yC (Pc.ta pH i oM) an) λfe dp=>(go1 ?_));refine wZ I (λ_ _=>(zW (sz:=3) i underlying31 sizeOf29 I I I oM).cv (show _=vP b3 ((i*3+0)) from zbi (vP b3) oM)) I (wX I (xB yC (Pc.ta pH i oM) am) λfd dn=>?_);refine w_c I (sC (ev2 I I) call17 (λw hs=>tK hs dp dn oM) λcm h1 dr dm=>?_);obtain rfl:cm=vI (xZ (a.at i) (b.at i)):=dm;have dt:=jC (a.at i) (b.at i);refine gc3 (λar=>?_) λar=>?_
  ·
   refine go2 ?_;refine lX (xV (ρ:=(rpP (tLs 1) (rpP rpV (rpS (rpP rpI (rpP rpI (rpQ 1))))))) (xN (ps':=[]) underlying39 qQ I I (sM underlying39) trivial I (yA wC (yA fD wC)) zN)) λfc dl=>(zP (A:=[]) (uB sizeOf39 pH cd dl) λdz cc=>(go9 ?_));obtain⟨e1,e2,e3⟩:=bl_9 (a:=a) (b:=b) (λe=>e i oM ar);rw[e1,e2,e3];refine aT 53 14 ?_;have bz:=RL.nil (ρ:=rpP (tPl (10000*k+10000*l+20000) (10000*k+10000*l+20000)) (rpP tII qF)) (h:=h1);refine wG (jG (t:=4) jP mh1 I cc) ?_;intro ed bk bx;refine kV (.cons_cons _ (zse _)) (λE S=>qO I bk (gH I) E S) ?_;exact⟨_,_,_,I,(Rp.Is.le bx (Le.p (Le.s (Le.t (Le.q (l:=2*k+2*l+40) oM))) (Le.p (Le.refl _) (Le.s (Le.p (Le.refl _) (Le.p (Le.refl _) (Le.q (l:=6) dC))))))),I,I,bz⟩
  refine go8 ?_;refine gqL ((i+1),h1) ?_ ?_
  · exact⟨mle,zot,vZ (Q:=λu=>¬0<=xZ (a.at u) (b.at u)) hi2 ar⟩
  omega
 have ce:dX a b:=λu hu=>hi2 u oM;have ao:=H2 ce;have fo:=yFB ao.2.1;refine go8 ?_;refine lX (xB yC (y6e pH) an) λfb dk=>(go1 ?_);refine lX (xB yC (y7i pH) an) λfa dj=>(lX (xV (ρ:=(tPt (k+1))) (xS (ps':=[(0,_),(1,_)]) underlying31 yK I I sizeOf29 e4z I (yR (yE oM)) (zD I (y6e (y5u _)) (dk.le (Le.q (l:=k+1) oM)) (zD I (y7i (y5u _)) (dj.le (Le.q (l:=k+1) oM)) zN)))) λez di=>(go1 ?_));refine lX (xB yC (y6e pH) am) λey dh=>(go1 ?_);refine lX (xB yC (y7i pH) an) λew df=>(lX (xV (ρ:=(tPt (k+l+1))) (xS (ps':=[(0,_),(1,_)]) underlying31 yK I I sizeOf29 e4z I (yR (yE oM)) (zD I (y6e (y5u _)) (dh.le (Le.q (l:=k+l+1) oM)) (zD I (y7i (y5u _)) (df.le (Le.q (l:=k+l+1) oM)) zN)))) λev de=>(go1 ?_));refine lX (xB yC (y6e pH) am) λeu dd=>(go1 ?_);refine lX (xB yC (y7i pH) am) λes dc=>(lX (xV (ρ:=(tPt (l+1))) (xS (ps':=[(0,_),(1,_)]) underlying31 yK I I sizeOf29 e4z I (yR (yE oM)) (zD I (y6e (y5u _)) (dd.le (Le.q (l:=l+1) oM)) (zD I (y7i (y5u _)) (dc.le (Le.q (l:=l+1) oM)) zN)))) λer db=>(go1 ?_));refine lX (xB yC (y6e pH) an) λeq da=>(go1 ?_);refine lX (xB yC (y7i pH) am) λep cz=>(lX (xV (ρ:=(tPt (k+l+1))) (xS (ps':=[(0,_),(1,_)]) underlying31 yK I I sizeOf29 e4z I (yR (yE oM)) (zD I (y6e (y5u _)) (da.le (Le.q (l:=k+l+1) oM)) (zD I (y7i (y5u _)) (cz.le (Le.q (l:=k+l+1) oM)) zN)))) λeo cy=>(zG (zL (ρ:=(tPt (k+l+1))) (m:=4) (xs:=[(zZ a),(T3.mk b.x a.y (0:Rat)),(zZ b),(T3.mk a.x b.y (0:Rat))]) (ps':=[(0,_),(1,_),(2,_),(3,_)]) underlying35 yK I I I (yR (yE oM)) e8 (zD I (y5e (y5u _) zT 0 dC) (di.le (Le.t (Le.q (l:=k+l+1) oM))) (zD I (y5e (y5u _) zT 1 dC) de (zD I (y5e (y5u _) zT 2 dC) (db.le (Le.t (Le.q (l:=k+l+1) oM))) (zD I (y5e (y5u _) zT 3 dC) cy zN)))) (show 4*9<=16777216 from by decide) nP) I I I ?_))
 rintro en fh ⟨eb,rfl,cb⟩
 refine zQ (A:=[]) (ρ:=(tPt (k+l+1))) cb ?_;intro h1 dr bw;refine zG (zL (ρ:=(tLs (k+l+1))) (m:=1) (xs:=[[(zZ a),(T3.mk b.x a.y (0:Rat)),(zZ b),(T3.mk a.x b.y (0:Rat))]]) (ps':=[(0,_)]) underlying76 aI I I I wC e2z (zD I (y5e (y5u _) [] 0 dC) bw zN) zoj nP) I I I ?_
 rintro em fg ⟨ea,rfl,ca⟩
 refine go1 ?_;refine lX (xB yC (y7u pH) an) λel cw=>(go1 ?_);refine lX (xB yC (y7u pH) am) λek cu=>(zQ (A:=[]) (ρ:=(tLs (k+l+1))) ca ?_);intro h2 fm bv;refine uY (vs:=[_,_,_]) I I I I call46 e3z (λw hs=>zJ1 hs bv cw.up cu.up oM oM oM (by first|omega|exact ao.1|exact ao.2.1) (by first|omega|exact ao.1|exact ao.2.1)) ?_;intro ej h3 fr fl ap;obtain⟨ff,bu,av,rfl,ap,rfl,cf,ae⟩:=ap
 change RL (tFc (1000*(k+l+1)+1000*k+1000*l+2000) (1000*(k+l+1)+1000*k+1000*l+2000)) h3 av (prF [[(zZ a),(T3.mk b.x a.y (0:Rat)),(zZ b),(T3.mk a.x b.y (0:Rat))]] a.z b.z) at ae
 replace ap:=Rp.Is.le ap (Le.p (Le.s (Le.t (Le.q (l:=2*k+2*l+21) oM))) (Le.refl _));replace ae:=(Le.p (Le.p (Le.t (Le.q (l:=2000*k+2000*l+3000) oM)) (Le.q (l:=2000*k+2000*l+3000) oM)) (Le.refl _)).rl ae;refine go3 ?_;refine nA (ρ:=(rpP (tLs 1) (rpP rpV (rpS (rpP rpI (rpP rpI (rpQ 1))))))) (X:=([],((Value.slice none 0 0),[]))) qQ (yA wC (yA fD wC)) λb7 fq cn=>?_;have ax:=(Le.p (Le.s (Le.t (Le.q (l:=2*k+2*l+21) oM))) (Le.p (Le.refl _) (Le.s (Le.p (Le.refl _) (Le.p (Le.refl _) (Le.q (l:=5) dC)))))).R cn;refine zP (A:=[]) (uB sizeOf39 pH ax ap) λbt bj=>(uR ?_);refine gcL (ι:=Nat×List Fc×List Value×Value×List Value×Mem) (λ(i,M,J,C,ah,mb)=>(MLe h3 mb/\((rpP (tLs (2*k+2*l+30)) (rpP rpV (rpS (rpP rpI (rpP rpI (rpQ 5)))))).R mb J (prP (blL a b) a.z b.z,(C,([]:List En)))/\RL (tFc (2000*k+2000*l+3000) (2000*k+2000*l+3000)) mb ah M/\C.oneCell'=true/\i<=(prF (blL a b) a.z b.z).length/\M=iN rnF zA (prF (blL a b) a.z b.z) i),[(4,vP b4 0),(7,vP b7 0),(8,vI (prE [[(zZ a),(T3.mk b.x a.y (0:Rat)),(zZ b),(T3.mk a.x b.y (0:Rat))]] a.z b.z)),(9,vI ↑i)],[.var b7 39 J,.gs 53 14 C M.length ah,.var b4 39 ci,.var b3 31 cj,.var b2 31 ck],mb,(prF (blL a b) a.z b.z).length-i)) (0,(prF (blL a b) a.z b.z),bt,bu,av,h3) ?_ ?_
 · exact⟨mle,((Le.p (Le.s (Le.t (Le.q (l:=2*k+2*l+30) oM))) (Le.refl _)).R bj),ae,cf,zot,I⟩
 rintro⟨i,M,J,C,ah,mb⟩ ⟨dx,H,D,O,fi,aa⟩
 refine yY ?_;have fp:M.length=(prF (blL a b) a.z b.z).length:=by rw[aa];exact z5 _ _ _ _
 refine go5 ?_;refine lX (sN (xB fN (y6u (y6i pH)) H)) λeh ct=>?_;subst ct;refine gv (jO mh1 underlying36 I) I (gc3 (λcg=>?_) λcg=>?_)
 ·
  refine go7 ?_;refine lX (sN (xB fN (y6u (y6i pH)) H)) λeg cq=>?_;subst cq;refine go1 ?_;refine gv ((yZ i mh1 underlying36 sizeOf53 I I I bO nP).cv (show _=zI 1 C ((i*14+0)) from zbi (zI 1 C) zo5)) I (go6 ?_);refine gv (kT (y5e (y5u _) zA i bO) I nP D mh1 I) I (gv ((qX (y5e (y5u _) zA i bO) I nP D mh1 underlying53 I sizeOf9 I).cv (show _=zI 1 C ((i*14+13)) from zbi (zI 1 C) (by show(i*14+0)+13=(i*14+13);omega))) I (zI5 (F:=λv_=>qF.Is mb v_ (((M.getD i zA).2).2)) (wO ty9 (y5e (y6u (y6u (y5u _))) zA i bO) I nP I D I) (tM mh1) I ?_));intro ef cp;obtain⟨rfl,ac⟩:=kU cp;refine go5 ?_;refine gv (mU (pa:=(((M.getD i zA).2).2)) (pb:=([98,111,116,116,111,109]:List Nat)) ac (show ByB [98,111,116,116,111,109] by unfold ByB;decide) I I) I (gc3 (λU=>?_) λU=>?_)
  ·
   refine go2 ?_;refine gv (kT (y5e (y5u _) zA i bO) I nP D mh1 I) I (gv ((qX (y5e (y5u _) zA i bO) I nP D mh1 underlying53 I sizeOf9 I).cv (show _=zI 1 C ((i*14+13)) from zbi (zI 1 C) (by show(i*14+0)+13=(i*14+13);omega))) I (fW (A:=[_]) (F:=λc_=>RL (tFc (2000*k+2000*l+3000) (2000*k+2000*l+3000)) mb c_ (M.set i ((M.getD i zA).1,(((M.getD i zA).2).1,([122,48]:List Nat))))) (rI sizeOf9 (y5e (y6u (y6u (y5u _))) zA i bO) I nP I I D (bK (show ByB [122,48] by unfold ByB;decide)) I) ?_));intro bs bf;refine go9 ?_;refine gqL ((i+1),(M.set i ((M.getD i zA).1,(((M.getD i zA).2).1,([122,48]:List Nat)))),J,C,bs,mb) ?_ ?_
   · exact⟨mle,H,bf,O,zot,zQH aa (by unfold rnN;rw[zau U])⟩
   omega
  refine go2 ?_;refine gv (mU (pa:=(((M.getD i zA).2).2)) (pb:=([116,111,112]:List Nat)) ac (show ByB [116,111,112] by unfold ByB;decide) I I) I (gc3 (λZ=>?_) λZ=>?_)
  ·
   refine go2 ?_;refine gv (kT (y5e (y5u _) zA i bO) I nP D mh1 I) I (gv ((qX (y5e (y5u _) zA i bO) I nP D mh1 underlying53 I sizeOf9 I).cv (show _=zI 1 C ((i*14+13)) from zbi (zI 1 C) (by show(i*14+0)+13=(i*14+13);omega))) I (fW (A:=[_]) (F:=λc_=>RL (tFc (2000*k+2000*l+3000) (2000*k+2000*l+3000)) mb c_ (M.set i ((M.getD i zA).1,(((M.getD i zA).2).1,([122,49]:List Nat))))) (rI sizeOf9 (y5e (y6u (y6u (y5u _))) zA i bO) I nP I I D (bK (show ByB [122,49] by unfold ByB;decide)) I) ?_));intro br be;refine go9 ?_;refine gqL ((i+1),(M.set i ((M.getD i zA).1,(((M.getD i zA).2).1,([122,49]:List Nat)))),J,C,br,mb) ?_ ?_
   · exact⟨mle,H,be,O,zot,zQH aa (by unfold rnN;rw[zae U,zau Z])⟩
   omega
  refine go2 ?_;refine gv (mU (pa:=(((M.getD i zA).2).2)) (pb:=([115,48,46,48]:List Nat)) ac (show ByB [115,48,46,48] by unfold ByB;decide) I I) I (gc3 (λab=>?_) λab=>?_)
  ·
   refine go2 ?_;refine gv (kT (y5e (y5u _) zA i bO) I nP D mh1 I) I (gv ((qX (y5e (y5u _) zA i bO) I nP D mh1 underlying53 I sizeOf9 I).cv (show _=zI 1 C ((i*14+13)) from zbi (zI 1 C) (by show(i*14+0)+13=(i*14+13);omega))) I (fW (A:=[_]) (F:=λc_=>RL (tFc (2000*k+2000*l+3000) (2000*k+2000*l+3000)) mb c_ (M.set i ((M.getD i zA).1,(((M.getD i zA).2).1,([121,48]:List Nat))))) (rI sizeOf9 (y5e (y6u (y6u (y5u _))) zA i bO) I nP I I D (bK (show ByB [121,48] by unfold ByB;decide)) I) ?_));intro bq bd;refine go9 ?_;refine gqL ((i+1),(M.set i ((M.getD i zA).1,(((M.getD i zA).2).1,([121,48]:List Nat)))),J,C,bq,mb) ?_ ?_
   · exact⟨mle,H,bd,O,zot,zQH aa (by unfold rnN;rw[zae U,zae Z,zau ab])⟩
   omega
  refine go2 ?_;refine gv (mU (pa:=(((M.getD i zA).2).2)) (pb:=([115,48,46,49]:List Nat)) ac (show ByB [115,48,46,49] by unfold ByB;decide) I I) I (gc3 (λaj=>?_) λaj=>?_)
  ·
   refine go2 ?_;refine gv (kT (y5e (y5u _) zA i bO) I nP D mh1 I) I (gv ((qX (y5e (y5u _) zA i bO) I nP D mh1 underlying53 I sizeOf9 I).cv (show _=zI 1 C ((i*14+13)) from zbi (zI 1 C) (by show(i*14+0)+13=(i*14+13);omega))) I (fW (A:=[_]) (F:=λc_=>RL (tFc (2000*k+2000*l+3000) (2000*k+2000*l+3000)) mb c_ (M.set i ((M.getD i zA).1,(((M.getD i zA).2).1,([120,49]:List Nat))))) (rI sizeOf9 (y5e (y6u (y6u (y5u _))) zA i bO) I nP I I D (bK (show ByB [120,49] by unfold ByB;decide)) I) ?_));intro bp bc;refine go9 ?_;refine gqL ((i+1),(M.set i ((M.getD i zA).1,(((M.getD i zA).2).1,([120,49]:List Nat)))),J,C,bp,mb) ?_ ?_
   · exact⟨mle,H,bc,O,zot,zQH aa (by unfold rnN;rw[zae U,zae Z,zae ab,zau aj])⟩
   omega
  refine go2 ?_;refine gv (mU (pa:=(((M.getD i zA).2).2)) (pb:=([115,48,46,50]:List Nat)) ac (show ByB [115,48,46,50] by unfold ByB;decide) I I) I (gc3 (λak=>?_) λak=>?_)
  ·
   refine go2 ?_;refine gv (kT (y5e (y5u _) zA i bO) I nP D mh1 I) I (gv ((qX (y5e (y5u _) zA i bO) I nP D mh1 underlying53 I sizeOf9 I).cv (show _=zI 1 C ((i*14+13)) from zbi (zI 1 C) (by show(i*14+0)+13=(i*14+13);omega))) I (fW (A:=[_]) (F:=λc_=>RL (tFc (2000*k+2000*l+3000) (2000*k+2000*l+3000)) mb c_ (M.set i ((M.getD i zA).1,(((M.getD i zA).2).1,([121,49]:List Nat))))) (rI sizeOf9 (y5e (y6u (y6u (y5u _))) zA i bO) I nP I I D (bK (show ByB [121,49] by unfold ByB;decide)) I) ?_));intro bo bb;refine go9 ?_;refine gqL ((i+1),(M.set i ((M.getD i zA).1,(((M.getD i zA).2).1,([121,49]:List Nat)))),J,C,bo,mb) ?_ ?_
   · exact⟨mle,H,bb,O,zot,zQH aa (by unfold rnN;rw[zae U,zae Z,zae ab,zae aj,zau ak])⟩
   omega
  refine go2 ?_;refine gv (mU (pa:=(((M.getD i zA).2).2)) (pb:=([115,48,46,51]:List Nat)) ac (show ByB [115,48,46,51] by unfold ByB;decide) I I) I (gc3 (λaq=>?_) λaq=>?_)
  ·
   refine go2 ?_;refine gv (kT (y5e (y5u _) zA i bO) I nP D mh1 I) I (gv ((qX (y5e (y5u _) zA i bO) I nP D mh1 underlying53 I sizeOf9 I).cv (show _=zI 1 C ((i*14+13)) from zbi (zI 1 C) (by show(i*14+0)+13=(i*14+13);omega))) I (fW (A:=[_]) (F:=λc_=>RL (tFc (2000*k+2000*l+3000) (2000*k+2000*l+3000)) mb c_ (M.set i ((M.getD i zA).1,(((M.getD i zA).2).1,([120,48]:List Nat))))) (rI sizeOf9 (y5e (y6u (y6u (y5u _))) zA i bO) I nP I I D (bK (show ByB [120,48] by unfold ByB;decide)) I) ?_));intro bn ba;refine go9 ?_;refine gqL ((i+1),(M.set i ((M.getD i zA).1,(((M.getD i zA).2).1,([120,48]:List Nat)))),J,C,bn,mb) ?_ ?_
   · exact⟨mle,H,ba,O,zot,zQH aa (by unfold rnN;rw[zae U,zae Z,zae ab,zae aj,zae ak,zau aq])⟩
   omega
  refine go9 ?_;refine gqL ((i+1),M,J,C,ah,mb) ?_ ?_
  · exact⟨mle,H,D,O,zot,yMO aa (by unfold rnN;rw[zae U,zae Z,zae ab,zae aj,zae ak,zae aq]) oM⟩
  omega
 have ei:i=(prF (blL a b) a.z b.z).length:=by omega
 rw[ei] at aa;refine go7 ?_;refine zQ (A:=[_]) (ρ:=(tFc (2000*k+2000*l+3000) (2000*k+2000*l+3000))) D ?_;intro h4 dq ay;replace H:=H.mono dq;have bi:(tSd (2*k+2*l+30) (2000*k+2000*l+3000) (2000*k+2000*l+3000) 5).R h4 J ((prP (blL a b) a.z b.z,(C,([]:List En))).1,(M,((prP (blL a b) a.z b.z,(C,([]:List En))).2).2)):=zFZ H ay;have bh:(tSd (2*k+2*l+30) (2000*k+2000*l+3000) (2000*k+2000*l+3000) 5).R h4 J (blS a b):=Rp.castR bi (by rw[aa];rfl);refine lX (xB jP pH bh) λee co=>?_;refine uY (vs:=[_]) I I I I call47 ⟨I,y5i⟩ (λw hs=>zAM hs co oM oM oM (by first|omega|exact ao.2.2)) ?_;intro dw h5 ec fk ai;obtain⟨cl,bm,ai,rfl,bl,ad⟩:=ai
 change RL (tFc (4*(2000*k+2000*l+3000)+12) ((2000*k+2000*l+3000)+(2000*k+2000*l+3000)+12)) h5 bm (nrF (blS a b)) at ad
 replace ai:=Rp.Is.le ai (Le.p (Le.s (Le.t (Le.q (l:=2*k+2*l+31) oM))) (Le.p (Le.refl _) (Le.s (Le.p (Le.refl _) (Le.p (Le.refl _) (Le.q (l:=6) oM))))));replace ad:=(Le.p (Le.p (Le.t (Le.q (l:=8000*k+8000*l+12012) oM)) (Le.q (l:=4000*k+4000*l+6012) oM)) (Le.refl _)).rl ad;refine go1 ?_;have aw:=(Le.p (Le.s (Le.t (Le.q (l:=2*k+2*l+31) oM))) (Le.p (Le.refl _) (Le.s (Le.p (Le.refl _) (Le.p (Le.refl _) (Le.q (l:=6) dC)))))).R cd;refine zP (A:=[_,_]) (uB sizeOf39 pH aw ai) λdu bg=>(go4 ?_);obtain⟨e1,e2,e3⟩:=yGT ce;rw[e1,e2,e3];refine wG (jG (t:=4) jP mh2 I bg) ?_;intro dv au az;refine kV (.cons_cons _ (zse _)) (λE S=>qO I au (gH I) E S) ?_;exact⟨_,_,_,I,(Rp.Is.cast (Rp.Is.le az (Le.p (Le.s (Le.t (Le.q (l:=2*k+2*l+40) oM))) (Le.refl _))) (by rw[show nrE (blS a b)=[] from by unfold nrE;split<;>rfl])),I,bl,((Le.p (Le.p (Le.t (Le.q (l:=10000*k+10000*l+20000) oM)) (Le.q (l:=10000*k+10000*l+20000) oM)) (Le.refl _)).rl ad)⟩
end Go.Proofs.YtpkaegemlpaenaaGreat
namespace Bk
open Classical
def ag(x p y q:Rat)(u:PI):P2:=(x+p*(u.1:Rat),y+q*(u.2:Rat))
theorem zKR{x p:Rat}{u v:Int}(hp:0<p):x+p*(u:Rat)<x+p*(v:Rat)↔u<v:=by
 constructor
 · intro h
   refine ywi.1 λe=>?_;have h1:(v:Rat)<=(u:Rat):=Rat.intCast_le_intCast.2 e;have h2:=yki h1 (zee hp);grind
 · intro h
   have h1:(u:Rat)<(v:Rat):=z1u.2 h;have h2:=Rat.mul_lt_mul_of_pos_left h1 hp;grind
theorem zSX{x p:Rat}{u v:Int}(hp:0<p):x+p*(u:Rat)=x+p*(v:Rat)↔u=v:=by
 constructor
 · intro h
   rcases Int.lt_trichotomy u v with h1|h1|h1
   · have:=(zKR (x:=x) hp).2 h1;grind
   · exact h1
   · have:=(zKR (x:=x) hp).2 h1;grind
 · rintro rfl;rfl
variable {x p y q:Rat}
theorem yH3(u v w:PI):cr (ag x p y q u) (ag x p y q v) (ag x p y q w)=p*q*((crI u v w:Int):Rat):=by
 unfold cr ag crI;simp only[zru,zji];grind
theorem uD(hp:0<p)(hq:0<q):0<p*q:=by
 have:=Rat.mul_lt_mul_of_pos_left hq hp;grind
theorem yDZ(hp:0<p)(hq:0<q)(u v w:PI):orZ (ag x p y q u) (ag x p y q v) (ag x p y q w)=orI u v w:=by
 unfold orZ orI;rw[yH3,iS (uD hp hq),mH]
 rfl
theorem yH1(hp:0<p)(hq:0<q)(u v:PI):lx (ag x p y q u) (ag x p y q v)↔lxI u v=true:=by
 unfold lx lxI;rw[zfe];unfold ag;simp only[zKR hp,zKR hq,zSX hp]
theorem yH2(hp:0<p)(hq:0<q)(u v:PI):ag x p y q u=ag x p y q v↔u=v:=by
 obtain⟨D,C⟩:=u;obtain⟨v1,v2⟩:=v;unfold ag;rw[Prod.mk.injEq,Prod.mk.injEq,zSX hp,zSX hq]
theorem yH4{a b c d:Int}(hp:0<p):kK (x+p*(a:Rat)) (x+p*(b:Rat)) (x+p*(c:Rat)) (x+p*(d:Rat))↔apI a b c d=true:=by
 unfold kK apI;rw[zfe];simp only[zKR hp]
theorem yD1{c:Prop} [Decidable c](u v:PI):(if c then ag x p y q u else ag x p y q v)=ag x p y q (if c then u else v):=by split<;>rfl
theorem yOM(hp:0<p)(hq:0<q)(a b c d:PI):iA (ag x p y q a) (ag x p y q b) (ag x p y q c) (ag x p y q d)=alS a b c d:=by
 unfold iA alS;simp only[yH1 hp hq,yD1,yH2 hp hq]
theorem zP7(hp:0<p)(hq:0<q)(a b c d:PI):tE (ag x p y q a) (ag x p y q b) (ag x p y q c) (ag x p y q d)=toI a b c d:=by
 have D:kK (ag x p y q a).1 (ag x p y q b).1 (ag x p y q c).1 (ag x p y q d).1↔apI a.1 b.1 c.1 d.1=true:=yH4 hp;have C:kK (ag x p y q a).2 (ag x p y q b).2 (ag x p y q c).2 (ag x p y q d).2↔apI a.2 b.2 c.2 d.2=true:=yH4 hq;unfold tE toI lP alI lo2 hi2;simp only[yDZ hp hq,D,C,yH1 hp hq,yD1,yOM hp hq]
def gI(s:List PI)(m:Nat):PI:=s.getD m (0,0)
def zVK(s:List PI):Bool:=decide (3<=s.length)&&(List.range s.length).all λb=>(List.range b).all λa=>!decide (gI s a=gI s b)&&decide (toI (gI s a) (gI s ((a+1)%s.length)) (gI s b) (gI s ((b+1)%s.length))=waI s.length a b)
theorem zGL(hp:0<p)(hq:0<q){l:List Pt}{s:List PI}(hl:l.length=s.length)(h:∀m,m<s.length->pr (gp l m) 0 1=ag x p y q (gI s m))(hb:zVK s=true):aJ l 0 1:=by
 unfold zVK at hb;rw[zbu,zfe,zob] at hb;obtain⟨h3,hb⟩:=hb;have g:∀a b,a<b->b<s.length->¬gI s a=gI s b/\toI (gI s a) (gI s ((a+1)%s.length)) (gI s b) (gI s ((b+1)%s.length))=waI s.length a b:=λa b C D=>by
  have h1:=zob.1 (hb b (zog.2 D)) a (zog.2 C);rw[zbu,zje,zgu,zfe] at h1;exact h1
 refine⟨zot,λa b ha C H=>?_,λa b ha C H=>?_⟩
 · show ¬pr (gp l a) 0 1=pr (gp l b) 0 1
   rw[h a zot,h b zot,yH2 hp hq];exact(g a b C zot).1
 · show tE (vV l 0 1 a) (vT l 0 1 a) (vV l 0 1 b) (vT l 0 1 b)=zJE l.length a b
   unfold vV vT;rw[hl,h a zot,h b zot,h _ (zcu _ zot),h _ (zcu _ zot),zP7 hp hq];exact(g a b C zot).2
theorem zHD{P:List Pt}(hs:aJ P 0 1)(hl:P.length<=64)(ha:0<yQ (arZ P 0 1)):uC [P] 0 1=0:=by
 have D:∀m,m<[P].length->gl [P] m=P:=λm C=>by
  rw[show m=0 by rw[zke] at C;omega];rfl
 unfold uC;rw[zae (λe=>by
  rcases e with e|⟨m,C,e⟩
  · rw[zke] at e;omega
  · rw[D m C] at e;omega),zae (λe=>by
  obtain⟨m,C,e⟩:=e;rw[D m C] at e;exact e hs),zae (λe=>by
  obtain⟨a,b,J,H,_⟩:=e;rw[zke] at H;omega),zae (λe=>by
  rcases e with⟨k,hk,e⟩|⟨a,b,ha',hb',e⟩
  · rw[iF,D k hk] at e;exact e.1 ha
  · rw[zke] at ha' hb'
    exact e.1.1.1 zot)]
theorem zUE{B:List Pt}{p:Pt}:∀j,(∀i,i<j->¬zK0 (B.getD i zT) p)->j7 B p j= -1
  |0,_=>rfl
  |j+1,h=>by
   rw[<-yLL (h j zot)];exact zUE j λi hi=>h i zot
theorem yMJ{B:List Pt}{p:Pt}(h:∀i,i<B.length->¬zK0 (B.getD i zT) p):adB B p=B++[p]/\adN B p=(B.length:Int):=by
 have h1:fdZ B p<0:=by unfold fdZ;rw[zUE _ h];decide
 exact⟨zau h1,zau h1⟩
def rgI:Nat->List Int:=wS λi=>(i:Int)
theorem zVB{l:List Pt}{i k:Nat}(h:i<k):(l.take k).getD i zT=l.getD i zT:=by
 rw[zoa,zoa,zpe,zau h]
def zPO(l:List Pt):Prop:=∀i j,i<j->j<l.length->¬zK0 (l.getD i zT) (l.getD j zT)
theorem zQ6{l:List Pt}(hd:zPO l):∀k,k<=l.length->plB [] l k=l.take k/\plN [] l k=rgI k
  |0,_=>⟨rfl,rfl⟩
  |k+1,hk=>by
   obtain⟨h1,h2⟩:=zQ6 hd k zot;have hl:(l.take k).length=k:=by rw[zei];omega
   have C:∀i,i<(l.take k).length->¬zK0 ((l.take k).getD i zT) (l.getD k zT):=λi hi=>by
    rw[hl] at hi;rw[zVB hi];exact hd i k hi zot
   obtain⟨h3,D⟩:=yMJ C;refine⟨?_,?_⟩
   · show adB (plB [] l k) (l.getD k zT)=_
     rw[h1,h3];rw[zoa,zoc (show k<l.length by omega),zue (show k<l.length by omega)];rfl
   · show plN [] l k++[adN (plB [] l k) (l.getD k zT)]=rgI k++[(k:Int)]
     rw[h2,h1,D,hl]
theorem zM6{l:List Pt}(hd:zPO l):bsZ [l]=l:=by
 have h:=(zQ6 hd l.length (zbe _)).1;rw[z6i] at h;exact h
theorem yL2{l:List Pt}(hd:zPO l):bxZ [l]=[rgI l.length]:=zbi (λz=>[z]) (zQ6 hd l.length (zbe _)).2
theorem zRH{P:List Pt}(ha:0<yQ (arZ P 0 1)):ouZ [P]=1:=zau ha
theorem yFE{l:List Pt}{lo hi:Rat}(hd:zPO l)(hs:aJ l 0 1)(hl:l.length<=64)(ha:0<yQ (arZ l 0 1))(hlh:lo<hi):prE [l] lo hi=0:=by
 unfold prE;rw[zae (λe=>e (zHD hs hl ha)),zae (λe=>e (zRH ha)),zae (λe=>by unfold xZ at e;grind),zae];unfold prB;rw[zM6 hd];have h1:iL [l] [l].length=0+l.length:=I;rw[h1];omega
section
variable {a b:Pt}
def bB(a b:Pt):List Pt:=[T3.mk a.x a.y (0:Rat),T3.mk b.x a.y (0:Rat),T3.mk b.x b.y (0:Rat),T3.mk a.x b.y (0:Rat)]
theorem zUW(h:dX a b):a.x<b.x/\a.y<b.y/\a.z<b.z:=by
 have g:∀{u v:Rat},¬0<=xZ u v->u<v:=λ{u v} h=>Rat.not_le.1 λe=>h (by unfold xZ;grind);exact⟨g (h 0 zox),g (h 1 zox),g (h 2 zox)⟩
theorem zCU(hx:a.x<b.x)(hy:a.y<b.y):zPO (bB a b):=by
 intro i j H D;have C:j<4:=D;have:(i=0/\(j=1\/j=2\/j=3))\/(i=1/\(j=2\/j=3))\/(i=2/\j=3):=by omega
 rcases this with⟨rfl,rfl|rfl|rfl⟩|⟨rfl,rfl|rfl⟩|⟨rfl,rfl⟩<;>(intro e;have M:=e.1;have J:=e.2;simp only[bB,List.getD_cons_zero,List.getD_cons_succ] at M J;grind)
def uI:List PI:=[(0,0),(1,0),(1,1),(0,1)]
theorem yOH:∀m,m<uI.length->pr (gp (bB a b) m) 0 1=ag a.x (b.x-a.x) a.y (b.y-a.y) (gI uI m):=by
 intro m C;have H:m<4:=C;have e0:((0:Int):Rat)=0:=I;have D:((1:Int):Rat)=1:=I;have:m=0\/m=1\/m=2\/m=3:=by omega
 rcases this with rfl|rfl|rfl|rfl<;>(unfold ag;refine Prod.ext ?_ ?_<;>simp[pr,gp,bB,gI,uI,T3.at,e0,D]<;>grind)
theorem yL7(hx:a.x<b.x)(hy:a.y<b.y):aJ (bB a b) 0 1:=zGL (x:=a.x) (p:=b.x-a.x) (y:=a.y) (q:=b.y-a.y) (s:=uI) zo0 zo0 rfl yOH (by decide +kernel)
theorem yGW:arZ (bB a b) 0 1=2*((b.x-a.x)*(b.y-a.y)):=by
 unfold arZ;simp[uV,gp,bB,T3.at];grind
theorem yDS(hx:a.x<b.x)(hy:a.y<b.y):0<yQ (arZ (bB a b) 0 1):=by
 rw[yGW,oK];have:=uD (p:=b.x-a.x) (q:=b.y-a.y) zo0 zo0;grind
theorem yL6(h:dX a b):blE a b=0:=by
 obtain⟨hx,hy,hz⟩:=zUW h;rw[(yGT h).1];exact yFE (zCU hx hy) (yL7 hx hy) (show 4<=64 by decide) (yDS hx hy) hz
def cB(a b:Pt)(x y z:Bool):Pt:=T3.mk (if x then b.x else a.x) (if y then b.y else a.y) (if z then b.z else a.z)
def pB0(a b:Pt):List Pt:=[cB a b false false false,cB a b true false false,cB a b true true false,cB a b false true false,cB a b false false true,cB a b true false true,cB a b true true true,cB a b false true true]
theorem zGO(hx:a.x<b.x)(hy:a.y<b.y):ppZ (blL a b) a.z b.z=pB0 a b:=by
 have h:bsZ (blL a b)=bB a b:=zM6 (zCU hx hy);unfold ppZ zV0;rw[h]
 show wS _ 8=_
 have H:(bB a b).length=4:=I;have C:∀i:Nat,4<=i->(if((4:Nat):Int)<=(i:Int) then b.z else a.z)=b.z:=λi hi=>zau zot;have D:∀i:Nat,i<4->(if((4:Nat):Int)<=(i:Int) then b.z else a.z)=a.z:=λi hi=>zae zot;simp only[wS,zhe,zku,H];rw[D 0 zox,D 1 zox,D 2 zox,D 3 zox,C 4 zox,C 5 zox,C 6 zox,C 7 zox]
 rfl
theorem zP4(hx:a.x<b.x)(hy:a.y<b.y):bxZ (blL a b)=[[0,1,2,3]]:=yL2 (zCU hx hy)
def sF(A B:Pt)(i j:Int)(nm:List Nat):Fc:=((T3.mk (B.y-A.y) (-(B.x-A.x)) (0:Rat),zF (T3.mk (B.y-A.y) (-(B.x-A.x)) (0:Rat)) A),[[i,j,j+4,i+4]],nm)
def bF0(a b:Pt):Fc:=((T3.mk (0:Rat) (0:Rat) (-((1:Int):Rat)),-a.z),[[3,2,1,0]],[98,111,116,116,111,109])
def tF0(a b:Pt):Fc:=((T3.mk (0:Rat) (0:Rat) ((1:Int):Rat),b.z),[[4,5,6,7]],[116,111,112])
def fB0(a b:Pt):List Fc:=[sF (cB a b false false false) (cB a b true false false) 0 1 (nmS 0 0),sF (cB a b true false false) (cB a b true true false) 1 2 (nmS 0 1),sF (cB a b true true false) (cB a b false true false) 2 3 (nmS 0 2),sF (cB a b false true false) (cB a b false false false) 3 0 (nmS 0 3),bF0 a b,tF0 a b]
theorem zBL(hx:a.x<b.x)(hy:a.y<b.y){k:Nat}(hk:k<4):sdF (blL a b) a.z b.z 0 k=sF ((pB0 a b).getD k zT) ((pB0 a b).getD ((k+1)%4) zT) (k:Int) (((k+1)%4:Nat):Int) (nmS 0 k):=by
 have C:=zP4 hx hy;have J:((bsZ (blL a b)).length:Int)=4:=by rw[show bsZ (blL a b)=bB a b from zM6 (zCU hx hy)];rfl
 have H:sdA (blL a b) 0 k=(k:Int):=by
  unfold sdA;rw[C];have:k=0\/k=1\/k=2\/k=3:=by omega
  rcases this with rfl|rfl|rfl|rfl<;>rfl
 have D:sdB (blL a b) 0 k=(((k+1)%4:Nat):Int):=by
  unfold sdB;rw[C];have:k=0\/k=1\/k=2\/k=3:=by omega
  rcases this with rfl|rfl|rfl|rfl<;>rfl
 have M:sdN (blL a b) a.z b.z 0 k=T3.mk (((pB0 a b).getD ((k+1)%4) zT).y-((pB0 a b).getD k zT).y) (-(((pB0 a b).getD ((k+1)%4) zT).x-((pB0 a b).getD k zT).x)) (0:Rat):=by
  unfold sdN;rw[zGO hx hy,H,D,z1e,z1e]
 unfold sdF;rw[M,zGO hx hy,H,D,J,z1e]
 rfl
theorem zN1(hx:a.x<b.x)(hy:a.y<b.y):prR (blL a b) a.z b.z=(pB0 a b,fB0 a b,[]):=by
 have C:=zP4 hx hy;have D:((bsZ (blL a b)).length:Int)=4:=by rw[show bsZ (blL a b)=bB a b from zM6 (zCU hx hy)];rfl
 unfold prR;rw[zGO hx hy];refine zbi (λz=>(pB0 a b,z,([]:List En))) ?_;have M:zNO (blL a b) a.z b.z (bxZ (blL a b)).length=[sdF (blL a b) a.z b.z 0 0,sdF (blL a b) a.z b.z 0 1,sdF (blL a b) a.z b.z 0 2,sdF (blL a b) a.z b.z 0 3]:=by
  rw[C]
  show[]++sfX (blL a b) a.z b.z 0 ((bxZ (blL a b)).getD 0 []).length=_
  rw[C];rfl
 have J:btF (blL a b) a.z=bF0 a b:=by
  unfold btF bF0 yDK;rw[C];rfl
 have H:tpF (blL a b) b.z=tF0 a b:=by
  unfold tpF tF0 zYE tpL;rw[C,D];rfl
 rw[M,J,H,zBL hx hy zox,zBL hx hy zox,zBL hx hy zox,zBL hx hy zox]
 rfl
theorem oI{n:Nat}(h:n<10):qS (((n:Int):Int):Rat)=[48+n]:=by
 unfold qS;rw[Rat.num_intCast,Rat.den_intCast,zae zot,zau aC,Int.natAbs_natCast]
 by_cases h0:n=0
 · subst h0;rfl
 · rw[yEH h0 h];rfl
theorem yKL{k:Nat}(h:k<10):nmS 0 k=[115,48,46,48+k]:=by
 unfold nmS;rw[oI (n:=0) zox,oI h];rfl
end
def zEX(p:Nat->Bool):Nat->Nat
  |0=>0
  |k+1=>if p k then zEX p k else k+1
theorem zCT{P:Nat->Prop}{p:Nat->Bool}:∀n,(∀k,k<n->(P k↔p k=true))->aO P n=zEX p n
  |0,_=>rfl
  |n+1,h=>by
   have ih:=zCT n λk hk=>h k zot;have h1:=h n zot;unfold aO zEX;rw[ih]
   by_cases hp:P n
   · rw[zau hp,zau (h1.1 hp)]
   · rw[zae hp,zae (λe=>hp (h1.2 e))]
def usB(E:List E5)(i:Nat):Bool:=E.any λe=>decide (e.1=(i:Int))
theorem zX2(E:List E5)(i:Nat):zKU E E.length i↔usB E i=true:=by
 unfold usB;rw[List.any_eq_true];constructor
 · rintro⟨q,C,h⟩
   exact⟨_,kJ C,decide_eq_true h⟩
 · rintro⟨e,D,h⟩
   obtain⟨q,C,rfl⟩:=ygu D;refine⟨q,C,?_⟩;rw[zoa,zoc C];exact z4u h
def orB(E:List E5)(lt:Nat->Nat->Bool):Nat->List Int
  |0=>[]
  |i+1=>if usB E i then dM (orB E lt i) (zEX (λk=>lt i ((orB E lt i).getD k 0).toNat) (orB E lt i).length) (i:Int) else orB E lt i
theorem zRK{s:Sd}{lt:Nat->Nat->Bool}{n:Nat}(h:∀i k,i<n->k<n->(lsP (gp s.1 i) (gp s.1 k)↔lt i k=true)):∀i,i<=n->aL s i=orB (edZ (xP s)) lt i
  |0,_=>rfl
  |i+1,hi=>by
   have ih:=zRK h i zot;unfold aL orB;have hb:aO (zV9 s (aL s i) i) (aL s i).length=zEX (λk=>lt i ((orB (edZ (xP s)) lt i).getD k 0).toNat) (orB (edZ (xP s)) lt i).length:=by
    rw[<-ih];refine zCT _ λk hk=>?_;have:=oT hk;exact h i _ zot zot
   rw[hb,ih]
   by_cases hu:zKU (edZ (xP s)) (edZ (xP s)).length i
   · rw[zau hu,zau ((zX2 _ _).1 hu)]
   · rw[zae hu,zae (λe=>hu ((zX2 _ _).2 e))]
abbrev B3:=Bool×Bool×Bool
def lt3(u v:B3):Bool:=(!u.1&&v.1)||(u.1==v.1&&((!u.2.1&&v.2.1)||(u.2.1==v.2.1&&(!u.2.2&&v.2.2))))
def cU(a b:Pt)(u:B3):Pt:=cB a b u.1 u.2.1 u.2.2
variable {a b:Pt}
theorem zW0(hx:a.x<b.x)(hy:a.y<b.y)(hz:a.z<b.z)(u v:B3):lsP (cU a b u) (cU a b v)↔lt3 u v=true:=by
 obtain⟨D,C,u3⟩:=u;obtain⟨v1,v2,v3⟩:=v
 cases D<;>cases C<;>cases u3<;>cases v1<;>cases v2<;>cases v3<;>simp[lsP,cU,cB,lt3]<;>grind
theorem yLY(hx:a.x<b.x)(hy:a.y<b.y)(hz:a.z<b.z){u v:B3}(h:cU a b u=cU a b v):u=v:=by
 obtain⟨D,C,u3⟩:=u;obtain⟨v1,v2,v3⟩:=v;have h1:=zbi T3.x h;have h2:=zbi T3.y h;have h3:=zbi T3.z h
 cases D<;>cases C<;>cases u3<;>cases v1<;>cases v2<;>cases v3<;>first|rfl|(exfalso;simp[cU,cB] at h1 h2 h3;grind)
def uB0:List B3:=[(false,false,false),(true,false,false),(true,true,false),(false,true,false),(false,false,true),(true,false,true),(true,true,true),(false,true,true)]
theorem oR:pB0 a b=uB0.map (cU a b):=rfl
theorem zCH{l:List B3}{i:Nat}(h:i<l.length):gp (l.map (cU a b)) i=cU a b (l.getD i (false,false,false)):=by
 unfold gp;rw[zoa,zoa,zvi,zoc h];rfl
theorem zJT(hx:a.x<b.x)(hy:a.y<b.y)(hz:a.z<b.z){l:List B3}{F:List Fc}{E:List En}:fU (l.map (cU a b),F,E)=orB (edZ (xP (l.map (cU a b),F,E))) (λi k=>lt3 (l.getD i (false,false,false)) (l.getD k (false,false,false))) l.length:=by
 unfold fU;rw[show(l.map (cU a b),F,E).1.length=l.length from zde _];refine zRK (n:=l.length) (λi k hi hk=>?_) _ (zbe _)
 show lsP (gp (l.map (cU a b)) i) (gp (l.map (cU a b)) k)↔_
 rw[zCH hi,zCH hk];exact zW0 hx hy hz _ _
theorem dH:xP (pB0 a b,fB0 a b,[])=[[[0,1,5,4]],[[1,2,6,5]],[[2,3,7,6]],[[3,0,4,7]],[[3,2,1,0]],[[4,5,6,7]]]:=rfl
theorem zN9(hx:a.x<b.x)(hy:a.y<b.y)(hz:a.z<b.z):fU (pB0 a b,fB0 a b,[])=[0,4,3,7,1,5,2,6]:=by
 rw[oR,zJT hx hy hz,<-oR,dH]
 decide +kernel
theorem cH{α:Type}{p:Nat->Prop}{g:Nat->α}:∀{n},(∀i,i<n->¬p i)->bA p g n=[]
  |0,_=>rfl
  |n+1,h=>by
   rw[<-zBJ (h n zot)];exact cH λi hi=>h i zot
theorem zD1{α:Type}{g:Nat->List α}:∀{n},(∀i,i<n->g i=[])->gP g n=[]
  |0,_=>rfl
  |n+1,h=>by
   show gP g n++g n=[]
   rw[h n zot,zD1 λi hi=>h i zot];rfl
def tmB(E:List E5)(a b:Int):Nat->Int
  |0=>0
  |m+1=>if(E.getD m ((0:Int),(0:Int),(0:Int),(0:Int),(0:Int))).1=a/\(E.getD m ((0:Int),(0:Int),(0:Int),(0:Int),(0:Int))).2.1=b then tmB E a b m+1 else tmB E a b m
theorem zQK(E:List E5)(a b:Int):∀m,iP E a b m=tmB E a b m
  |0=>rfl
  |m+1=>by
   unfold iP tmB;rw[zQK E a b m]
   by_cases h:zPR (E.getD m ((0:Int),(0:Int),(0:Int),(0:Int),(0:Int))) a b
   · rw[zau h];exact(zau h).symm
   · rw[zae h];exact(zae h).symm
def clB(E:List E5):Bool:=(List.range E.length).all λi=>!decide (tmB E (E.getD i ((0:Int),(0:Int),(0:Int),(0:Int),(0:Int))).2.1 (E.getD i ((0:Int),(0:Int),(0:Int),(0:Int),(0:Int))).1 E.length<tmB E (E.getD i ((0:Int),(0:Int),(0:Int),(0:Int),(0:Int))).1 (E.getD i ((0:Int),(0:Int),(0:Int),(0:Int),(0:Int))).2.1 E.length)
theorem yHT{F:List (List (List Int))}(hv:vaP F)(h:clB (edZ F)=true):clZ F=[]:=by
 unfold clZ;rw[zau hv];unfold yGS;refine cH λi hi=>?_;have h1:=zob.1 h i (zog.2 hi);rw[zje,zgu] at h1;unfold yCS tmZ;rw[zQK,zQK];exact h1
theorem zYH{s:Sd}(hb:¬zIK s)(hf:∀f,f<s.2.1.length->vfP (s.2.1.getD f zA).2.1/\nmP s f):szZ s=[]:=by
 unfold szZ;rw[zae hb];exact cH λf C e=>by
  rcases e with e|e
  · exact e (hf f C).1
  · exact e (hf f C).2
theorem zX7{s:Sd}(h:∀i k,k<i->i<s.1.length->¬gp s.1 i=gp s.1 k):zNC s s.1.length=[]:=cH λi hi e=>by
 obtain⟨k,hk,e⟩:=e;exact h i k hk hi e
theorem zZV{s:Sd}(hz:∀f,f<s.2.1.length->¬(s.2.1.getD f zA).1.1=zT)(ho:∀f,f<s.2.1.length->∀l,l<(xR s f).length->∀k,k<(gl (xR s f) l).length->sdZ (s.2.1.getD f zA).1 (gp (gl (xR s f) l) k)=0):plZ s=[]:=by
 have h1:zU5 s s.2.1.length=[]:=cH λf hf e=>hz f hf e;have h2:zRL s s.2.1.length=[]:=zD1 λf hf=>zD1 λl C=>cH λk hk e=>e (ho f hf l C k hk);unfold plZ;rw[h1,h2];rfl
theorem yAW{s:Sd}(h:∀f,f<s.2.1.length->uC (kY s f) 0 1=0/\ouZ (kY s f)=1):neZ s=[]:=by
 have h1:yDI s s.2.1.length=[]:=cH λf hf e=>e (h f hf).1;have h2:yKT s s.2.1.length=[]:=cH λf hf e=>e (h f hf).2;unfold neZ;rw[h1,h2];rfl
theorem zK3{s:Sd}(h1:szZ s=[])(h2:zNC s s.1.length=[])(h3:plZ s=[])(h4:neZ s=[])(h5:clZ (xP s)=[]):jQ s:=by
 unfold jQ yC9;rw[h1,h2,h3,h4,h5];rfl
theorem yOA{s:Sd}{f:Nat}{i j k l:Int}(hf:f<s.2.1.length)(hn:nmP s f)(hl:(s.2.1.getD f zA).2.1=[[i,j,k,l]]):xR s f=[[gp s.1 i.toNat,gp s.1 j.toNat,gp s.1 k.toNat,gp s.1 l.toNat]]:=by
 rw[zSQ hf hn,hl];unfold zIB;rw[hl];rfl
theorem yCL{s:Sd}{f:Nat}{A B C D:Pt}(h:xR s f=[[A,B,C,D]]):kY s f=[[jS (s.2.1.getD f zA).1 A,jS (s.2.1.getD f zA).1 B,jS (s.2.1.getD f zA).1 C,jS (s.2.1.getD f zA).1 D]]:=by
 unfold kY;rw[h];rfl
theorem yJS{x p y q:Rat}(hp:0<p)(hq:0<q){l:List Pt}{t:List PI}(ht:t=[(0,0),(1,0),(1,1),(0,1)]\/t=[(1,0),(1,1),(0,1),(0,0)]\/t=[(1,1),(0,1),(0,0),(1,0)]\/t=[(0,1),(0,0),(1,0),(1,1)])
    (hl:l=t.map λu=>T3.mk (x+p*(u.1:Rat)) (y+q*(u.2:Rat)) (0:Rat)):uC [l] 0 1=0/\ouZ [l]=1:=by
 have O:t.length=4:=by rcases ht with rfl|rfl|rfl|rfl<;>rfl
 have D:l.length=t.length:=by rw[hl,zde]
 have J:∀m,m<t.length->pr (gp l m) 0 1=ag x p y q (gI t m):=λm H=>by
  rw[hl];unfold gp gI;rw[zoa,zoa,zvi,zoc H]
  rfl
 have hs:aJ l 0 1:=zGL hp hq D J (by rcases ht with rfl|rfl|rfl|rfl<;>decide +kernel);have e0:((0:Int):Rat)=0:=I;have M:((1:Int):Rat)=1:=I;have ha:arZ l 0 1=2*(p*q):=by
  unfold arZ
  rcases ht with rfl|rfl|rfl|rfl<;>(subst hl;simp[uV,gp,T3.at,e0,M];grind)
 have C:0<yQ (arZ l 0 1):=by
  rw[ha,oK];have:=uD hp hq;grind
 exact⟨zHD hs zot C,zRH C⟩
section
variable {x p y q:Rat}
def lay(x p y q:Rat)(s:List PI)(l:List Pt):Prop:=l.length=s.length/\∀m,m<s.length->pr (gp l m) 0 1=ag x p y q (gI s m)
def arG(s:List PI):Nat->Int
  |0=>0
  |m+1=>arG s m+((gI s m).1*(gI s ((m+1)%s.length)).2-(gI s ((m+1)%s.length)).1*(gI s m).2)
theorem zPB{s:List PI}{l:List Pt}(h:lay x p y q s l):∀m,m<=s.length->
 uV l 0 1 m=p*q*((arG s m:Int):Rat)+x*q*(((gI s (m%s.length)).2:Rat)-((gI s 0).2:Rat))-y*p*(((gI s (m%s.length)).1:Rat)-((gI s 0).1:Rat))
 |0,_=>by
  rw[Nat.zero_mod]
  show(0:Rat)=p*q*((0:Int):Rat)+_-_
  have:((0:Int):Rat)=0:=rfl;rw[this];grind
 |m+1,hm=>by
  have ih:=zPB h m zot;have e1:=h.2 m zot;have e2:=h.2 ((m+1)%s.length) (zcu _ zot);have hmod:m%s.length=m:=zoh zot;rw[hmod] at ih;have a1:(gp l m).at 0=x+p*((gI s m).1:Rat):=zbi Prod.fst e1;have a2:(gp l m).at 1=y+q*((gI s m).2:Rat):=zbi Prod.snd e1;have b1:(gp l ((m+1)%s.length)).at 0=x+p*((gI s ((m+1)%s.length)).1:Rat):=zbi Prod.fst e2;have b2:(gp l ((m+1)%s.length)).at 1=y+q*((gI s ((m+1)%s.length)).2:Rat):=zbi Prod.snd e2
  show uV l 0 1 m+((gp l m).at 0*(gp l ((m+1)%l.length)).at 1-(gp l ((m+1)%l.length)).at 0*(gp l m).at 1)=_
  rw[h.1,ih,a1,a2,b1,b2]
  show _=p*q*((arG s m+((gI s m).1*(gI s ((m+1)%s.length)).2-(gI s ((m+1)%s.length)).1*(gI s m).2):Int):Rat)+_-_
  simp only[zli,zru,zji];grind
theorem yBJ{s:List PI}{l:List Pt}(h:lay x p y q s l):arZ l 0 1=p*q*((arG s s.length:Int):Rat):=by
 unfold arZ;rw[h.1,zPB h _ (zbe _),y4i];grind
theorem zFN(hp:0<p)(hq:0<q){s:List PI}{l:List Pt}(h:lay x p y q s l):yQ (arZ l 0 1)=sgI (arG s s.length):=by
 rw[yBJ h,iS (uD hp hq),mH];rfl
theorem zMD(hp:0<p)(hq:0<q){s:List PI}{l:List Pt}(h:lay x p y q s l)(hb:zVK s=true):aJ l 0 1:=zGL hp hq h.1 h.2 hb
theorem bY{s:List PI}{l:List Pt}(h:lay x p y q s l){m:Nat}(hm:m<s.length):vV l 0 1 m=ag x p y q (gI s m)/\vT l 0 1 m=ag x p y q (gI s ((m+1)%s.length)):=by
 unfold vV vT;rw[h.1];exact⟨h.2 m hm,h.2 _ (zcu _ zot)⟩
def btI(a b c:Int):Bool:=decide ((a<=c/\c<=b)\/(b<=c/\c<=a))
def yFG(u v w:PI):Bool:=btI u.1 v.1 w.1&&btI u.2 v.2 w.2&&decide (crI u v w=0)
def csI(u v w:PI):Bool:=decide (¬(u.2<=w.2↔v.2<=w.2)/\((u.2<=w.2/\0<crI u v w)\/(v.2<=w.2/\crI u v w<0)))
def odI(s:List PI)(w:PI):Nat->Bool
  |0=>false
  |m+1=>csI (gI s m) (gI s ((m+1)%s.length)) w != odI s w m
def inI(s:List PI)(w:PI):Int:=if(List.range s.length).any λm=>yFG (gI s m) (gI s ((m+1)%s.length)) w then 0 else if odI s w s.length then 1 else -1
theorem yD0{a b:Int}(hp:0<p):x+p*(a:Rat)<=x+p*(b:Rat)↔a<=b:=by
 rw[<-Rat.not_lt,zKR hp,y2u]
theorem yH0(hp:0<p)(hq:0<q)(u v w:PI):onS (ag x p y q u) (ag x p y q v) (ag x p y q w)↔yFG u v w=true:=by
 have hc:cr (ag x p y q u) (ag x p y q v) (ag x p y q w)=0↔crI u v w=0:=by
  rw[yH3];have h0:¬p*q=0:=λe=>absurd (e▸uD hp hq) zox;constructor
  · intro e
    rcases zoe.1 e with e|e
    · exact absurd e h0
    · exact zqu.1 e
  · intro e
    rw[e];exact ywe _
 unfold onS yFG kR btI;rw[hc,zbu,zbu,zfe,zfe,zfe];unfold ag;simp only[yD0 hp,yD0 hq];constructor
 · rintro⟨a,b,c⟩;exact⟨⟨zot,zot⟩,c⟩
 · rintro⟨⟨a,b⟩,c⟩;exact⟨zot,zot,c⟩
theorem y8{n:Int}:0<sgI n↔0<n:=by unfold sgI;split<;>(try split)<;>omega
theorem zTC{n:Int}:sgI n<0↔n<0:=by unfold sgI;split<;>(try split)<;>omega
theorem yOL(hp:0<p)(hq:0<q)(u v w:PI):kW (ag x p y q u) (ag x p y q v) (ag x p y q w)↔csI u v w=true:=by
 unfold kW csI;rw[zfe,yDZ hp hq];unfold orI;rw[y8,zTC];unfold ag;simp only[yD0 hq]
theorem zME(hp:0<p)(hq:0<q){s:List PI}{l:List Pt}(h:lay x p y q s l)(w:PI):∀m,m<=s.length->(kM l (ag x p y q w) 0 1 m↔odI s w m=true)
  |0,_=>by simp[kM,odI]
  |m+1,hm=>by
   have ih:=zME hp hq h w m zot;obtain⟨e1,e2⟩:=bY h (m:=m) zot;unfold kM odI;rw[e1,e2,yOL hp hq,ih]
   cases csI (gI s m) (gI s ((m+1)%s.length)) w<;>cases odI s w m<;>simp
theorem yBH(hp:0<p)(hq:0<q){s:List PI}{l:List Pt}(h:lay x p y q s l)(w:PI):kL l (ag x p y q w) 0 1=inI s w:=by
 unfold kL inI;have h1:(∃m,m<l.length/\onS (vV l 0 1 m) (vT l 0 1 m) (ag x p y q w))↔((List.range s.length).any λm=>yFG (gI s m) (gI s ((m+1)%s.length)) w)=true:=by
  rw[List.any_eq_true,h.1];constructor
  · rintro⟨m,D,e⟩
    obtain⟨H,C⟩:=bY h D;rw[H,C,yH0 hp hq] at e;exact⟨m,zog.2 D,e⟩
  · rintro⟨m,D,e⟩
    have D:=zog.1 D;obtain⟨H,C⟩:=bY h D;refine⟨m,D,?_⟩;rw[H,C,yH0 hp hq];exact e
 by_cases e:∃m,m<l.length/\onS (vV l 0 1 m) (vT l 0 1 m) (ag x p y q w)
 · rw[zau e,zau (h1.1 e)]
 · rw[zae e,zae λe'=>e (h1.2 e'),h.1]
   by_cases C:kM l (ag x p y q w) 0 1 s.length
   · rw[zau C,zau ((zME hp hq h w _ (zbe _)).1 C)]
   · rw[zae C,zae λe'=>C ((zME hp hq h w _ (zbe _)).2 e')]
def dbI(s:List PI):List PI:=s.map λu=>(2*u.1,2*u.2)
def miI(u v:PI):PI:=(u.1+v.1,u.2+v.2)
theorem yLR(s:List PI){m:Nat}(hm:m<s.length):gI (dbI s) m=(2*(gI s m).1,2*(gI s m).2):=by
 unfold gI dbI;rw[zoa,zoa,zvi,zoc hm];rfl
theorem yBI{s:List PI}{l:List Pt}(h:lay x p y q s l):lay x (p/2) y (q/2) (dbI s) l:=by
 have D:(dbI s).length=s.length:=zde _;refine⟨by rw[D];exact h.1,λm C=>?_⟩;rw[D] at C;rw[h.2 m C,yLR s C];unfold ag;have e:∀a:Int,(((2*a:Int)):Rat)=2*(a:Rat):=λa=>by rw[zji];rfl
 show(x+p*_,y+q*_)=(x+p/2*(((2*_:Int)):Rat),y+q/2*(((2*_:Int)):Rat))
 rw[e,e];refine Prod.ext ?_ ?_
 · show x+p*_=x+p/2*(2*_);grind
 · show y+q*_=y+q/2*(2*_);grind
theorem yMG(u v:PI):zR8 (ag x p y q u) (ag x p y q v)=ag x (p/2) y (q/2) (miI u v):=by
 have C:zHX=1/2:=zKC.symm.trans I;unfold zR8 ag miI zDP;rw[C];simp only[zli];refine Prod.ext ?_ ?_
 · show(x+p*_+(x+p*_))*(1/2)=x+p/2*(_+_);grind
 · show(y+q*_+(y+q*_))*(1/2)=y+q/2*(_+_);grind
def wiB(c s:List PI):Bool:=(List.range s.length).all λm=>decide (inI (dbI c) (miI (gI s m) (gI s ((m+1)%s.length)))=1)
theorem zM9{c l:List Pt}(h:∀m,m<l.length->kL c (zR8 (vV l 0 1 m) (vT l 0 1 m)) 0 1=1):∀m,m<=l.length->cE c l 0 1 m=m
  |0,_=>rfl
  |m+1,hm=>by
   unfold cE;rw[zau (h m zot),zM9 h m zot];omega
theorem yBG(hp:0<p)(hq:0<q){s t:List PI}{c l:List Pt}(hc:lay x p y q s c)(hl:lay x p y q t l)(h:wiB s t=true):wiZ c l 0 1=l.length:=by
 refine zM9 (λm C=>?_) _ (zbe _);rw[hl.1] at C;obtain⟨H,D⟩:=bY hl C;rw[H,D,yMG,yBH (p:=p/2) (q:=q/2) zo0 zo0 (yBI hc)];have:=zob.1 h m (zog.2 C);exact z4u this
theorem zJP{P:List Pt}(h:0<yQ (arZ P 0 1)):cA P:=zD2 λe=>by
 have e':arZ P 0 1=0:=e;rw[e',show yQ 0=0 from zau rfl] at h;omega
def noX(s t:List PI):Bool:=(List.range s.length).all λa=>(List.range t.length).all λb=>!decide (1<toI (gI s a) (gI s ((a+1)%s.length)) (gI t b) (gI t ((b+1)%t.length)))
theorem yFY(hp:0<p)(hq:0<q){s t:List PI}{c l:List Pt}(hc:lay x p y q s c)(hl:lay x p y q t l)(h:noX s t=true):¬fC c l 0 1:=by
 rintro⟨a,b,ha,C,e⟩
 rw[hc.1] at ha;rw[hl.1] at C;unfold zAA at e;rw[(bY hc ha).1,(bY hc ha).2,(bY hl C).1,(bY hl C).2,zP7 hp hq] at e;have h1:=zob.1 (zob.1 h a (zog.2 ha)) b (zog.2 C);rw[zje,zgu] at h1;exact h1 e
theorem yAT{P Q:List Pt}(hs:aJ P 0 1)(ht:aJ Q 0 1)(hl:P.length<=64/\Q.length<=64)(hx:¬fC P Q 0 1)(ha:0<yQ (arZ P 0 1))(hw:wiZ P Q 0 1=Q.length):uC [P,Q] 0 1=0:=by
 have C:∀m,m<[P,Q].length->m=0\/m=1:=λm D=>by have:m<2:=D;omega
 have J:yOF [P,Q] 0 1 1 0 (-1):=⟨⟨ha,hw⟩,.inl zox⟩;have Z:pZ [P,Q] 0 1 0= -1:=zau ha;have U:0<=sG [P,Q] 0 1 1 2:=by
  have O:sG [P,Q] 0 1 1 1=0:=zau J;unfold sG;rw[O]
  split<;>decide
 unfold uC;rw[zae (λe=>by
  rcases e with e|⟨m,D,e⟩
  · have:16<2:=e
    omega
  · rcases C m D with rfl|rfl
    · have:64<P.length:=e
      omega
    · have:64<Q.length:=e
      omega),zae (λe=>by
  obtain⟨m,D,e⟩:=e
  rcases C m D with rfl|rfl
  · exact e hs
  · exact e ht),zae (λe=>by
  obtain⟨a,b,M,J,e⟩:=e;have:b<2:=J;have:a=0/\b=1:=by omega
  obtain⟨rfl,rfl⟩:=this;exact hx e),zae (λe=>by
  rcases e with⟨k,hk,e⟩|⟨a,b,hka,hkb,e⟩
  · rcases C k hk with rfl|rfl
    · exact e.1 ha
    · have:=e.2
      have e2:sG [P,Q] 0 1 1 [P,Q].length=sG [P,Q] 0 1 1 2:=I;omega
  · obtain⟨⟨⟨H,h0⟩,he⟩,_⟩:=e
    rcases C a hka with rfl|rfl
    · omega
    · rcases C b hkb with rfl|rfl
      · omega
      · exact H I)]
def nsI(S:List (List PI)):Bool:=
 match S with
 |[s]=>zVK s&&decide (s.length<=64)&&decide (0<arG s s.length)
 |[s,t]=>zVK s&&zVK t&&decide (s.length<=64/\t.length<=64)&&noX s t&&decide (0<arG s s.length)&&decide (arG t t.length<0)&&wiB s t
 |_=>false
def yFZ(x p y q:Rat)(S:List (List PI))(L:List (List Pt)):Prop:=L.length=S.length/\∀m,m<S.length->lay x p y q (S.getD m []) (gl L m)
theorem zHE(hp:0<p)(hq:0<q){S:List (List PI)}{L:List (List Pt)}(h:yFZ x p y q S L)(hb:nsI S=true):uC L 0 1=0/\ouZ L=1/\∀l,l∈L->cA l:=by
 match S,hb with
 |[s],hb=>
  match L,h.1 with
  |[l],_=>
   have h0:lay x p y q s l:=h.2 0 (show 0<_ from yme _);simp only[nsI,zbu,zfe] at hb;have ha:0<yQ (arZ l 0 1):=by rw[zFN hp hq h0];exact y8.2 hb.2
   refine⟨zHD (zMD hp hq h0 hb.1.1) (by rw[h0.1];exact hb.1.2) ha,zRH ha,λz hz=>?_⟩;rw[zui.1 hz];exact zJP ha
 |[s,t],hb=>
  match L,h.1 with
  |[l,k],_=>
   have h0:lay x p y q s l:=h.2 0 (show 0<_ from yme _);have h1:lay x p y q t k:=h.2 1 (show 1<2 from by decide);simp only[nsI,zbu,zfe] at hb;obtain⟨⟨⟨⟨⟨⟨b1,Z⟩,U⟩,O⟩,M⟩,J⟩,H⟩:=hb;have ha:0<yQ (arZ l 0 1):=by rw[zFN hp hq h0];exact y8.2 M
   have C:yQ (arZ k 0 1)<0:=by rw[zFN hp hq h1];exact zTC.2 J
   refine⟨yAT (zMD hp hq h0 b1) (zMD hp hq h1 Z) (by rw[h0.1,h1.1];exact U) (yFY hp hq h0 h1 O) ha (yBG hp hq h0 h1 H),?_,λz hz=>?_⟩
   · have D:zAK [l,k] 1=1:=zau ha
     show zAK [l,k] 2=1
     unfold zAK;rw[zae (show ¬0<yQ (arZ (gl [l,k] 1) 0 1) fromλe=>by have:0<yQ (arZ k 0 1):=e;omega),D]
   · rcases zfu.1 hz with rfl|hz
     · exact zJP ha
     · rw[zui.1 hz]
       refine zD2 λe=>?_;have:arZ k 0 1=0:=e;rw[this,show yQ 0=0 from zau I] at C;omega
end
abbrev Dir:=Nat×Bool
def dI:Dir->Nat
  |(2,true)=>0|(2,false)=>1|(1,true)=>2|(1,false)=>0|(_,true)=>1|(_,false)=>2
def dJ:Dir->Nat
  |(2,true)=>1|(2,false)=>0|(1,true)=>0|(1,false)=>2|(_,true)=>2|(_,false)=>1
def dN(d:Dir)(c:Rat):Pt:=(zT).set d.1 (if d.2 then c else -c)
def zXN(u:B3):Nat->Bool
  |0=>u.1|1=>u.2.1|_=>u.2.2
def bI(x:Bool):Int:=if x then 1 else 0
def pI2(d:Dir)(u:B3):PI:=(bI (zXN u (dI d)),bI (zXN u (dJ d)))
variable {a b:Pt}
theorem yHU(u:B3)(i:Nat):(cU a b u).at i=if zXN u i then b.at i else a.at i:=by
 obtain⟨D,C,u3⟩:=u
 match i with
 |0=>rfl
 |1=>rfl
 |n+2=>rfl
theorem yDA(u:B3)(i:Nat):(cU a b u).at i=a.at i+(b.at i-a.at i)*((bI (zXN u i):Int):Rat):=by
 rw[yHU];have e0:((0:Int):Rat)=0:=I;have C:((1:Int):Rat)=1:=I;unfold bI
 split
 · rw[C];grind
 · rw[e0];grind
theorem zSW{d:Dir}{c:Rat}(hd:d.1<3)(hc:0<c):axI (dN d c)=dI d/\axJ (dN d c)=dJ d/\¬dN d c=zT:=by
 obtain⟨C,D⟩:=d;have h3:C=0\/C=1\/C=2:=by have:C<3:=hd;omega
 have J:¬dN (C,D) c=zT:=λe=>by
  have h1:=zbi T3.x e;have h2:=zbi T3.y e;have H:=zbi T3.z e
  rcases h3 with rfl|rfl|rfl<;>cases D<;>simp[dN,T3.set] at h1 h2 H<;>grind
 refine⟨?_,?_,J⟩
 · rcases h3 with rfl|rfl|rfl<;>cases D<;>simp[dN,T3.set,axI,dI]<;>grind
 · rcases h3 with rfl|rfl|rfl<;>cases D<;>simp[dN,T3.set,axJ,dJ]<;>grind
def zNE(d:Dir)(us:List B3):Bool:=(us.all λu=>zXN u d.1==d.2)&&(decide (us.map (pI2 d)=[(0,0),(1,0),(1,1),(0,1)])||decide (us.map (pI2 d)=[(1,0),(1,1),(0,1),(0,0)])||decide (us.map (pI2 d)=[(1,1),(0,1),(0,0),(1,0)])||decide (us.map (pI2 d)=[(0,1),(0,0),(1,0),(1,1)]))
theorem yGE{d:Dir}{c o:Rat}(hd:d.1<3)(hc:0<c)(u:B3):jS (dN d c,o) (cU a b u)=T3.mk (a.at (dI d)+(b.at (dI d)-a.at (dI d))*(((pI2 d u).1:Int):Rat)) (a.at (dJ d)+(b.at (dJ d)-a.at (dJ d))*(((pI2 d u).2:Int):Rat)) (0:Rat):=by
 unfold jS;rw[(zSW hd hc).1,(zSW hd hc).2.1,yDA,yDA];rfl
theorem zKH{d:Dir}{c o:Rat}(hd:d.1<3)(hc:0<c)(h:∀i,a.at i<b.at i){us:List B3}(ht:zNE d us=true):uC [us.map λu=>jS (dN d c,o) (cU a b u)] 0 1=0/\ouZ [us.map λu=>jS (dN d c,o) (cU a b u)]=1:=by
 unfold zNE at ht;simp only[zbu,zxe,zfe] at ht;refine yJS (x:=a.at (dI d)) (p:=b.at (dI d)-a.at (dI d)) (y:=a.at (dJ d)) (q:=b.at (dJ d)-a.at (dJ d)) (t:=us.map (pI2 d)) (by have:=h (dI d);grind) (by have:=h (dJ d);grind) ?_ ?_
 · rcases ht.2 with((h1|h1)|h1)|h1
   · exact .inl h1
   · exact .inr (.inl h1)
   · exact .inr (.inr (.inl h1))
   · exact .inr (.inr (.inr h1))
 · rw[yri]
   exact yge λu _=>yGE hd hc u
theorem zXC{d:Dir}{c:Rat}(hd:d.1<3){u:B3}(hu:zXN u d.1=d.2):sdZ (dN d c,(if d.2 then c else -c)*(if d.2 then b.at d.1 else a.at d.1)) (cU a b u)=0:=by
 unfold sdZ hgt;have e:=yHU (a:=a) (b:=b) u d.1;rw[hu] at e;obtain⟨C,D⟩:=d;have h3:C=0\/C=1\/C=2:=by have:C<3:=hd;omega
 have h0:zF (dN (C,D) c) (cU a b u)=(if D then c else -c)*(cU a b u).at C:=by
  rcases h3 with rfl|rfl|rfl<;>(simp only[zF,dN,T3.set,T3.at];grind)
 rw[h0,e];refine zau ?_
 show _*_-_*_=(0:Rat)
 grind
abbrev u0:B3:=(false,false,false)
def eY(a b:Pt)(us:List B3)(d:Dir)(f:Fc):Prop:=
 d.1<3/\∃c,0<c/\f.1=(dN d c,(if d.2 then c else -c)*(if d.2 then b.at d.1 else a.at d.1))/\∃i j k l:Nat,f.2.1=[[(i:Int),(j:Int),(k:Int),(l:Int)]]/\(i<us.length/\j<us.length/\k<us.length/\l<us.length)/\zNE d [us.getD i u0,us.getD j u0,us.getD k u0,us.getD l u0]=true
section
variable {us:List B3}{F:List Fc}
theorem yDG{d:Dir}{f:Nat}(h:eY a b us d (F.getD f zA)):nmP (us.map (cU a b),F,[]) f:=by
 obtain⟨_,c,_,_,i,j,k,l,U,⟨h1,h2,h3,Z⟩,_⟩:=h;intro m O q M
 show 0<=_/\_<(((us.map (cU a b)).length:Nat):Int)
 rw[zde];have D:m<((F.getD f zA).2.1).length:=O;have C:q<(((F.getD f zA).2.1).getD m []).length:=M
 show 0<=(((F.getD f zA).2.1).getD m []).getD q 0/\(((F.getD f zA).2.1).getD m []).getD q 0<_
 rw[U] at D C ⊢;have H:m=0:=by have:m<1:=D;omega
 subst H;have J:q<4:=C;have:q=0\/q=1\/q=2\/q=3:=by omega
 rcases this with rfl|rfl|rfl|rfl
 · show 0<=(i:Int)/\(i:Int)<_;omega
 · show 0<=(j:Int)/\(j:Int)<_;omega
 · show 0<=(k:Int)/\(k:Int)<_;omega
 · show 0<=(l:Int)/\(l:Int)<_;omega
theorem zFT{d:Dir}{f:Nat}(hf:f<F.length)(h:eY a b us d (F.getD f zA)):∃vs:List B3,zNE d vs=true/\vs.length=4/\xR (us.map (cU a b),F,[]) f=[vs.map (cU a b)]:=by
 have C:=yDG h;obtain⟨_,c,_,_,i,j,k,l,D,⟨h1,h2,h3,H⟩,ht⟩:=h;refine⟨[us.getD i u0,us.getD j u0,us.getD k u0,us.getD l u0],ht,I,?_⟩;rw[yOA (s:=(us.map (cU a b),F,[])) hf C D]
 show[[gp (us.map (cU a b)) _,gp (us.map (cU a b)) _,gp (us.map (cU a b)) _,gp (us.map (cU a b)) _]]=_
 rw[z1e,z1e,z1e,z1e,zCH h1,zCH h2,zCH h3,zCH H];rfl
theorem zUV(h:a.x<b.x/\a.y<b.y/\a.z<b.z)(hn:∀i k,k<i->i<us.length->¬us.getD i u0=us.getD k u0)(hu:us.length<=512/\F.length<=256)(hF:∀f,f<F.length->∃d,eY a b us d (F.getD f zA))(hv:∀f,f<F.length->vfP (F.getD f zA).2.1)
    (hva:vaP (xP (us.map (cU a b),F,[])))(hc:clB (edZ (xP (us.map (cU a b),F,[])))=true):jQ (us.map (cU a b),F,[]):=by
 have ab:∀i,a.at i<b.at i:=λi=>match i with
  |0=>h.1|1=>h.2.1|_+2=>h.2.2
 have U:(us.map (cU a b)).length=us.length:=zde _;refine zK3 (zYH (λe=>?_) λf hf=>?_) (zX7 λi k aa hi e=>?_) (zZV (λf hf=>?_) λf hf l hl k hk=>?_) (yAW λf hf=>?_) (yHT hva hc)
 · rcases e with(e|e)|e
   · have e':512<(us.map (cU a b)).length:=e
     omega
   · have e':256<F.length:=e
     omega
   · have e':1024<([]:List En).length:=e
     simp at e'
 · obtain⟨d,hd⟩:=hF f hf
   exact⟨hv f hf,yDG hd⟩
 · have O:i<us.length:=by rw[<-U];exact hi
   have e':gp (us.map (cU a b)) i=gp (us.map (cU a b)) k:=e;rw[zCH O,zCH zot] at e';exact hn i k aa O (yLY h.1 h.2.1 h.2.2 e')
 · obtain⟨d,C,c,D,M,_⟩:=hF f hf
   show ¬(F.getD f zA).1.1=zT
   rw[M];exact(zSW C D).2.2
 · obtain⟨d,hd⟩:=hF f hf
   obtain⟨vs,ht,h4,J⟩:=zFT hf hd;obtain⟨C,c,D,M,_⟩:=hd;rw[J] at hl hk ⊢;have Z:l=0:=by have:l<1:=hl;omega
   subst Z;have H:k<(vs.map (cU a b)).length:=hk;rw[zde] at H
   show sdZ (F.getD f zA).1 (gp (vs.map (cU a b)) k)=0
   rw[M,zCH H];refine zXC C ?_;unfold zNE at ht;simp only[zbu] at ht;have h9:=zob.1 ht.1 (vs.getD k u0) (kJ H);exact eq_of_beq h9
 · obtain⟨d,hd⟩:=hF f hf
   obtain⟨vs,ht,h4,J⟩:=zFT hf hd;obtain⟨C,c,D,M,_⟩:=hd;have e:kY (us.map (cU a b),F,[]) f=[vs.map λu=>jS (F.getD f zA).1 (cU a b u)]:=by
    obtain⟨v1,v2,v3,v4,rfl⟩:∃v1 v2 v3 v4,vs=[v1,v2,v3,v4]:=by
     match vs,h4 with
     |[v1,v2,v3,v4],_=>exact⟨_,_,_,_,rfl⟩
    exact yCL J
   rw[e,M];exact zKH C D ab ht
end
instance decLp(x:List Int):Decidable (lpP x):=by unfold lpP;exact inferInstance
instance decVf(L:List (List Int)):Decidable (vfP L):=by unfold vfP;exact inferInstance
instance decVa(F:List (List (List Int))):Decidable (vaP F):=by unfold vaP;exact inferInstance
variable {a b:Pt}
theorem zJQ{N M:Pt}{o r:Rat}(h1:N=M)(h2:o=r):(N,o)=(M,r):=by rw[h1,h2]
theorem zUF(h:a.x<b.x/\a.y<b.y/\a.z<b.z):eY a b uB0 (1,false) ((fB0 a b).getD 0 zA)/\eY a b uB0 (0,true) ((fB0 a b).getD 1 zA)/\eY a b uB0 (1,true) ((fB0 a b).getD 2 zA)/\eY a b uB0 (0,false) ((fB0 a b).getD 3 zA)/\eY a b uB0 (2,false) ((fB0 a b).getD 4 zA)/\eY a b uB0 (2,true) ((fB0 a b).getD 5 zA):=by
 obtain⟨hx,hy,hz⟩:=h;refine⟨?_,?_,?_,?_,?_,?_⟩
 · refine⟨zox,b.x-a.x,zo0,zJQ ?_ ?_,0,1,5,4,I,zox,zox⟩
   · show T3.mk (a.y-a.y) (-(b.x-a.x)) (0:Rat)=T3.mk 0 (-(b.x-a.x)) 0
     rw[qZ];refine⟨?_,I,I⟩;show a.y-a.y=0;grind
   · show zF (T3.mk (a.y-a.y) (-(b.x-a.x)) (0:Rat)) (T3.mk a.x a.y a.z)= -(b.x-a.x)*a.y
     unfold zF;simp only;grind
 · refine⟨zox,b.y-a.y,zo0,zJQ ?_ ?_,1,2,6,5,I,zox,zox⟩
   · show T3.mk (b.y-a.y) (-(b.x-b.x)) (0:Rat)=T3.mk (b.y-a.y) 0 0
     rw[qZ];refine⟨I,?_,I⟩;show -(b.x-b.x)=0;grind
   · show zF (T3.mk (b.y-a.y) (-(b.x-b.x)) (0:Rat)) (T3.mk b.x a.y a.z)=(b.y-a.y)*b.x
     unfold zF;simp only;grind
 · refine⟨zox,b.x-a.x,zo0,zJQ ?_ ?_,2,3,7,6,I,zox,zox⟩
   · show T3.mk (b.y-b.y) (-(a.x-b.x)) (0:Rat)=T3.mk 0 (b.x-a.x) 0
     rw[qZ];refine⟨?_,?_,I⟩
     · show b.y-b.y=0;grind
     · show -(a.x-b.x)=b.x-a.x;grind
   · show zF (T3.mk (b.y-b.y) (-(a.x-b.x)) (0:Rat)) (T3.mk b.x b.y a.z)=(b.x-a.x)*b.y
     unfold zF;simp only;grind
 · refine⟨zox,b.y-a.y,zo0,zJQ ?_ ?_,3,0,4,7,I,zox,zox⟩
   · show T3.mk (a.y-b.y) (-(a.x-a.x)) (0:Rat)=T3.mk (-(b.y-a.y)) 0 0
     rw[qZ];refine⟨?_,?_,I⟩
     · show a.y-b.y= -(b.y-a.y);grind
     · show -(a.x-a.x)=0;grind
   · show zF (T3.mk (a.y-b.y) (-(a.x-a.x)) (0:Rat)) (T3.mk a.x b.y a.z)= -(b.y-a.y)*a.x
     unfold zF;simp only;grind
 · refine⟨zox,1,zox,zJQ I ?_,3,2,1,0,I,zox,zox⟩
   show -a.z= -1*a.z
   grind
 · refine⟨zox,1,zox,zJQ I ?_,4,5,6,7,I,zox,zox⟩
   show b.z=1*b.z
   grind
theorem zUG(h:a.x<b.x/\a.y<b.y/\a.z<b.z):∀f,f<(fB0 a b).length->∃d,eY a b uB0 d ((fB0 a b).getD f zA):=by
 intro f hf;have C:f<6:=hf;obtain⟨h0,h1,h2,h3,H,D⟩:=zUF h;have:f=0\/f=1\/f=2\/f=3\/f=4\/f=5:=by omega
 rcases this with rfl|rfl|rfl|rfl|rfl|rfl
 · exact⟨_,h0⟩
 · exact⟨_,h1⟩
 · exact⟨_,h2⟩
 · exact⟨_,h3⟩
 · exact⟨_,H⟩
 · exact⟨_,D⟩
theorem zJM(h:a.x<b.x/\a.y<b.y/\a.z<b.z):jQ (pB0 a b,fB0 a b,[]):=by
 have g:∀i,i<uB0.length->∀k,k<i->¬uB0.getD i u0=uB0.getD k u0:=by decide +kernel
 rw[oR];refine zUV h (λi k hk hi=>g i hi k hk) ⟨zox,show 6<=256 by decide⟩ (zUG h) (λf hf=>?_) ?_ ?_
 · have C:f<6:=hf
   have:f=0\/f=1\/f=2\/f=3\/f=4\/f=5:=by omega
   rcases this with rfl|rfl|rfl|rfl|rfl|rfl
   · show vfP [[0,1,5,4]];decide +kernel
   · show vfP [[1,2,6,5]];decide +kernel
   · show vfP [[2,3,7,6]];decide +kernel
   · show vfP [[3,0,4,7]];decide +kernel
   · show vfP [[3,2,1,0]];decide +kernel
   · show vfP [[4,5,6,7]];decide +kernel
 · rw[<-oR,dH];decide +kernel
 · rw[<-oR,dH];decide +kernel
variable {a b:Pt}
def ixB(o:List Int)(n:Nat):Nat->List Int
  |0=>List.replicate n (0:Int)
  |i+1=>(ixB o n i).set (o.getD i 0).toNat (i:Int)
theorem zSI{s:Sd}{o:List Int}(h:fU s=o):∀i,zI3 s i=ixB o s.1.length i
  |0=>rfl
  |i+1=>by unfold zI3 ixB;rw[zSI h i,h]
theorem yBQ(h:a.x<b.x/\a.y<b.y/\a.z<b.z):ixZ (pB0 a b,fB0 a b,[])=[0,4,6,2,1,5,7,3]:=by
 have C:=zN9 h.1 h.2.1 h.2.2;unfold ixZ;rw[zSI C,C]
 show ixB _ 8 8=_
 decide
def uB1:List B3:=[(false,false,false),(false,false,true),(false,true,false),(false,true,true),(true,false,false),(true,false,true),(true,true,false),(true,true,true)]
theorem yAN(h:a.x<b.x/\a.y<b.y/\a.z<b.z):nrP (pB0 a b,fB0 a b,[])=uB1.map (cU a b):=by
 have C:=zN9 h.1 h.2.1 h.2.2;unfold nrP;rw[zau (zJM h)];unfold yAO;rw[C];rfl
theorem zTL(h:a.x<b.x/\a.y<b.y/\a.z<b.z){us:List B3}{F:List Fc}{f:Nat}(hf:f<F.length){d:Dir}(hd:eY a b us d (F.getD f zA)):zE3 (us.map (cU a b),F,[]) f 0:=by
 have J:∀i,a.at i<b.at i:=λi=>match i with
  |0=>h.1|1=>h.2.1|_+2=>h.2.2
 obtain⟨vs,ht,Z,D⟩:=zFT hf hd;obtain⟨C,c,H,O,_⟩:=hd;obtain⟨v1,v2,v3,v4,rfl⟩:∃v1 v2 v3 v4,vs=[v1,v2,v3,v4]:=by
  match vs,Z with
  |[v1,v2,v3,v4],_=>exact⟨_,_,_,_,rfl⟩
 have e:kY (us.map (cU a b),F,[]) f=[[v1,v2,v3,v4].map λu=>jS (F.getD f zA).1 (cU a b u)]:=yCL D;have M:=(zKH (o:=(F.getD f zA).1.2) C H J ht).2;unfold zE3;rw[e];have e2:(F.getD f zA).1=(dN d c,(F.getD f zA).1.2):=by rw[O]
 rw[e2];refine zdu λU=>?_;have h0:ouZ [[v1,v2,v3,v4].map λu=>jS (dN d c,(F.getD f zA).1.2) (cU a b u)]=0:=zae U;rw[h0] at M;exact absurd M zox
theorem yJO{d:Dir}{c r:Rat}(hd:d.1<3)(hc:0<c):scZ (dN d c,(if d.2 then c else -c)*r)=(dN d 1,(if d.2 then 1 else -1)*r):=by
 obtain⟨H,J⟩:=d;have h3:H=0\/H=1\/H=2:=by have:H<3:=hd;omega
 have hs:∀{x:Rat},x≠0->¬yQ x=0:=λ{x} hx e=>by unfold yQ at e;rw[zae hx] at e;split at e<;>omega
 have hz:yQ 0=0:=zau I;have D:c≠0:=by grind
 have C:-c≠0:=by grind
 have U:ivA c*c=1/\ivA (-c)*c=1:=by
  have Z:((1:Int):Rat)=1:=I;have O:¬c.num<0:=y2u.2 (Rat.num_nonneg.2 (zee hc));have M:(-c).num<0:=ywi.1 λe=>by have:=Rat.num_nonneg.1 e;grind
  have a1:iB c=c:=zae O;have a2:iB (-c)=c:=by
   have:iB (-c)= - -c:=zau M;rw[this];grind
  unfold ivA;rw[a1,a2,zae D,Z];grind
 rcases h3 with rfl|rfl|rfl<;>cases J<;>simp[scZ,dN,T3.set,hz,hs D,hs C,scW]<;>grind
abbrev I3:=Int×Int×Int
def aI3(u:I3):Nat->Int
  |0=>u.1|1=>u.2.1|_=>u.2.2
def cP(v u:I3):Pt:=T3.mk ((v.1+u.1:Int):Rat) ((v.2.1+u.2.1:Int):Rat) ((v.2.2+u.2.2:Int):Rat)
def nr3(n:I3):Pt:=T3.mk (n.1:Rat) (n.2.1:Rat) (n.2.2:Rat)
def dt3(n u:I3):Int:=n.1*u.1+n.2.1*u.2.1+n.2.2*u.2.2
abbrev FI:=I3×Int×List (List Int)×List Nat
abbrev SI:=List I3×List FI
abbrev z3:I3:=((0:Int),(0:Int),(0:Int))
abbrev fi0:FI:=(z3,(0:Int),([]:List (List Int)),([]:List Nat))
abbrev g3(P:List I3)(k:Nat):I3:=P.getD k z3
def cPl(v:I3)(f:FI):Pl:=(nr3 f.1,((f.2.1+dt3 f.1 v:Int):Rat))
def zL7(v:I3)(f:FI)(x:Fc):Prop:=(∃a:Int,(0<a/\a<=1000)/\x.1=scW (1/(a:Rat)) (cPl v f))/\x.2=f.2.2
theorem zCC{a:Int}(h:0<a):(0:Rat)<1/(a:Rat):=by
 rw[y0i];exact uD zox (Rat.inv_pos.2 (yju.2 h))
theorem zTS{v:I3}{f:FI}{x:Fc}(h:zL7 v f x):∃r:Rat,0<r/\x.1=scW r (cPl v f):=by
 obtain⟨a,ha,e⟩:=h.1;exact⟨_,zCC ha.1,e⟩
def aH(v:I3)(I:SI)(s:Sd):Prop:=s.1=I.1.map (cP v)/\s.2.2=[]/\s.2.1.length=I.2.length/\∀f,f<I.2.length->zL7 v (I.2.getD f fi0) (s.2.1.getD f zA)
theorem yHX(v u:I3)(n:Nat):(cP v u).at n=((aI3 v n+aI3 u n:Int):Rat):=by
 match n with
 |0=>rfl
 |1=>rfl
 |_+2=>rfl
theorem zT8{v:I3}{P:List I3}{k:Nat}(hk:k<P.length):gp (P.map (cP v)) k=cP v (g3 P k):=by
 show(P.map (cP v)).getD k _=cP v (P.getD k z3)
 rw[zoa,zoa,zvi,zoc hk];rfl
def tA(n:I3):Nat×Nat:=if 0<n.2.2 then(0,1) else if n.2.2<0 then(1,0) else if 0<n.2.1 then(2,0) else if n.2.1<0 then(0,2) else if 0<n.1 then(1,2) else if n.1<0 then(2,1) else(1,2)
theorem zK9{r:Rat}(hr:0<r)(n:Int):0<r*(n:Rat)↔0<n:=by
 constructor
 · intro h
   refine ywi.1 λe=>?_;have h1:(n:Rat)<=0:=Rat.intCast_nonpos.2 e;have:=yki h1 (zee hr);grind
 · intro h
   exact uD hr (yju.2 h)
theorem zLA{r:Rat}(hr:0<r)(n:Int):r*(n:Rat)<0↔n<0:=by
 have:=zK9 hr (-n);rw[z8e] at this;constructor
 · intro h
   have:=this.1 zo0;omega
 · intro h
   have:=this.2 zot;grind
theorem zHJ{v:I3}{f:FI}{r:Rat}(hr:0<r):axI (scW r (cPl v f)).1=(tA f.1).1/\axJ (scW r (cPl v f)).1=(tA f.1).2:=by
 unfold axI axJ tA scW cPl nr3;simp only[zK9 hr,zLA hr]
 repeat' split
 all_goals first|exact⟨I,I⟩|omega
theorem zY2{v:I3}{f:FI}{r:Rat}(hr:0<r)(h:¬f.1=z3):¬(scW r (cPl v f)).1=zT:=λe=>by
 have g:∀n:Int,r*(n:Rat)=0->n=0:=λn e=>by
  rcases zoe.1 e with e|e
  · rw[e] at hr;exact absurd hr zox
  · exact zqu.1 e
 have e1:=g _ (zbi T3.x e);have e2:=g _ (zbi T3.y e);have e3:=g _ (zbi T3.z e);exact h (Prod.ext e1 (Prod.ext e2 e3))
def flI(a:Nat×Nat)(P:List I3)(x:List Int):List PI:=x.map λk=>(aI3 (g3 P k.toNat) a.1,aI3 (g3 P k.toNat) a.2)
def lpB(n:Nat)(x:List Int):Bool:=decide (3<=x.length/\x.length<=64)&&(List.range x.length).all λi=>decide (0<=x.getD i 0/\x.getD i 0<n)&&(List.range i).all λk=>!decide (x.getD i 0=x.getD k 0)
theorem yBB{n:Nat}{x:List Int}(hn:n<=512)(h:lpB n x=true):lpP x/\nmL n x:=by
 unfold lpB at h;rw[zbu,zfe] at h;have g:∀i,i<x.length->(0<=x.getD i 0/\x.getD i 0<n)/\∀k,k<i->¬x.getD i 0=x.getD k 0:=λi hi=>by
  have h1:=zob.1 h.2 i (zog.2 hi);rw[zbu,zfe] at h1;refine⟨h1.1,λk hk=>?_⟩;have h2:=zob.1 h1.2 k (zog.2 hk);rw[zje,zgu] at h2;exact h2
 refine⟨⟨h.1,λi hi=>⟨?_,(g i hi).2⟩⟩,λi hi=>(g i hi).1⟩;have:=(g i hi).1;omega
def bd3(u:I3):Bool:=decide ((-1000<=u.1/\u.1<=1000)/\(-1000<=u.2.1/\u.2.1<=1000)/\(-1000<=u.2.2/\u.2.2<=1000))
def faB(P:List I3)(f:FI):Bool:=(bd3 f.1&&decide (-1000<=f.2.1/\f.2.1<=1000))&&(decide (1<=f.2.2.1.length/\f.2.2.1.length<=16)&&f.2.2.1.all (λx=>lpB P.length x&&x.all λk=>decide (dt3 f.1 (g3 P k.toNat)=f.2.1))&&!decide (f.1=z3)&&nsI (f.2.2.1.map (flI (tA f.1) P)))
def dsB(P:List I3):Bool:=(List.range P.length).all λi=>(List.range i).all λk=>!decide (g3 P i=g3 P k)
def chI(I:SI):Bool:=I.1.all bd3&&(decide (I.1.length<=512/\I.2.length<=256)&&I.2.all (faB I.1)&&dsB I.1&&clB (edZ (I.2.map λf=>f.2.2.1)))
theorem cS{α:Type}(d:α){l k:List α}(hl:l.length=k.length)(h:∀i,i<l.length->l.getD i d=k.getD i d):l=k:=by
 refine List.ext_getElem hl λi h1 h2=>?_;have:=h i h1;rw[zoa,zoa,zoc h1,zoc h2] at this;exact this
theorem qI{α β:Type}(g:α->β)(d:α)(e:β){l:List α}{i:Nat}(hi:i<l.length):(l.map g).getD i e=g (l.getD i d):=by
 rw[zoa,zoa,zvi,zoc hi];rfl
def cQ(w:Pt)(u:I3):Pt:=T3.mk (w.x+(u.1:Rat)) (w.y+(u.2.1:Rat)) (w.z+(u.2.2:Rat))
def zM4(w:Pt)(f:FI):Pl:=(nr3 f.1,(f.2.1:Rat)+zF (nr3 f.1) w)
def zI0(w:Pt)(I:SI)(s:Sd):Prop:=s.1=I.1.map (cQ w)/\s.2.2=[]/\s.2.1.length=I.2.length/\∀f,f<I.2.length->(∃r:Rat,0<r/\(s.2.1.getD f zA).1=scW r (zM4 w (I.2.getD f fi0)))/\(s.2.1.getD f zA).2=(I.2.getD f fi0).2.2
theorem yHV(w:Pt)(u:I3)(n:Nat):(cQ w u).at n=w.at n+((aI3 u n:Int):Rat):=by
 match n with
 |0=>rfl
 |1=>rfl
 |_+2=>rfl
theorem yCB{w:Pt}{P:List I3}{k:Nat}(hk:k<P.length):gp (P.map (cQ w)) k=cQ w (g3 P k):=by
 show(P.map (cQ w)).getD k _=cQ w (P.getD k z3)
 rw[zoa,zoa,zvi,zoc hk];rfl
theorem yNP{w:Pt}{u:I3}{f:FI}{r:Rat}(hr:0<r):sdZ (scW r (zM4 w f)) (cQ w u)=sgI (dt3 f.1 u-f.2.1):=by
 have e:hgt (scW r (zM4 w f)) (cQ w u)=r*((dt3 f.1 u-f.2.1:Int):Rat):=by
  unfold hgt scW zM4 zF nr3 cQ dt3;simp only[zli,zru,zji];grind
 unfold sdZ;rw[e,iS hr,mH];rfl
section
variable {v:Pt}{I:SI}{s:Sd}
theorem zO0(h:zI0 v I s):xP s=I.2.map λf=>f.2.2.1:=by
 obtain⟨h1,h2,h3,C⟩:=h;refine cS [] (by rw[kQ,zde,h3]) λf hf=>?_;rw[kQ,h3] at hf;rw[rC zot,qI (λf:FI=>f.2.2.1) fi0 [] hf,(C f hf).2]
theorem zB3{f:Nat}(h:zI0 v I s)(hb:chI I=true)(hf:f<I.2.length):faB I.1 (I.2.getD f fi0)=true:=by
 unfold chI at hb;replace hb:=(zbu _ _▸hb).2;rw[zbu,zbu,zbu] at hb;exact zob.1 hb.1.1.2 _ (kJ hf)
theorem zL2(h:zI0 v I s):s.1.length=I.1.length:=by rw[h.1,zde]
theorem zCM{P:List I3}{f:FI}(h:faB P f=true){l:Nat}(hl:l<f.2.2.1.length):lpB P.length (f.2.2.1.getD l [])=true/\∀k,k<(f.2.2.1.getD l []).length->dt3 f.1 (g3 P ((f.2.2.1.getD l []).getD k 0).toNat)=f.2.1:=by
 unfold faB at h;replace h:=(zbu _ _▸h).2;rw[zbu,zbu,zbu] at h;have h1:=zob.1 h.1.1.2 _ (kJ (d:=[]) hl);rw[zbu] at h1;refine⟨h1.1,λk hk=>?_⟩;exact z4u (zob.1 h1.2 _ (kJ (d:=0) hk))
theorem yA1{f:Nat}(h:zI0 v I s)(hb:chI I=true)(hf:f<I.2.length):nmP s f/\vfP (s.2.1.getD f zA).2.1:=by
 have D:=zB3 h hb hf;have e:(s.2.1.getD f zA).2.1=(I.2.getD f fi0).2.2.1:=zbi Prod.fst (h.2.2.2 f hf).2;have J:I.1.length<=512:=by
  unfold chI at hb;replace hb:=(zbu _ _▸hb).2;rw[zbu,zbu,zbu,zfe] at hb;exact hb.1.1.1.1
 have h1:1<=(I.2.getD f fi0).2.2.1.length/\(I.2.getD f fi0).2.2.1.length<=16:=by
  have C:=D;unfold faB at C;replace C:=(zbu _ _▸C).2;rw[zbu,zbu,zbu,zfe] at C;exact C.1.1.1
 refine⟨λl H=>?_,?_⟩
 · rw[e] at H ⊢
   rw[zL2 h];exact(yBB J (zCM D H).1).2
 · rw[e]
   exact⟨h1,λl H=>(yBB J (zCM D H).1).1⟩
theorem zR4{f:Nat}(h:zI0 v I s)(hn:nmP s f)(hf:f<I.2.length):(xR s f).length=(I.2.getD f fi0).2.2.1.length/\∀l,l<(I.2.getD f fi0).2.2.1.length->(gl (xR s f) l).length=((I.2.getD f fi0).2.2.1.getD l []).length/\∀k,k<((I.2.getD f fi0).2.2.1.getD l []).length->gp (gl (xR s f) l) k=cQ v (g3 I.1 (((I.2.getD f fi0).2.2.1.getD l []).getD k 0).toNat):=by
 have e:(s.2.1.getD f zA).2.1=(I.2.getD f fi0).2.2.1:=zbi Prod.fst (h.2.2.2 f hf).2;rw[zSQ (by rw[h.2.2.1];exact hf) hn];refine⟨by rw[<-e];exact yW _ _,λl H=>?_⟩;have C:l<(s.2.1.getD f zA).2.1.length:=by rw[e];exact H
 have J:gl (zIB s f (s.2.1.getD f zA).2.1.length) l=zGN s.1 ((s.2.1.getD f zA).2.1.getD l []) ((s.2.1.getD f zA).2.1.getD l []).length:=uE _ _ C;rw[J,e];refine⟨yW _ _,λk hk=>?_⟩;have D:=hn l C k (by rw[e];exact hk);rw[e,zL2 h] at D;have M:gp (zGN s.1 ((I.2.getD f fi0).2.2.1.getD l []) ((I.2.getD f fi0).2.2.1.getD l []).length) k=gp s.1 (((I.2.getD f fi0).2.2.1.getD l []).getD k 0).toNat:=uE _ _ hk;rw[M,h.1,yCB zot]
theorem zR3{f:Nat}(h:zI0 v I s)(hn:nmP s f)(hf:f<I.2.length):yFZ (v.at (tA (I.2.getD f fi0).1).1) 1 (v.at (tA (I.2.getD f fi0).1).2) 1 ((I.2.getD f fi0).2.2.1.map (flI (tA (I.2.getD f fi0).1) I.1)) (kY s f):=by
 obtain⟨Z,c2⟩:=zR4 h hn hf;obtain⟨r,O,J⟩:=(h.2.2.2 f hf).1;have D:=zCL s f;refine⟨by rw[D.1,Z,zde],λl H=>?_⟩;rw[zde] at H;obtain⟨U,c4⟩:=c2 l H;rw[qI (flI (tA (I.2.getD f fi0).1) I.1) [] [] H];have M:(gl (kY s f) l).length=((I.2.getD f fi0).2.2.1.getD l []).length:=by rw[D.2 l];exact U
 refine⟨by rw[M];exact(zde _).symm,λm hm=>?_⟩;have C:m<((I.2.getD f fi0).2.2.1.getD l []).length:=by
  have:(flI (tA (I.2.getD f fi0).1) I.1 ((I.2.getD f fi0).2.2.1.getD l [])).length=((I.2.getD f fi0).2.2.1.getD l []).length:=zde _;omega
 have e1:gl (kY s f) l=flA (s.2.1.getD f zA).1 (gl (xR s f) l) (gl (xR s f) l).length:=uE _ _ (by rw[Z];exact H);have e2:gp (flA (s.2.1.getD f zA).1 (gl (xR s f) l) (gl (xR s f) l).length) m=jS (s.2.1.getD f zA).1 (gp (gl (xR s f) l) m):=uE _ _ (by rw[U];exact C);rw[e1,e2,c4 m C,J];unfold jS;rw[show axI (scW r (zM4 v (I.2.getD f fi0))).1=_ from(zHJ (v:=z3) O).1,show axJ (scW r (zM4 v (I.2.getD f fi0))).1=_ from(zHJ (v:=z3) O).2,yHV,yHV];have e3:gI (flI (tA (I.2.getD f fi0).1) I.1 ((I.2.getD f fi0).2.2.1.getD l [])) m=(aI3 (g3 I.1 (((I.2.getD f fi0).2.2.1.getD l []).getD m 0).toNat) (tA (I.2.getD f fi0).1).1,aI3 (g3 I.1 (((I.2.getD f fi0).2.2.1.getD l []).getD m 0).toNat) (tA (I.2.getD f fi0).1).2):=by
  unfold gI flI;exact qI (λk:Int=>(aI3 (g3 I.1 k.toNat) (tA (I.2.getD f fi0).1).1,aI3 (g3 I.1 k.toNat) (tA (I.2.getD f fi0).1).2)) 0 (0,0) C
 rw[e3];unfold ag pr;rw[yoi,yoi]
 rfl
theorem zL1{f:Nat}(h:zI0 v I s)(hb:chI I=true)(hf:f<I.2.length):uC (kY s f) 0 1=0/\ouZ (kY s f)=1/\∀l,l∈kY s f->cA l:=by
 have C:=zB3 h hb hf;unfold faB at C;replace C:=(zbu _ _▸C).2;rw[zbu] at C;exact zHE zox zox (zR3 h (yA1 h hb hf).1 hf) C.2
theorem yLZ{v:Pt}{u w:I3}(h:cQ v u=cQ v w):u=w:=by
 have g:∀(a:Rat) (x y:Int),a+(x:Rat)=a+(y:Rat)->x=y:=λa x y e=>zqu.1 zo0;exact Prod.ext (g _ _ _ (zbi T3.x h)) (Prod.ext (g _ _ _ (zbi T3.y h)) (g _ _ _ (zbi T3.z h)))
theorem yKQ(h:zI0 v I s)(hb:chI I=true):jQ s/\okS s:=by
 have H:=hb;unfold chI at H;replace H:=(zbu _ _▸H).2;rw[zbu,zbu,zbu,zfe] at H;obtain⟨⟨⟨aa,_⟩,U⟩,Z⟩:=H;have ac:=zL2 h;have ab:=h.2.2.1;have C:∀f,f<s.2.1.length->nmP s f/\vfP (s.2.1.getD f zA).2.1:=λf hf=>yA1 h hb zot;have M:vaP (xP s):=⟨by rw[kQ];omega,λf hf=>by rw[kQ] at hf;rw[rC hf];exact(C f hf).2⟩;constructor
 · refine zK3 (zYH ?_ λf hf=>⟨(C f hf).2,(C f hf).1⟩) (zX7 λi k hk hi e=>?_) (zZV (λf hf=>?_) λf hf l hl k hk=>?_) (yAW λf hf=>?_) (yHT M ?_)
   · unfold zIK
     rw[h.2.1]
     show ¬((512<s.1.length\/256<s.2.1.length)\/1024<0)
     omega
   · rw[h.1,yCB zot,yCB zot] at e
     have h1:=zob.1 (zob.1 U i (zog.2 zot)) k (zog.2 hk);rw[zje,zgu] at h1;exact h1 (yLZ e)
   · obtain⟨r,O,J⟩:=(h.2.2.2 f zot).1
     rw[J];refine zY2 (v:=z3) O λe=>?_;have D:=zB3 h hb (f:=f) zot;unfold faB at D;replace D:=(zbu _ _▸D).2;rw[zbu,zbu,zje,zgu] at D;exact D.1.2 e
   · obtain⟨r,O,J⟩:=(h.2.2.2 f zot).1
     obtain⟨c1,c2⟩:=zR4 h (C f zot).1 (f:=f) zot;obtain⟨c3,c4⟩:=c2 l zot;rw[c4 k zot,J,yNP O,(zCM (zB3 h hb (f:=f) zot) (l:=l) zot).2 k zot,yxi]
     rfl
   · exact⟨(zL1 h hb zot).1,(zL1 h hb zot).2.1⟩
   · rw[zO0 h];exact Z
 · refine⟨⟨⟨zot,zot⟩,by rw[h.2.1];exact zuu _⟩,λf hf=>?_,λf hf x hx=>(zL1 h hb zot).2.2 x hx⟩
   have h1:=(C f hf).2;exact⟨h1.1.2,λl hl=>(h1.2 l hl).1.2⟩
end
theorem yHW(v u:I3):cP v u=cQ (nr3 v) u:=by
 unfold cP cQ nr3;simp only[zli]
theorem yOC(v:I3)(f:FI):cPl v f=zM4 (nr3 v) f:=by
 unfold cPl zM4;refine Prod.ext I ?_;unfold dt3 zF nr3;simp only[zli,zji]
theorem yAM(v:I3)(n:Nat):(nr3 v).at n=((aI3 v n:Int):Rat):=by
 match n with
 |0=>rfl
 |1=>rfl
 |_+2=>rfl
section
variable {v:I3}{I:SI}{s:Sd}
theorem zAR(h:aH v I s):zI0 (nr3 v) I s:=by
 obtain⟨h1,h2,h3,C⟩:=h;refine⟨h1.trans (yge λu _=>yHW v u),h2,h3,λf hf=>?_⟩;obtain⟨⟨a,ha,e⟩,D⟩:=C f hf;exact⟨⟨_,zCC ha.1,by rw[e,yOC]⟩,D⟩
theorem zWT(h:aH v I s):xP s=I.2.map λf=>f.2.2.1:=zO0 (zAR h)
theorem zHI{f:Nat}(h:aH v I s)(hb:chI I=true)(hf:f<I.2.length):faB I.1 (I.2.getD f fi0)=true:=zB3 (zAR h) hb hf
theorem w9(h:aH v I s):s.1.length=I.1.length:=zL2 (zAR h)
theorem zR7{f:Nat}(h:aH v I s)(hb:chI I=true)(hf:f<I.2.length):nmP s f/\vfP (s.2.1.getD f zA).2.1:=yA1 (zAR h) hb hf
theorem yFR{f:Nat}(h:aH v I s)(hb:chI I=true)(hf:f<I.2.length):(xR s f).length=(I.2.getD f fi0).2.2.1.length/\∀l,l<(I.2.getD f fi0).2.2.1.length->(gl (xR s f) l).length=((I.2.getD f fi0).2.2.1.getD l []).length/\∀k,k<((I.2.getD f fi0).2.2.1.getD l []).length->gp (gl (xR s f) l) k=cP v (g3 I.1 (((I.2.getD f fi0).2.2.1.getD l []).getD k 0).toNat):=by
 have:=zR4 (zAR h) (zR7 h hb hf).1 hf;refine⟨this.1,λl C=>⟨(this.2 l C).1,λk hk=>?_⟩⟩;rw[yHW];exact(this.2 l C).2 k hk
theorem zTT{f:Nat}(h:aH v I s)(hb:chI I=true)(hf:f<I.2.length):yFZ (aI3 v (tA (I.2.getD f fi0).1).1:Rat) 1 (aI3 v (tA (I.2.getD f fi0).1).2:Rat) 1 ((I.2.getD f fi0).2.2.1.map (flI (tA (I.2.getD f fi0).1) I.1)) (kY s f):=by
 have:=zR3 (zAR h) (zR7 h hb hf).1 hf;rw[yAM,yAM] at this;exact this
theorem w8(h:aH v I s)(hb:chI I=true):jQ s/\okS s:=yKQ (zAR h) hb
end
variable {a b:Pt}
def plD(a b:Pt)(d:Dir):Pl:=(dN d 1,(if d.2 then 1 else -1)*(if d.2 then b.at d.1 else a.at d.1))
theorem aG(h:a.x<b.x/\a.y<b.y/\a.z<b.z){us:List B3}{F:List Fc}{f:Nat}(hf:f<F.length){d:Dir}(hd:eY a b us d (F.getD f zA))(ix:List Int){x:List Int}(hx:(F.getD f zA).2.1=[x]):
 nfF (us.map (cU a b),F,[]) ix f=(plD a b d,[zVW (wS (λq=>ix.getD (x.getD q 0).toNat 0) x.length)],(F.getD f zA).2.2):=by
 have J:=zTL h hf hd;obtain⟨D,c,H,C,_⟩:=hd;unfold nfF
 show(scZ (F.getD f zA).1,ouL (us.map (cU a b),F,[]) ix f ((F.getD f zA).2.1).length++zAX (us.map (cU a b),F,[]) ix f ((F.getD f zA).2.1).length,(F.getD f zA).2.2)=_
 rw[C,yJO D H,hx];have U:ouL (us.map (cU a b),F,[]) ix f 1=[nfL (us.map (cU a b),F,[]) ix f 0]:=by
  unfold ouL;rw[<-zBI J];rfl
 have O:zAX (us.map (cU a b),F,[]) ix f 1=[]:=zau J
 show(_,ouL _ ix f 1++zAX _ ix f 1,_)=_
 rw[U,O];have M:nfL (us.map (cU a b),F,[]) ix f 0=zVW (wS (λq=>ix.getD (x.getD q 0).toNat 0) x.length):=by
  unfold nfL nwL
  show zVW (wS (λq=>ix.getD ((((F.getD f zA).2.1).getD 0 []).getD q 0).toNat 0) (((F.getD f zA).2.1).getD 0 []).length)=_
  rw[hx];rfl
 rw[M];rfl
theorem yAQ(h:a.x<b.x/\a.y<b.y/\a.z<b.z)(ix:List Int)(hix:ix=[0,4,6,2,1,5,7,3]):
 nfF (pB0 a b,fB0 a b,[]) ix 0=(plD a b (1,false),[[0,4,5,1]],nmS 0 0)/\nfF (pB0 a b,fB0 a b,[]) ix 1=(plD a b (0,true),[[4,6,7,5]],nmS 0 1)/\nfF (pB0 a b,fB0 a b,[]) ix 2=(plD a b (1,true),[[2,3,7,6]],nmS 0 2)/\
 nfF (pB0 a b,fB0 a b,[]) ix 3=(plD a b (0,false),[[0,1,3,2]],nmS 0 3)/\nfF (pB0 a b,fB0 a b,[]) ix 4=(plD a b (2,false),[[0,2,6,4]],[98,111,116,116,111,109])/\nfF (pB0 a b,fB0 a b,[]) ix 5=(plD a b (2,true),[[1,5,7,3]],[116,111,112]):=by
 subst hix;have g:=zUF h;rw[oR];refine⟨?_,?_,?_,?_,?_,?_⟩
 · rw[aG h (F:=fB0 a b) (f:=0) (show 0<6 by decide) g.1 _ (x:=[0,1,5,4]) I];rfl
 · rw[aG h (F:=fB0 a b) (f:=1) (show 1<6 by decide) g.2.1 _ (x:=[1,2,6,5]) I];rfl
 · rw[aG h (F:=fB0 a b) (f:=2) (show 2<6 by decide) g.2.2.1 _ (x:=[2,3,7,6]) I];rfl
 · rw[aG h (F:=fB0 a b) (f:=3) (show 3<6 by decide) g.2.2.2.1 _ (x:=[3,0,4,7]) I];rfl
 · rw[aG h (F:=fB0 a b) (f:=4) (show 4<6 by decide) g.2.2.2.2.1 _ (x:=[3,2,1,0]) I];rfl
 · rw[aG h (F:=fB0 a b) (f:=5) (show 5<6 by decide) g.2.2.2.2.2 _ (x:=[4,5,6,7]) I];rfl
def lsB:List Nat->List Nat->Bool
  |[],[]=>false
  |[],_::_=>true
  |_::_,[]=>false
  |x::a,y::b=>if x=y then lsB a b else decide (x<y)
theorem yA7:∀a b:List Nat,lsN a b↔lsB a b=true
  |[],[]=>by simp[lsN,lsB]
  |[],_::_=>by simp[lsN,lsB]
  |_::_,[]=>by simp[lsN,lsB]
  |x::a,y::b=>by
   have ih:=yA7 a b
   by_cases h:x=y
   · simp[lsN,lsB,h,ih]
   · simp[lsN,lsB,h]
def nsB(nm:Nat->List Nat):Nat->List Nat
  |0=>[]
  |f+1=>dM (nsB nm f) (zEX (λk=>lsB (nm f) (nm ((nsB nm f).getD k 0))) (nsB nm f).length) f
theorem zLZ(nm:Nat->List Nat):∀f x,x∈nsB nm f->x<f
  |f+1,x,h=>by
   unfold nsB dM at h
   rcases zmu.1 h with h|h
   · have:=zLZ nm f x (z2e h);omega
   · rcases zfu.1 h with rfl|h
     · omega
     · have:=zLZ nm f x (z7i h);omega
theorem yBT{α β:Type}(g:α->β)(l:List α)(k:Nat)(x:α):dM (l.map g) k (g x)=(dM l k x).map g:=by
 unfold dM;rw[zle,zwu,List.map_take,List.map_drop]
theorem zLY{s:Sd}{nm:Nat->List Nat}{n:Nat}(hn:∀i,i<n->(nfF s (ixZ s) i).2.2=nm i)(hd:∀i,i<n->∀k,k<i->¬nm i=nm k):∀f,f<=n->zAO s f=(nsB nm f).map λi=>nfF s (ixZ s) i
  |0,_=>rfl
  |f+1,hf=>by
   have ih:=zLY hn hd f zot;unfold zAO nsB;have hb:aO (zSB (nfF s (ixZ s) f) (zAO s f)) (zAO s f).length=zEX (λk=>lsB (nm f) (nm ((nsB nm f).getD k 0))) (nsB nm f).length:=by
    rw[ih,zde];refine zCT _ λk hk=>?_;have C:=zLZ nm f _ (kJ (d:=0) hk);have e:((nsB nm f).map λi=>nfF s (ixZ s) i).getD k zA=nfF s (ixZ s) ((nsB nm f).getD k 0):=by
     rw[zoa,zvi,zoc hk,zoa,zoc hk];rfl
    unfold zSB lsF;rw[e,hn f zot,hn _ zot,zae (hd f zot _ C)];exact yA7 _ _
   rw[hb,ih,yBT]
variable {a b:Pt}
def nm0(i:Nat):List Nat:=([[115,48,46,48],[115,48,46,49],[115,48,46,50],[115,48,46,51],[98,111,116,116,111,109],[116,111,112]]:List (List Nat)).getD i []
def fB1(a b:Pt):List Fc:=[(plD a b (2,false),[[0,2,6,4]],[98,111,116,116,111,109]),(plD a b (1,false),[[0,4,5,1]],[115,48,46,48]),(plD a b (0,true),[[4,6,7,5]],[115,48,46,49]),(plD a b (1,true),[[2,3,7,6]],[115,48,46,50]),(plD a b (0,false),[[0,1,3,2]],[115,48,46,51]),(plD a b (2,true),[[1,5,7,3]],[116,111,112])]
theorem yAL(h:a.x<b.x/\a.y<b.y/\a.z<b.z):nrF (pB0 a b,fB0 a b,[])=fB1 a b:=by
 have C:=yBQ h;obtain⟨h0,h1,h2,h3,H,D⟩:=yAQ h _ C;rw[yKL zox] at h0 h1 h2 h3;have J:∀i,i<6->(nfF (pB0 a b,fB0 a b,[]) (ixZ (pB0 a b,fB0 a b,[])) i).2.2=nm0 i:=λi hi=>by
  have:i=0\/i=1\/i=2\/i=3\/i=4\/i=5:=by omega
  rcases this with rfl|rfl|rfl|rfl|rfl|rfl
  · rw[h0];rfl
  · rw[h1];rfl
  · rw[h2];rfl
  · rw[h3];rfl
  · rw[H];rfl
  · rw[D];rfl
 have hd:∀i,i<6->∀k,k<i->¬nm0 i=nm0 k:=by decide
 unfold nrF;rw[zau (zJM h)]
 show zAO _ 6=_
 rw[zLY J hd 6 (zbe _),show nsB nm0 6=[4,0,1,2,3,5] by decide];simp only[zwu,yqe];rw[h0,h1,h2,h3,H,D]
 rfl
def yFS(u w:I3):Bool:=decide (u.1<w.1\/(u.1=w.1/\(u.2.1<w.2.1\/(u.2.1=w.2.1/\u.2.2<w.2.2))))
theorem yNU(v u w:I3):lsP (cP v u) (cP v w)↔yFS u w=true:=by
 unfold lsP yFS cP;rw[zfe];simp only[z1u,zqu];omega
def lsI(I:SI):List (List (List Int)):=I.2.map λf=>f.2.2.1
def zN8(I:SI):List Int:=orB (edZ (lsI I)) (λi k=>yFS (g3 I.1 i) (g3 I.1 k)) I.1.length
def ixJ(o:List Int)(n:Nat):Nat->List Int
  |0=>List.replicate n (0:Int)
  |i+1=>(ixJ o n i).set (o.getD i 0).toNat (i:Int)
def ixI(I:SI):List Int:=ixJ (zN8 I) I.1.length (zN8 I).length
def nwB(ix x:List Int):List Int:=zVW (wS (λq=>ix.getD (x.getD q 0).toNat 0) x.length)
def zY0{α:Type}(p:Nat->Bool)(g:Nat->α):Nat->List α
  |0=>[]
  |i+1=>zY0 p g i++(if p i then[g i] else[])
def zI4(p:Nat->Bool)(g:Nat->List Int):Nat->List (List Int)
  |0=>[]
  |i+1=>if p i then zI4 p g i else dM (zI4 p g i) (zEX (λk=>decide (cW (g i) ((zI4 p g i).getD k [])<0)) (zI4 p g i).length) (g i)
def poB(P:List I3)(f:FI)(i:Nat):Bool:=decide (0<arG (flI (tA f.1) P (f.2.2.1.getD i [])) (f.2.2.1.getD i []).length)
def nfB(P:List I3)(ix:List Int)(f:FI):FI:=(f.1,f.2.1,zY0 (poB P f) (λi=>nwB ix (f.2.2.1.getD i [])) f.2.2.1.length++zI4 (poB P f) (λi=>nwB ix (f.2.2.1.getD i [])) f.2.2.1.length,f.2.2.2)
def nmI(I:SI)(i:Nat):List Nat:=(I.2.getD i fi0).2.2.2
def nrI(I:SI):SI:=((zN8 I).map λk=>g3 I.1 k.toNat,(nsB (nmI I) I.2.length).map λi=>nfB I.1 (ixI I) (I.2.getD i fi0))
def nmB(I:SI):Bool:=(List.range I.2.length).all λi=>(List.range i).all λk=>!decide (nmI I i=nmI I k)
theorem zTD{α:Type}{P:Nat->Prop}{p:Nat->Bool}(g:Nat->α):∀n,(∀i,i<n->(P i↔p i=true))->bA P g n=zY0 p g n
  |0,_=>rfl
  |n+1,h=>by
   have ih:=zTD g n λi hi=>h i zot;have h1:=h n zot;unfold bA zY0;rw[ih]
   by_cases e:P n
   · rw[zau e,zau (h1.1 e)]
   · rw[zae e,zae λe'=>e (h1.2 e')]
theorem yB0{s:Sd}{ix:List Int}{f:Nat}{p:Nat->Bool}{g:Nat->List Int}:∀n,(∀i,i<n->(zE3 s f i↔p i=true)/\nfL s ix f i=g i)->zAX s ix f n=zI4 p g n
  |0,_=>rfl
  |n+1,h=>by
   have ih:=yB0 (s:=s) (ix:=ix) (f:=f) n λi hi=>h i zot;obtain⟨h1,h2⟩:=h n zot;unfold zAX zI4;rw[ih,h2,zCT (P:=yB1 (g n) (zI4 p g n)) (p:=λk=>decide (cW (g n) ((zI4 p g n).getD k [])<0)) _ λk hk=>(show cW (g n) ((zI4 p g n).getD k [])<0↔_ from zfe.symm)]
   by_cases e:zE3 s f n
   · rw[zau e,zau (h1.1 e)]
   · rw[zae e,zae λe'=>e (h1.2 e')]
theorem zC9{q:Rat}(e:yQ q=0):q=0:=by
 rw[rW] at e
 split at e
 · assumption
 · split at e<;>exact absurd e zox
theorem zTF(a r:Rat)(pl:Pl):scW a (scW r pl)=scW (a*r) pl:=by
 unfold scW;refine Prod.ext ?_ ?_
 · show T3.mk (a*(r*_)) (a*(r*_)) (a*(r*_))=T3.mk (a*r*_) (a*r*_) (a*r*_)
   rw[y1u,y1u,y1u]
 · show a*(r*_)=a*r*_
   rw[y1u]
theorem yK7{r:Rat}(hr:0<r){n:Int}(hn:¬n=0):ivA (r*(n:Rat))*r=1/((if n<0 then -n else n:Int):Rat):=by
 have D:¬(n:Rat)=0:=λe=>hn (zqu.1 e);have C:¬r=0:=λe=>absurd (e▸hr) zox;have hx:¬r*(n:Rat)=0:=λe=>(zoe.1 e).elim C D;have M:iB (r*(n:Rat))=r*((if n<0 then -n else n:Int):Rat):=by
  have h1:=zLA hr n;unfold iB;simp only[pY]
  by_cases h:n<0
  · rw[zau (h1.2 h),zau h,z8e];grind
  · rw[zae (λe=>h (h1.1 e)),zae h]
 have H:¬((if n<0 then -n else n:Int):Rat)=0:=λe=>by
  have:=zqu.1 e
  split at this<;>omega
 unfold ivA;rw[M,zae (λe=>(zoe.1 e).elim C H)];generalize ((if n<0 then -n else n:Int):Rat)=m at H ⊢;have J:((1:Int):Rat)=1:=I;rw[J];grind
theorem yJM{n:I3}{D r:Rat}{B:Int}(hr:0<r)(hn:¬n=z3)(hb:(-B<=n.1/\n.1<=B)/\(-B<=n.2.1/\n.2.1<=B)/\(-B<=n.2.2/\n.2.2<=B)):∃a:Int,(0<a/\a<=B)/\scZ (scW r (nr3 n,D))=scW (1/(a:Rat)) (nr3 n,D):=by
 have g:∀x:Int,-B<=x/\x<=B->¬yQ (r*(x:Rat))=0->∃a:Int,(0<a/\a<=B)/\scW (ivA (r*(x:Rat))) (scW r (nr3 n,D))=scW (1/(a:Rat)) (nr3 n,D):=λx h1 h2=>by
  have C:¬x=0:=λe=>h2 (by
   rw[e];exact zau (ywe _))
  refine⟨if x<0 then -x else x,by split<;>omega,?_⟩;rw[zTF,yK7 hr C]
 unfold scZ
 split
 · rename_i e
   exact g _ hb.1 e
 · split
   · rename_i e
     exact g _ hb.2.1 e
   · split
     · rename_i e
       exact g _ hb.2.2 e
     · rename_i e1 e2 e3
       have J:r*(n.1:Rat)=0:=zC9 (zdi e1);have H:r*(n.2.1:Rat)=0:=zC9 (zdi e2);have z3:r*(n.2.2:Rat)=0:=zC9 (zdi e3);have q:∀x:Int,r*(x:Rat)=0->x=0:=λx e=>zqu.1 ((zoe.1 e).resolve_left λe=>by rw[e] at hr;exact absurd hr zox);exact absurd (Prod.ext (q _ J) (Prod.ext (q _ H) (q _ z3))) hn
theorem yJL{v:I3}{f:FI}{r:Rat}(hr:0<r)(hn:¬f.1=z3)(hb:bd3 f.1=true):∃a:Int,(0<a/\a<=1000)/\scZ (scW r (cPl v f))=scW (1/(a:Rat)) (cPl v f):=yJM hr hn (z4u hb)
section
variable {v:I3}{I:SI}{s:Sd}
theorem zL6(h:aH v I s)(hb:chI I=true):fU s=zN8 I:=by
 have C:=w9 h;unfold fU zN8;rw[zRK (lt:=λi k=>yFS (g3 I.1 i) (g3 I.1 k)) (n:=s.1.length) (λi k hi hk=>by rw[h.1,zT8 zot,zT8 zot];exact yNU _ _ _) _ (zbe _),zWT h,C];rfl
theorem zTU(h:aH v I s)(hb:chI I=true):∀i,zI3 s i=ixJ (zN8 I) I.1.length i
  |0=>by unfold zI3 ixJ;rw[w9 h]
  |i+1=>by unfold zI3 ixJ;rw[zTU h hb i,zL6 h hb]
theorem yKW(h:aH v I s)(hb:chI I=true):ixZ s=ixI I:=by
 unfold ixZ ixI;rw[zTU h hb,zL6 h hb]
theorem yKV{f:Nat}(h:aH v I s)(hb:chI I=true)(hf:f<I.2.length):zL7 v (nfB I.1 (ixI I) (I.2.getD f fi0)) (nfF s (ixZ s) f):=by
 obtain⟨r,hr,O⟩:=zTS (h.2.2.2 f hf);have e:=(h.2.2.2 f hf).2;have e1:(s.2.1.getD f zA).2.1=(I.2.getD f fi0).2.2.1:=zbi Prod.fst e;have e2:(s.2.1.getD f zA).2.2=(I.2.getD f fi0).2.2.2:=zbi Prod.snd e;have C:=zHI h hb hf;have U:¬(I.2.getD f fi0).1=z3:=by
  unfold faB at C;replace C:=(zbu _ _▸C).2;rw[zbu,zbu,zje,zgu] at C;exact C.1.2
 have Z:=zTT h hb hf;have D:∀i,i<(I.2.getD f fi0).2.2.1.length->(zE3 s f i↔poB I.1 (I.2.getD f fi0) i=true):=λi hi=>by
  have hl:=Z.2 i (by rw[zde];exact hi);rw[qI (flI (tA (I.2.getD f fi0).1) I.1) [] [] hi] at hl;unfold zE3 poB;rw[zFN zox zox hl,y8,zfe];have:(flI (tA (I.2.getD f fi0).1) I.1 ((I.2.getD f fi0).2.2.1.getD i [])).length=((I.2.getD f fi0).2.2.1.getD i []).length:=zde _;rw[this]
 have H:∀i,nfL s (ixZ s) f i=nwB (ixI I) ((I.2.getD f fi0).2.2.1.getD i []):=λi=>by
  unfold nfL nwB nwL;rw[yKW h hb,e1]
 have aa:bd3 (I.2.getD f fi0).1=true:=by
  unfold faB at C;exact(zbu _ _▸(zbu _ _▸C).1).1
 obtain⟨r',M,J⟩:=yJL (v:=v) hr U aa;constructor
 · refine⟨r',M,?_⟩
   show scZ (s.2.1.getD f zA).1=_
   rw[O,J];rfl
 · refine Prod.ext ?_ e2
   show ouL s (ixZ s) f (s.2.1.getD f zA).2.1.length++zAX s (ixZ s) f (s.2.1.getD f zA).2.1.length=_
   rw[e1];have g1:ouL s (ixZ s) f (I.2.getD f fi0).2.2.1.length=zY0 (poB I.1 (I.2.getD f fi0)) (λi=>nwB (ixI I) ((I.2.getD f fi0).2.2.1.getD i [])) (I.2.getD f fi0).2.2.1.length:=by
    unfold ouL;rw[zTD (nfL s (ixZ s) f) _ D]
    congr 1
    funext i
    exact H i
   rw[g1,yB0 (p:=poB I.1 (I.2.getD f fi0)) (g:=λi=>nwB (ixI I) ((I.2.getD f fi0).2.2.1.getD i [])) _ λi hi=>⟨D i hi,H i⟩]
   rfl
theorem yA4(h:aH v I s)(hb:chI I=true)(hn:nmB I=true):aH v (nrI I) (nrP s,nrF s,nrE s):=by
 have hs:=(w8 h hb).1;have U:=w9 h;have H:=zL6 h hb;have D:zAO s s.2.1.length=(nsB (nmI I) I.2.length).map λi=>nfF s (ixZ s) i:=by
  rw[h.2.2.1];refine zLY (n:=I.2.length) (λi hi=>by show(s.2.1.getD i zA).2.2=_;exact zbi Prod.snd (h.2.2.2 i hi).2) (λi hi k hk=>?_) _ (zbe _);have h1:=zob.1 (zob.1 hn i (zog.2 hi)) k (zog.2 hk);rw[zje,zgu] at h1;exact h1
 refine⟨?_,?_,?_,?_⟩
 · show nrP s=_
   unfold nrP;rw[zau hs];unfold yAO;refine cS zT (by rw[yW,H];show _=(((zN8 I).map _).map _).length;rw[zde,zde]) λi hi=>?_;rw[yW] at hi;have Z:=oT (s:=s) (i:=s.1.length) (k:=i) hi;rw[uE _ _ hi]
   show _=(((zN8 I).map λk=>g3 I.1 k.toNat).map (cP v)).getD i zT
   rw[H] at hi;rw[qI (cP v) z3 zT (by rw[zde];exact hi),qI (λk:Int=>g3 I.1 k.toNat) 0 z3 hi,<-H,h.1];have:((fU s).getD i 0)=(aL s s.1.length).getD i 0:=rfl;exact zT8 zot
 · show nrE s=[]
   unfold nrE;rw[zau hs];exact h.2.1
 · show(nrF s).length=((nsB (nmI I) I.2.length).map _).length
   unfold nrF;rw[zau hs,D,zde,zde]
 · intro f hf
   have C:f<(nsB (nmI I) I.2.length).length:=by
    have:((nsB (nmI I) I.2.length).map λi=>nfB I.1 (ixI I) (I.2.getD i fi0)).length=_:=zde _;have J:f<((nsB (nmI I) I.2.length).map λi=>nfB I.1 (ixI I) (I.2.getD i fi0)).length:=hf;omega
   have hx:=zLZ _ _ _ (kJ (d:=0) C);have O:(nrI I).2.getD f fi0=nfB I.1 (ixI I) (I.2.getD ((nsB (nmI I) I.2.length).getD f 0) fi0):=qI (λi=>nfB I.1 (ixI I) (I.2.getD i fi0)) 0 fi0 C;have M:(nrF s).getD f zA=nfF s (ixZ s) ((nsB (nmI I) I.2.length).getD f 0):=by
    unfold nrF;rw[zau hs,D];exact qI (λi=>nfF s (ixZ s) i) 0 zA C
   show zL7 v ((nrI I).2.getD f fi0) ((nrF s).getD f zA)
   rw[O,M];exact yKV h hb hx
end
def fdI(B:List PI)(p:PI):Nat->Int
  |0=>-1
  |j+1=>if B.getD j (0,0)=p then(j:Int) else fdI B p j
def adI(B:List PI)(p:PI):List PI:=if fdI B p B.length<0 then B++[p] else B
def anI(B:List PI)(p:PI):Int:=if fdI B p B.length<0 then(B.length:Int) else fdI B p B.length
def plI(B x:List PI):Nat->List PI
  |0=>B
  |k+1=>adI (plI B x k) (x.getD k (0,0))
def pnI(B x:List PI):Nat->List Int:=wS λk=>anI (plI B x k) (x.getD k (0,0))
def zZL(T:List (List PI)):Nat->List PI
  |0=>[]
  |i+1=>plI (zZL T i) (T.getD i []) (T.getD i []).length
def bsI(T:List (List PI)):List PI:=zZL T T.length
def bxI(T:List (List PI)):List (List Int):=wS (λi=>pnI (zZL T i) (T.getD i []) (T.getD i []).length) T.length
def ppI(T:List (List PI))(h:Int):List I3:=wS (λi=>(((bsI T).getD (i%(bsI T).length) (0,0)).1,((bsI T).getD (i%(bsI T).length) (0,0)).2,if((bsI T).length:Int)<=(i:Int) then h else 0)) (2*(bsI T).length)
def xaI(T:List (List PI))(i k:Nat):Int:=((bxI T).getD i []).getD k 0
def xbI(T:List (List PI))(i k:Nat):Int:=((bxI T).getD i []).getD ((k+1)%((bxI T).getD i []).length) 0
def snI(T:List (List PI))(h:Int)(i k:Nat):I3:=((g3 (ppI T h) (xbI T i k).toNat).2.1-(g3 (ppI T h) (xaI T i k).toNat).2.1,-((g3 (ppI T h) (xbI T i k).toNat).1-(g3 (ppI T h) (xaI T i k).toNat).1),0)
def sdI(T:List (List PI))(h:Int)(i k:Nat):FI:=(snI T h i k,dt3 (snI T h i k) (g3 (ppI T h) (xaI T i k).toNat),[[xaI T i k,xbI T i k,xbI T i k+((bsI T).length:Int),xaI T i k+((bsI T).length:Int)]],[115,48+i,46,48+k])
def prI(T:List (List PI))(h:Int):SI:=(ppI T h,gP (λi=>wS (λk=>sdI T h i k) ((bxI T).getD i []).length) (bxI T).length++
 [((0,0,-1),0,wS (λi=>lD ((bxI T).getD i []) ((bxI T).getD i []).length) (bxI T).length,[98,111,116,116,111,109]),
  ((0,0,1),h,wS (λi=>wS (λk=>((bxI T).getD i []).getD k 0+((bsI T).length:Int)) ((bxI T).getD i []).length) (bxI T).length,[116,111,112])])
def sb3(u w:I3):I3:=(u.1-w.1,u.2.1-w.2.1,u.2.2-w.2.2)
def cx3(a b:I3):I3:=(a.2.1*b.2.2-a.2.2*b.2.1,a.2.2*b.1-a.1*b.2.2,a.1*b.2.1-a.2.1*b.1)
def th3(a b c:I3):I3:=cx3 (sb3 b a) (sb3 c a)
def ng3(n:I3):I3:=(-n.1,-n.2.1,-n.2.2)
def tsI(a b c:I3)(i k:Int)(nm:List Nat):FI:=(th3 a b c,dt3 (th3 a b c) a,[[i,k,3]],nm)
def pyI(A B C T:I3):SI:=([A,B,C,T],[tsI A B T 0 1 [115,48],tsI B C T 1 2 [115,49],tsI C A T 2 0 [115,50],(ng3 (th3 A B C),-dt3 (th3 A B C) A,[[2,1,0]],[98,97,115,101])])
def teI(p c q e f g:Nat):SI:=pyI (0,0,0) (1+p,0,0) (c,1+q,0) (e,f,1+g)
def bxJ(p q r:Int):SI:=([(0,0,0),(0,0,r),(0,q,0),(0,q,r),(p,0,0),(p,0,r),(p,q,0),(p,q,r)],[((-1,0,0),0,[[0,1,3,2]],[120,48]),((1,0,0),p,[[4,6,7,5]],[120,49]),((0,-1,0),0,[[0,4,5,1]],[121,48]),((0,1,0),q,[[2,3,7,6]],[121,49]),((0,0,-1),0,[[0,2,6,4]],[122,48]),((0,0,1),r,[[1,5,7,3]],[122,49])])
def baT:List (List (List PI)):=[[[(0,0),(2,0),(2,1),(1,1),(1,2),(0,2)]],[[(0,0),(3,0),(3,3),(0,3)],[(1,1),(1,2),(2,2),(2,1)]],[[(0,0),(3,0),(3,3),(0,3)],[(1,1),(0,0),(1,2)]],[[(0,0),(1,0),(2,0),(2,2),(0,1)]]]
def trT(a b c:Nat):List (List PI):=[[(0,0),((1+a:Nat),0),((b:Nat),(1+c:Nat))]]
def zDI(I:SI):Bool:=chI I&&nmB I&&chI (nrI I)
def teB(p c q:Nat):Bool:=(List.range 3).all λe=>(List.range 3).all λf=>(List.range 3).all λg=>zDI (teI p c q e f g)
variable {x y X Y:Rat}
def oneI(p:Prop):Int:=if p then 1 else 0
variable {l1 h1 l2 h2 l3 h3:Rat}
variable {a b:Pt}
def fB2(a b:Pt):List Fc:=[(plD a b (2,false),[[0,2,6,4]],[122,48]),(plD a b (1,false),[[0,4,5,1]],[121,48]),(plD a b (0,true),[[4,6,7,5]],[120,49]),(plD a b (1,true),[[2,3,7,6]],[121,49]),(plD a b (0,false),[[0,1,3,2]],[120,48]),(plD a b (2,true),[[1,5,7,3]],[122,49])]
theorem yFC(h:dX a b):prP (blL a b) a.z b.z=uB1.map (cU a b)/\prF (blL a b) a.z b.z=fB1 a b:=by
 have C:=zUW h;have D:=yL6 h;rw[(yGT h).1] at D;unfold prP prF;rw[zau D,zau D,zN1 C.1 C.2.1];exact⟨yAN C,yAL C⟩
theorem zUY(h:dX a b):blS a b=(uB1.map (cU a b),fB2 a b,[]):=by
 obtain⟨h1,h2⟩:=yFC h;unfold blS blG;rw[yEE,h1,h2];refine zbi (λz=>(uB1.map (cU a b),z,([]:List En))) ?_;simp only[fB1,fB2,zwu,yqe,rnF];simp[rnN]
variable {a b:Pt}
theorem zMY:eY a b uB1 (2,false) ((fB2 a b).getD 0 zA)/\eY a b uB1 (1,false) ((fB2 a b).getD 1 zA)/\eY a b uB1 (0,true) ((fB2 a b).getD 2 zA)/\eY a b uB1 (1,true) ((fB2 a b).getD 3 zA)/\eY a b uB1 (0,false) ((fB2 a b).getD 4 zA)/\eY a b uB1 (2,true) ((fB2 a b).getD 5 zA):=
 ⟨⟨zox,1,zox,rfl,0,2,6,4,rfl,zox,zox⟩,⟨zox,1,zox,rfl,0,4,5,1,rfl,zox,zox⟩,⟨zox,1,zox,rfl,4,6,7,5,rfl,zox,zox⟩,⟨zox,1,zox,rfl,2,3,7,6,rfl,zox,zox⟩,⟨zox,1,zox,rfl,0,1,3,2,rfl,zox,zox⟩,⟨zox,1,zox,rfl,1,5,7,3,rfl,zox,zox⟩⟩
theorem zAT:xP (uB1.map (cU a b),fB2 a b,[])=[[[0,2,6,4]],[[0,4,5,1]],[[4,6,7,5]],[[2,3,7,6]],[[0,1,3,2]],[[1,5,7,3]]]:=rfl
theorem zYQ(h:a.x<b.x/\a.y<b.y/\a.z<b.z):jQ (uB1.map (cU a b),fB2 a b,[]):=by
 have g:∀i,i<uB1.length->∀k,k<i->¬uB1.getD i u0=uB1.getD k u0:=by decide +kernel
 obtain⟨h0,h1,h2,h3,H,D⟩:=zMY (a:=a) (b:=b);refine zUV h (λi k hk hi=>g i hi k hk) ⟨zox,show 6<=256 by decide⟩ (λf hf=>?_) (λf hf=>?_) ?_ ?_
 · have C:f<6:=hf
   have:f=0\/f=1\/f=2\/f=3\/f=4\/f=5:=by omega
   rcases this with rfl|rfl|rfl|rfl|rfl|rfl
   · exact⟨_,h0⟩
   · exact⟨_,h1⟩
   · exact⟨_,h2⟩
   · exact⟨_,h3⟩
   · exact⟨_,H⟩
   · exact⟨_,D⟩
 · have C:f<6:=hf
   have:f=0\/f=1\/f=2\/f=3\/f=4\/f=5:=by omega
   rcases this with rfl|rfl|rfl|rfl|rfl|rfl
   · show vfP [[0,2,6,4]];decide +kernel
   · show vfP [[0,4,5,1]];decide +kernel
   · show vfP [[4,6,7,5]];decide +kernel
   · show vfP [[2,3,7,6]];decide +kernel
   · show vfP [[0,1,3,2]];decide +kernel
   · show vfP [[1,5,7,3]];decide +kernel
 · rw[zAT];decide +kernel
 · rw[zAT];decide +kernel
variable {a b:Pt}
theorem zTN(h:a.x<b.x/\a.y<b.y/\a.z<b.z):fU (uB1.map (cU a b),fB2 a b,[])=[0,1,2,3,4,5,6,7]:=by
 rw[zJT h.1 h.2.1 h.2.2,zAT]
 decide +kernel
theorem yF4(h:a.x<b.x/\a.y<b.y/\a.z<b.z):ixZ (uB1.map (cU a b),fB2 a b,[])=[0,1,2,3,4,5,6,7]:=by
 have C:=zTN h;unfold ixZ;rw[zSI C,C]
 show ixB _ 8 8=_
 decide
def fB3(a b:Pt):List Fc:=[(plD a b (0,false),[[0,1,3,2]],[120,48]),(plD a b (0,true),[[4,6,7,5]],[120,49]),(plD a b (1,false),[[0,4,5,1]],[121,48]),(plD a b (1,true),[[2,3,7,6]],[121,49]),(plD a b (2,false),[[0,2,6,4]],[122,48]),(plD a b (2,true),[[1,5,7,3]],[122,49])]
def nm1(i:Nat):List Nat:=([[122,48],[121,48],[120,49],[121,49],[120,48],[122,49]]:List (List Nat)).getD i []
theorem yFM(h:a.x<b.x/\a.y<b.y/\a.z<b.z)(ix:List Int)(hix:ix=[0,1,2,3,4,5,6,7]):∀i,i<6->nfF (uB1.map (cU a b),fB2 a b,[]) ix i=(fB2 a b).getD i zA:=by
 subst hix;obtain⟨h0,h1,h2,h3,D,C⟩:=zMY (a:=a) (b:=b);intro i hi;have:i=0\/i=1\/i=2\/i=3\/i=4\/i=5:=by omega
 rcases this with rfl|rfl|rfl|rfl|rfl|rfl
 · rw[aG h (F:=fB2 a b) (f:=0) (show 0<6 by decide) h0 _ (x:=[0,2,6,4]) I];rfl
 · rw[aG h (F:=fB2 a b) (f:=1) (show 1<6 by decide) h1 _ (x:=[0,4,5,1]) I];rfl
 · rw[aG h (F:=fB2 a b) (f:=2) (show 2<6 by decide) h2 _ (x:=[4,6,7,5]) I];rfl
 · rw[aG h (F:=fB2 a b) (f:=3) (show 3<6 by decide) h3 _ (x:=[2,3,7,6]) I];rfl
 · rw[aG h (F:=fB2 a b) (f:=4) (show 4<6 by decide) D _ (x:=[0,1,3,2]) I];rfl
 · rw[aG h (F:=fB2 a b) (f:=5) (show 5<6 by decide) C _ (x:=[1,5,7,3]) I];rfl
theorem zST(h:dX a b):blP a b=uB1.map (cU a b)/\blF a b=fB3 a b:=by
 have C:=zUW h;obtain⟨_,O,M⟩:=yGT h;rw[O,M,zUY h];have hs:=zYQ C;have H:=zTN C;have D:=yF4 C;refine⟨?_,?_⟩
 · unfold nrP
   rw[zau hs];unfold yAO;rw[H];rfl
 · have hf:=yFM C _ D
   have J:∀i,i<6->(nfF (uB1.map (cU a b),fB2 a b,[]) (ixZ (uB1.map (cU a b),fB2 a b,[])) i).2.2=nm1 i:=λi hi=>by
    rw[hf i hi];have:i=0\/i=1\/i=2\/i=3\/i=4\/i=5:=by omega
    rcases this with rfl|rfl|rfl|rfl|rfl|rfl<;>rfl
   unfold nrF;rw[zau hs]
   show zAO _ 6=_
   rw[zLY J zox 6 (zbe _),show nsB nm1 6=[4,2,1,3,0,5] by decide];simp only[zwu,yqe];rw[hf 0 zox,hf 1 zox,hf 2 zox,hf 3 zox,hf 4 zox,hf 5 zox]
   rfl
variable {a b:Pt}
theorem zN2{P:List Pt}(h:0<yQ (arZ P 0 1)):cA P:=zD2 λe=>by
 have:arZ P 0 1=0:=e;rw[this] at h;exact absurd h zox
theorem yDF(h:a.x<b.x/\a.y<b.y/\a.z<b.z){us:List B3}{F:List Fc}(hu:us.length<=512/\F.length<=256)(hF:∀f,f<F.length->∃d,eY a b us d (F.getD f zA)):okS (us.map (cU a b),F,[]):=by
 refine⟨⟨⟨?_,?_⟩,zuu _⟩,λf hf=>?_,λf hf x hx=>?_⟩
 · show(us.map (cU a b)).length<=1000
   rw[zde];omega
 · show F.length<=1000
   omega
 · obtain⟨d,_,c,_,_,i,j,k,l,M,_⟩:=hF f hf
   show(F.getD f zA).2.1.length<=16/\∀l,l<(F.getD f zA).2.1.length->((F.getD f zA).2.1.getD l []).length<=64
   rw[M];refine⟨show 1<=16 by decide,λm J=>?_⟩;have D:m=0:=by have:m<1:=J;omega
   subst D
   show 4<=64
   decide
 · obtain⟨d,hd⟩:=hF f hf
   have C:=zTL h hf hd;obtain⟨vs,ht,O,H⟩:=zFT hf hd;obtain⟨v1,v2,v3,v4,rfl⟩:∃v1 v2 v3 v4,vs=[v1,v2,v3,v4]:=by
    match vs,O with
    |[v1,v2,v3,v4],_=>exact⟨_,_,_,_,rfl⟩
   have e:kY (us.map (cU a b),F,[]) f=[[v1,v2,v3,v4].map λu=>jS (F.getD f zA).1 (cU a b u)]:=yCL H;unfold zE3 at C;rw[e] at C hx;rw[zui.1 hx];exact zN2 C
theorem yDJ(h:dX a b):blH a b:=by
 have C:=zUW h;refine⟨λx hx=>?_,λ_=>?_,?_⟩
 · have:x=bB a b:=zui.1 hx
   rw[this];exact zN2 (yDS C.1 C.2.1)
 · rw[zN1 C.1 C.2.1,oR]
   exact yDF C ⟨zox,show 6<=256 by decide⟩ (zUG C)
 · rw[zUY h]
   obtain⟨h0,h1,h2,h3,J,H⟩:=zMY (a:=a) (b:=b);refine yDF C ⟨zox,show 6<=256 by decide⟩ λf hf=>?_;have D:f<6:=hf;have:f=0\/f=1\/f=2\/f=3\/f=4\/f=5:=by omega
   rcases this with rfl|rfl|rfl|rfl|rfl|rfl
   · exact⟨_,h0⟩
   · exact⟨_,h1⟩
   · exact⟨_,h2⟩
   · exact⟨_,h3⟩
   · exact⟨_,J⟩
   · exact⟨_,H⟩
def yNO(r:Rat)(n:Int):Prop:=¬((yQ r<0\/n<0)\/64<n)
def mrLo(r:Rat)(n:Int):Rat:=if yNO r n then zNY r n else 0
def mrHi(r:Rat)(n:Int):Rat:=if yNO r n then rtHi r n else 0
theorem zA0{a b:Rat}:0<=xZ a b↔b<=a:=by unfold xZ;grind
abbrev Tri:=T3 Pt
def pnA(s:Sd)(i:Int):Pt:=s.1.getD i.toNat zT
def inR(s:Sd)(i:Int):Prop:=0<=i/\i<s.1.length
def fanT(s:Sd)(l:List Int)(q:Nat):Tri:=T3.mk (pnA s (l.getD 0 0)) (pnA s (l.getD (q+1) 0)) (pnA s (l.getD (q+2) 0))
def fanL(s:Sd)(l:List Int):Nat->List Tri:=wS (fanT s l)
def yN4(s:Sd)(ls:List (List Int)):Nat->List Tri:=gP λi=>fanL s (ls.getD i []) ((ls.getD i []).length-2)
def yMF(s:Sd)(F:List Fc):Nat->List Tri:=gP λf=>yN4 s (F.getD f zA).2.1 (F.getD f zA).2.1.length
def smT(t:Tri):Pt:=wV (wV t.x t.y) t.z
def scT(q:Rat)(p:Pt):Pt:=T3.mk (q*p.x) (q*p.y) (q*p.z)
def sumD(l:List Tri):Rat:=l.foldl (λa t=>a+yB t.x t.y t.z) 0
def sumC(l:List Tri):Pt:=l.foldl (λa t=>wV a (scT (yB t.x t.y t.z) (smT t))) zT
def sumV(l:List Tri):Pt:=l.foldl (λa t=>wV a (zO (yJ t.y t.x) (yJ t.z t.x))) zT
def yEA(s:Sd):Rat:=sumD (yMF s s.2.1 s.2.1.length)
def cenS(s:Sd):Pt:=sumC (yMF s s.2.1 s.2.1.length)
def arV(s:Sd)(f:Fc):Pt:=scT (1/2) (sumV (yN4 s f.2.1 f.2.1.length))
def lqP(k:Nat)(p:Pt):Prop:=lq p.x<=k/\lq p.y<=k/\lq p.z<=k
theorem yNE{h:Mem}{cs:List Go.Value}{a b:Pt}{k l:Nat}(r:(rpT (rpQ k)).R h cs a)(e:a=b)(hl:lqP l b):(rpT (rpQ l)).R h cs b:=by
 subst e;obtain⟨x,_,rfl,⟨H,_⟩,y,z,rfl,⟨D,_⟩,⟨C,_⟩⟩:=r;exact⟨x,_,I,⟨H,hl.1⟩,y,z,I,⟨D,hl.2.1⟩,⟨C,hl.2.2⟩⟩
def fcOk(s:Sd)(f:Fc):Prop:=(∀u v,u<f.2.1.length->v<(f.2.1.getD u []).length->inR s ((f.2.1.getD u []).getD v 0))/\(∀u,u<f.2.1.length->(f.2.1.getD u []).length<=1000)/\f.2.1.length<=1000
def fsOk(s:Sd)(F:List Fc):Prop:=(∀i,i<F.length->fcOk s (F.getD i zA))/\F.length<=1000/\(yMF s F F.length).length<=1000
def cnS(s:Sd):Pt:=if((4:Int):Rat)*yEA s=0 then zT else scT (((1:Int):Rat)/(((4:Int):Rat)*yEA s)) (cenS s)
def cnO(s:Sd):Prop:=¬((4:Int):Rat)*yEA s=0
def arS(s:Sd)(d:Int):Nat->Rat×Rat
  |0=>(0,0)
  |i+1=>((arS s d i).1+mrLo (zF (arV s (s.2.1.getD i zA)) (arV s (s.2.1.getD i zA))) d,(arS s d i).2+mrHi (zF (arV s (s.2.1.getD i zA)) (arV s (s.2.1.getD i zA))) d)
def arOk(s:Sd):Prop:=∀i,i<s.2.1.length->lq (zF (arV s (s.2.1.getD i zA)) (arV s (s.2.1.getD i zA)))<=200
def pI(a b c:Int):Pt:=T3.mk (a:Rat) (b:Rat) (c:Rat)
def bkS(a b:Pt):Sd:=(blP a b,blF a b,[])
def lgS(s:Sd):Prop:=∀f,f<s.2.1.length->(s.2.1.getD f zA).2.1.length<=10000/\∀l,l<(s.2.1.getD f zA).2.1.length->((s.2.1.getD f zA).2.1.getD l []).length<=10000
def msOk(s:Sd):Prop:=(nmA s/\lgS s)/\fsOk s s.2.1/\arOk s
structure SaneF:Prop where
 h:dX (pI 0 0 0) (pI 2 2 2)->blH (pI 0 0 0) (pI 2 2 2)
 ok:msOk (bkS (pI 0 0 0) (pI 2 2 2))
 vol:yEA (bkS (pI 0 0 0) (pI 2 2 2))/((6:Int):Rat)=((8:Int):Rat)
 cen:cnS (bkS (pI 0 0 0) (pI 2 2 2))=pI 1 1 1/\cnO (bkS (pI 0 0 0) (pI 2 2 2))
 area:arS (bkS (pI 0 0 0) (pI 2 2 2)) 0 (bkS (pI 0 0 0) (pI 2 2 2)).2.1.length=(((24:Int):Rat),((24:Int):Rat))
variable {a b:Pt}
def bxS(a b:Pt):Sd:=(uB1.map (cU a b),fB3 a b,[])
theorem yGU(h:dX a b):bkS a b=bxS a b:=by
 obtain⟨h1,h2⟩:=zST h;unfold bkS bxS;rw[h1,h2]
def whF(s:Sd)(f:Nat)(q:Pt):Int:=whZ (kY s f) (pr (jS (s.2.1.getD f zA).1 q) 0 1) 0 1
def cnF(s:Sd)(d:Pt)(f:Nat):Rat:=zF (s.2.1.getD f zA).1.1 d
def hnF(s:Sd)(p:Pt)(f:Nat):Rat:=(s.2.1.getD f zA).1.2-zF (s.2.1.getD f zA).1.1 p
def aF(p d:Pt)(t:Rat):Pt:=wV p (scT t d)
def skP(s:Sd)(p d:Pt)(f:Nat):Prop:=yQ (cnF s d f)*yQ (hnF s p f)<=0
def crE(s:Sd)(p d:Pt)(f:Nat):Int:=if skP s p d f then 0 else if whF s f (aF p d (hnF s p f/cnF s d f))=1 then(if 0<cnF s d f then 1 else -1) else 0
def crS(s:Sd)(p d:Pt):Nat->Int
  |0=>0
  |n+1=>crS s p d n+crE s p d n
theorem nT{c h:Rat}:yQ c*yQ h<=0↔¬((0<c/\0<h)\/(c<0/\h<0)):=by
 have r1:=xC c;have r2:=xC h;have M:=oK (q:=c);have J:=qW (q:=c);have H:=oK (q:=h);have D:=qW (q:=h);have C:yQ c= -1\/yQ c=0\/yQ c=1:=by omega
 have c2:yQ h= -1\/yQ h=0\/yQ h=1:=by omega
 rw[<-M,<-J,<-H,<-D]
 rcases C with e1|e1|e1<;>rcases c2 with e2|e2|e2<;>rw[e1,e2]<;>simp
section
variable {a b:Pt}
def sI(a b q:Pt)(v:Nat):Prop:=a.at v<q.at v/\q.at v<b.at v
def kI(a b q:Pt)(v:Nat):Prop:=a.at v<=q.at v/\q.at v<=b.at v
end
def lY(p A B v:Pt):Prop:=if zO (yJ A p) (yJ B p)=zT then zO (yJ B A) v=zT else yB (yJ A p) (yJ B p) v=0
def vK(k:Int):Pt:=T3.mk ((1:Int):Rat) (k:Rat) ((k*k:Int):Rat)
theorem zKJ(a b:Pt):zO a b=zT↔zO b a=zT:=by
 unfold zO;rw[qZ,qZ];constructor<;>rintro⟨h1,h2,h3⟩<;>simp only at h1 h2 h3 ⊢<;>exact⟨zo0,zo0,zo0⟩
theorem zPG{p A B v:Pt}(h:lY p A B v):lY p B A v:=by
 unfold lY at *
 by_cases hc:zO (yJ A p) (yJ B p)=zT
 · rw[zau hc] at h
   rw[zau ((zKJ _ _).1 hc)];unfold zO yJ at *;rw[qZ] at *;obtain⟨h1,h2,h3⟩:=h;simp only at h1 h2 h3 ⊢;exact⟨zo0,zo0,zo0⟩
 · rw[zae hc] at h
   rw[zae λe=>hc ((zKJ _ _).2 e)];unfold yB zF zO yJ at *;simp only at h ⊢;grind
theorem zQX{j k:Nat}(h:j≠k):((j:Int):Rat)≠((k:Int):Rat):=λe=>h (by have:=zqu.1 e;omega)
theorem yHM{p A B:Pt}(hAB:A≠B){i j k:Nat}(h1:i≠j)(h2:i≠k)(h3:j≠k)(hi:lY p A B (vK i))(hj:lY p A B (vK j))(hk:lY p A B (vK k)):False:=by
 have D:=zQX h1;have e2:=zQX h2;have e3:=zQX h3;have J:((1:Int):Rat)=1:=I;have H:∀n:Nat,((((n:Int)*(n:Int):Int)):Rat)=((n:Int):Rat)*((n:Int):Rat):=λn=>zji _ _;unfold lY at *
 by_cases hc:zO (yJ A p) (yJ B p)=zT
 · rw[zau hc] at hi hj
   refine hAB ?_;unfold vK at hi hj;rw[H,J] at hi hj;generalize ((i:Int):Rat)=x at *;generalize ((j:Int):Rat)=y at *;unfold zO yJ at hi hj;rw[qZ] at hi hj ⊢;obtain⟨a1,O,M⟩:=hi;obtain⟨b1,b2,b3⟩:=hj;simp only at a1 O M b1 b2 b3;have g:(B.x-A.x)*(x-y)=0:=by grind
   have C:B.x-A.x=0:=by
    rcases zoe.1 g with g|g
    · exact g
    · exact absurd zo0 D
   rw[C] at O M;exact⟨zo0,zo0,zo0⟩
 · rw[zae hc] at hi hj hk
   refine hc ?_;unfold vK at hi hj hk;rw[H,J] at hi hj hk;generalize ((i:Int):Rat)=x at *;generalize ((j:Int):Rat)=y at *;generalize ((k:Int):Rat)=z at *;have e:∀t:Rat,yB (yJ A p) (yJ B p) (T3.mk 1 t (t*t))=(zO (yJ A p) (yJ B p)).x+(zO (yJ A p) (yJ B p)).y*t+(zO (yJ A p) (yJ B p)).z*(t*t):=λt=>by
    unfold yB zF zO;simp only;grind
   rw[e] at hi hj hk;generalize zO (yJ A p) (yJ B p)=n at *;have C:(x-y)*(n.y+n.z*(x+y))=0:=by grind
   have Z:(x-z)*(n.y+n.z*(x+z))=0:=by grind
   have m1:n.y+n.z*(x+y)=0:=by
    rcases zoe.1 C with g|g
    · exact absurd zo0 D
    · exact g
   have m2:n.y+n.z*(x+z)=0:=by
    rcases zoe.1 Z with g|g
    · exact absurd zo0 e2
    · exact g
   have g3:n.z*(y-z)=0:=by grind
   have U:n.z=0:=by
    rcases zoe.1 g3 with g|g
    · exact g
    · exact absurd zo0 e3
   rw[qZ];exact⟨zo0,zo0,U⟩
theorem zEW{α:Type}(q:α->Bool):∀l:List α,(l.filter q).length+(l.filter λx=>!q x).length=l.length
  |[]=>rfl
  |x::l=>by
   have ih:=zEW q l;rw[List.filter_cons,List.filter_cons]
   cases h:q x<;>simp<;>omega
theorem yIP{q:Nat->Prop}{l:List Nat}(hn:l.Nodup)(hq:∀x,x∈l->q x)(h:∀i j k,i≠j->i≠k->j≠k->q i->q j->q k->False):l.length<=2:=by
 match l,hn with
 |[],_=>simp
 |[_],_=>simp
 |[_,_],_=>simp
 |a::b::c::r,hn=>
  simp only[List.nodup_cons,zfu,not_or] at hn;exact(h a b c hn.1.1 hn.1.2.1 hn.2.1.1 (hq a zo3) (hq b zo3) (hq c zo3)).elim
theorem zQ7{α:Type}(bad:α->Nat->Prop):∀(E:List α) (K:List Nat),K.Nodup->2*E.length<K.length->(∀e,e∈E->∀i j k,i≠j->i≠k->j≠k->bad e i->bad e j->bad e k->False)->∃k,k∈K/\∀e,e∈E->¬bad e k
  |[],K,_,hl,_=>by
   match K,hl with
   |k::K,_=>exact⟨k,zo3,λe he=>by cases he⟩
  |e::E,K,hn,hl,h3=>by
   have hb:=zEW (λk=>decide (bad e k)) K;have h2:(K.filter λk=>decide (bad e k)).length<=2:=yIP (q:=bad e) (hn.filter _) (λx hx=>by simpa using(z7e.1 hx).2) (h3 e (.head _));rw[lC] at hl;obtain⟨k,hk,hg⟩:=zQ7 bad E (K.filter λk=>!decide (bad e k)) (hn.filter _) zot λx hx=>h3 x (.tail _ hx);have hm:=z7e.1 hk;refine⟨k,hm.1,λx hx=>?_⟩
   rcases zfu.1 hx with rfl|hx
   · simpa using hm.2
   · exact hg x hx
theorem yBE{q:Nat->Prop}:∀n,q n->∃k,k<=n/\q k/\∀j,j<k->¬q j:=by
 intro n
 induction n using Nat.strongRecOn with
 |_ n ih=>
  intro hn
  by_cases h:∃j,j<n/\q j
  · obtain⟨j,hj,hq⟩:=h
    obtain⟨k,h1,h2,h3⟩:=ih j hj hq;exact⟨k,zot,h2,h3⟩
  · exact⟨n,zbe n,hn,λj hj hq=>h ⟨j,hj,hq⟩⟩
theorem zHR{q:Nat->Prop}(h:∃n,q n):∃k,q k/\∀j,j<k->¬q j:=by
 obtain⟨n,C⟩:=h;obtain⟨k,_,h2⟩:=yBE n C;exact⟨k,h2⟩
def dL(q:Nat->Prop):Nat:=if h:∃n,q n then Classical.choose (zHR h) else 0
theorem zAV{q:Nat->Prop}{n:Nat}(h:q n):dL q<=n/\q (dL q)/\∀j,j<dL q->¬q j:=by
 have D:∃n,q n:=⟨n,h⟩;have hs:=Classical.choose_spec (zHR D);have e:dL q=Classical.choose (zHR D):=dif_pos D;rw[e];exact⟨zye.1 λC=>hs.2 n C h,hs.1,hs.2⟩
theorem zUC{pl:Pl}{l:List Pt}{m:Nat}(h:m<l.length):gp (flA pl l l.length) m=jS pl (gp l m):=uE (λi=>jS pl (gp l i)) (T3.mk (0:Rat) 0 0) h
theorem yCM(pl:Pl)(l:List Pt)(p:Pt):kL (flA pl l l.length) (pr (jS pl p) 0 1) 0 1=kL l (pr p (axI pl.1) (axJ pl.1)) (axI pl.1) (axJ pl.1):=by
 have hl:(flA pl l l.length).length=l.length:=yW _ _;have eA:∀m,m<l.length->vV (flA pl l l.length) 0 1 m=vV l (axI pl.1) (axJ pl.1) m:=λm h=>by
  unfold vV;rw[zUC h];rfl
 have eB:∀m,m<l.length->vT (flA pl l l.length) 0 1 m=vT l (axI pl.1) (axJ pl.1) m:=λm h=>by
  unfold vT;rw[hl,zUC (zcu _ zot)];rfl
 have eo:∀m,m<=l.length->kM (flA pl l l.length) (pr (jS pl p) 0 1) 0 1 m=kM l (pr p (axI pl.1) (axJ pl.1)) (axI pl.1) (axJ pl.1) m:=by
  intro m
  induction m with
  |zero=>intro _;rfl
  |succ m ih=>
   intro h
   show((kW _ _ _/\¬kM _ _ _ _ m)\/(¬kW _ _ _/\kM _ _ _ _ m))=((kW _ _ _/\¬kM _ _ _ _ m)\/(¬kW _ _ _/\kM _ _ _ _ m))
   rw[ih zot,eA m zot,eB m zot];rfl
 have ee:(∃m,m<(flA pl l l.length).length/\onS (vV (flA pl l l.length) 0 1 m) (vT (flA pl l l.length) 0 1 m) (pr (jS pl p) 0 1))=(∃m,m<l.length/\onS (vV l (axI pl.1) (axJ pl.1) m) (vT l (axI pl.1) (axJ pl.1) m) (pr p (axI pl.1) (axJ pl.1))):=by
  refine propext ⟨?_,?_⟩
  · rintro⟨m,h,k⟩
    rw[hl] at h;rw[eA m h,eB m h] at k;exact⟨m,h,k⟩
  · rintro⟨m,h,k⟩
    refine⟨m,by rw[hl];exact h,?_⟩;rw[eA m h,eB m h];exact k
 have eo':=eo l.length (zbe _);rw[<-hl] at eo';unfold kL
 by_cases h:∃m,m<l.length/\onS (vV l (axI pl.1) (axJ pl.1) m) (vT l (axI pl.1) (axJ pl.1) m) (pr p (axI pl.1) (axJ pl.1))
 · rw[zau (ee.mpr h),zau h]
 · rw[zae λe=>h (ee.mp e),zae h]
   rw[hl] at eo' ⊢
   by_cases h2:kM l (pr p (axI pl.1) (axJ pl.1)) (axI pl.1) (axJ pl.1) l.length
   · rw[zau (eo'.mpr h2),zau h2]
   · rw[zae λe=>h2 (eo'.mp e),zae h2]
theorem eR(s:Sd)(f:Nat)(p:Pt):whF s f p=whZ (xR s f) (pr p (axI (s.2.1.getD f zA).1.1) (axJ (s.2.1.getD f zA).1.1)) (axI (s.2.1.getD f zA).1.1) (axJ (s.2.1.getD f zA).1.1):=by
 unfold whF;generalize he:(s.2.1.getD f zA).1=pl;have hl:(kY s f).length=(xR s f).length:=(zCL s f).1;have hg:∀m,m<(xR s f).length->(kY s f).getD m []=flA pl (gl (xR s f) m) (gl (xR s f) m).length:=λm h=>by
  subst he;exact uE (λi=>flA (s.2.1.getD f zA).1 (gl (xR s f) i) (gl (xR s f) i).length) [] h
 have hi:∀m,m<(xR s f).length->kL ((kY s f).getD m []) (pr (jS pl p) 0 1) 0 1=kL ((xR s f).getD m []) (pr p (axI pl.1) (axJ pl.1)) (axI pl.1) (axJ pl.1):=λm h=>by
  rw[hg m h];exact yCM pl _ p
 have ht:∀m,m<=(xR s f).length->mD (kY s f) (pr (jS pl p) 0 1) 0 1 m=mD (xR s f) (pr p (axI pl.1) (axJ pl.1)) (axI pl.1) (axJ pl.1) m:=by
  intro m
  induction m with
  |zero=>intro _;rfl
  |succ m ih=>
   intro h
   show(if _ then _ else _)=(if _ then _ else _)
   rw[ih zot,hi m zot]
 have ee:(∃m,m<(kY s f).length/\kL ((kY s f).getD m []) (pr (jS pl p) 0 1) 0 1=0)=(∃m,m<(xR s f).length/\kL ((xR s f).getD m []) (pr p (axI pl.1) (axJ pl.1)) (axI pl.1) (axJ pl.1)=0):=by
  refine propext ⟨?_,?_⟩
  · rintro⟨m,h,k⟩
    rw[hl] at h;rw[hi m h] at k;exact⟨m,h,k⟩
  · rintro⟨m,h,k⟩
    refine⟨m,by rw[hl];exact h,?_⟩;rw[hi m h];exact k
 unfold whZ
 by_cases h:∃m,m<(xR s f).length/\kL ((xR s f).getD m []) (pr p (axI pl.1) (axJ pl.1)) (axI pl.1) (axJ pl.1)=0
 · rw[zau (ee.mpr h),zau h]
 · rw[zae λe=>h (ee.mp e),zae h,hl]
   exact ht _ (zbe _)
theorem yG2(L:List (List Pt))(p:P2)(i j:Nat):∀m,mD L p i j m≠0
  |0=>by unfold mD;decide
  |m+1=>by
   have:=yG2 L p i j m;unfold mD
   split<;>omega
theorem yOB{N A B q:Pt}{D:Rat}(hN:¬N.at (axK N)=0)(hA:zF N A=D)(hB:zF N B=D)(hq:zF N q=D)(hc:cr (pr A (axI N) (axJ N)) (pr B (axI N) (axJ N)) (pr q (axI N) (axJ N))=0):zO (yJ B A) (yJ q A)=zT:=by
 obtain⟨M,J,H⟩:=N;obtain⟨a1,a2,a3⟩:=A;obtain⟨b1,b2,b3⟩:=B;obtain⟨q1,Z,U⟩:=q;unfold zF at hA hB hq;unfold zO yJ;rw[qZ];simp only at hA hB hq ⊢;have C:∀O x:Rat,O≠0->O*x=0->x=0:=λO x h e=>(zoe.1 e).resolve_left h
 rcases zU0 ⟨M,J,H⟩ with⟨e1,e2,e3⟩|⟨e1,e2,e3⟩|⟨e1,e2,e3⟩|⟨e1,e2,e3⟩|⟨e1,e2,e3⟩|⟨e1,e2,e3⟩<;>rw[e1,e2] at hc<;>rw[e3] at hN<;>simp only[cr,pr,T3.at] at hc hN
 · exact⟨C H _ hN zo0,C H _ hN zo0,zo0⟩
 · exact⟨C H _ hN zo0,C H _ hN zo0,zo0⟩
 · exact⟨C J _ hN zo0,zo0,C J _ hN zo0⟩
 · exact⟨C J _ hN zo0,zo0,C J _ hN zo0⟩
 · exact⟨zo0,C M _ hN zo0,C M _ hN zo0⟩
 · exact⟨zo0,C M _ hN zo0,C M _ hN zo0⟩
theorem yLB{p d A B:Pt}{t:Rat}(ht:t≠0)(h:zO (yJ B A) (yJ (aF p d t) A)=zT):lY p A B d:=by
 obtain⟨O,M,J⟩:=p;obtain⟨a1,a2,a3⟩:=A;obtain⟨b1,b2,b3⟩:=B;obtain⟨d1,Z,U⟩:=d;have C:∀x:Rat,t*x=0->x=0:=λx e=>(zoe.1 e).resolve_left ht;unfold lY;unfold zO yJ aF wV scT at h;rw[qZ] at h;obtain⟨h1,h2,h3⟩:=h;simp only at h1 h2 h3
 split
 · rename_i hc
   unfold zO yJ at *;rw[qZ] at *;obtain⟨H,c2,D⟩:=hc;simp only at H c2 D ⊢;exact⟨C _ zo0,C _ zo0,C _ zo0⟩
 · refine C _ ?_
   unfold yB zF zO yJ;simp only;grind
def zIG(s:Sd)(p v:Pt):Prop:=∀f,f<s.2.1.length->∀l,l<(xR s f).length->∀k,k<(gl (xR s f) l).length->gp (gl (xR s f) l) k≠gp (gl (xR s f) l) ((k+1)%(gl (xR s f) l).length)->¬lY p (gp (gl (xR s f) l) k) (gp (gl (xR s f) l) ((k+1)%(gl (xR s f) l).length)) v
def zUD(s:Sd):Prop:=∀f,f<s.2.1.length->¬(s.2.1.getD f zA).1.1=zT/\∀l,l<(xR s f).length->∀k,k<(gl (xR s f) l).length->zF (s.2.1.getD f zA).1.1 (gp (gl (xR s f) l) k)=(s.2.1.getD f zA).1.2/\gp (gl (xR s f) l) k≠gp (gl (xR s f) l) ((k+1)%(gl (xR s f) l).length)
theorem zUJ(N p d:Pt)(t:Rat):zF N (aF p d t)=zF N p+t*zF N d:=by
 unfold zF aF wV scT;simp only;grind
theorem yD8{L:List (List Pt)}{p:P2}{i j:Nat}(h:whZ L p i j=0):∃m,m<L.length/\∃k,k<(gl L m).length/\onS (vV (gl L m) i j k) (vT (gl L m) i j k) p:=by
 unfold whZ at h
 split at h
 · rename_i h1
   obtain⟨m,D,hz⟩:=h1;unfold kL at hz
   split at hz
   · rename_i h2
     obtain⟨k,hk,C⟩:=h2;exact⟨m,D,k,hk,C⟩
   · split at hz<;>exact absurd hz zox
 · exact absurd h (yG2 _ _ _ _ _)
theorem yAP{s:Sd}{p d:Pt}{f:Nat}(hs:zUD s)(hf:f<s.2.1.length)(hc:zIG s p d)(hk:¬skP s p d f):whF s f (aF p d (hnF s p f/cnF s d f))≠0:=by
 intro h0;rw[eR] at h0;obtain⟨l,J,k,D,O⟩:=yD8 h0;obtain⟨hz,C⟩:=hs f hf;have U:cnF s d f≠0:=λe=>hk (by unfold skP;rw[nT,e];grind);have ht:hnF s p f/cnF s d f≠0:=λe=>hk (by
  have:hnF s p f=0:=by
   have h1:hnF s p f=hnF s p f/cnF s d f*cnF s d f:=by generalize cnF s d f=c at *;grind
   rw[e] at h1;grind
  unfold skP;rw[nT,this];grind)
 have M:zF (s.2.1.getD f zA).1.1 (aF p d (hnF s p f/cnF s d f))=(s.2.1.getD f zA).1.2:=by
  rw[zUJ];have h1:hnF s p f/cnF s d f*cnF s d f=hnF s p f:=by generalize cnF s d f=c at *;grind
  have h2:zF (s.2.1.getD f zA).1.1 d=cnF s d f:=I;rw[h2,h1];unfold hnF;grind
 obtain⟨hA,H⟩:=C l J k D;have hB:=(C l J ((k+1)%(gl (xR s f) l).length) (zcu _ zot)).1;have hN:¬(s.2.1.getD f zA).1.1.at (axK (s.2.1.getD f zA).1.1)=0:=λe=>hz ((zUZ _).1 e);exact hc f hf l J k D H (yLB ht (yOB hN hA hB M O.2.2))
abbrev PIr:=Int×Int
def mmI(a b:Int):PIr:=(min a b,max a b)
def ptI(P:List Pt)(i:Int):Pt:=gp P i.toNat
def sxE(P:List Pt)(x:List Int)(S:List PIr):Nat->List PIr
  |0=>S
  |k+1=>if mmI (x.getD k 0) (x.getD ((k+1)%x.length) 0)∈sxE P x S k\/ptI P (x.getD k 0)=ptI P (x.getD ((k+1)%x.length) 0) then sxE P x S k else sxE P x S k++[mmI (x.getD k 0) (x.getD ((k+1)%x.length) 0)]
def slE(P:List Pt)(L:List (List Int))(S:List PIr):Nat->List PIr
  |0=>S
  |l+1=>sxE P (L.getD l []) (slE P L S l) (L.getD l []).length
def sfE(s:Sd):Nat->List PIr
  |0=>[]
  |f+1=>slE s.1 (s.2.1.getD f zA).2.1 (sfE s f) (s.2.1.getD f zA).2.1.length
def isE(P:List Pt)(x:List Int)(n:Nat)(e:PIr):Prop:=∃k,k<n/\e=mmI (x.getD k 0) (x.getD ((k+1)%x.length) 0)/\ptI P (x.getD k 0)≠ptI P (x.getD ((k+1)%x.length) 0)
theorem zYJ(P:List Pt)(x:List Int)(S:List PIr)(e:PIr):∀n,e∈sxE P x S n↔e∈S\/isE P x n e
  |0=>⟨.inl,λh=>h.elim id λ⟨_,h,_⟩=>absurd h (z0i _)⟩
  |n+1=>by
   have ih:=zYJ P x S e n;have hs:isE P x (n+1) e↔isE P x n e\/(e=mmI (x.getD n 0) (x.getD ((n+1)%x.length) 0)/\ptI P (x.getD n 0)≠ptI P (x.getD ((n+1)%x.length) 0)):=by
    constructor
    · rintro⟨k,hk,h⟩
      rcases zhu.1 hk with h1|rfl
      · exact .inl ⟨k,h1,h⟩
      · exact .inr h
    · rintro(⟨k,hk,h⟩|h)
      · exact⟨k,zot,h⟩
      · exact⟨n,zot,h⟩
   unfold sxE
   by_cases hc:mmI (x.getD n 0) (x.getD ((n+1)%x.length) 0)∈sxE P x S n\/ptI P (x.getD n 0)=ptI P (x.getD ((n+1)%x.length) 0)
   · rw[zau hc,ih,hs]
     constructor
     · rintro(h|h)
       · exact .inl h
       · exact .inr (.inl h)
     · rintro(h|h|⟨h1,h2⟩)
       · exact .inl h
       · exact .inr h
       · rcases hc with hc|hc
         · rw[<-h1] at hc
           exact ih.1 hc
         · exact absurd hc h2
   · rw[zae hc,zmu,ih,hs,zui]
     constructor
     · rintro((h|h)|h)
       · exact .inl h
       · exact .inr (.inl h)
       · exact .inr (.inr ⟨h,λe=>hc (.inr e)⟩)
     · rintro(h|h|⟨h1,_⟩)
       · exact .inl (.inl h)
       · exact .inl (.inr h)
       · exact .inr h1
theorem zYT(P:List Pt)(L:List (List Int))(S:List PIr)(e:PIr):∀n,e∈slE P L S n↔e∈S\/∃l,l<n/\isE P (L.getD l []) (L.getD l []).length e
  |0=>⟨.inl,λh=>h.elim id λ⟨_,h,_⟩=>absurd h (z0i _)⟩
  |n+1=>by
   unfold slE;rw[zYJ,zYT P L S e n];constructor
   · rintro((h|⟨l,hl,h⟩)|h)
     · exact .inl h
     · exact .inr ⟨l,zot,h⟩
     · exact .inr ⟨n,zot,h⟩
   · rintro(h|⟨l,hl,h⟩)
     · exact .inl (.inl h)
     · rcases zhu.1 hl with h1|rfl
       · exact .inl (.inr ⟨l,h1,h⟩)
       · exact .inr h
theorem zK7(s:Sd)(e:PIr):∀n,e∈sfE s n↔∃f,f<n/\∃l,l<(s.2.1.getD f zA).2.1.length/\isE s.1 ((s.2.1.getD f zA).2.1.getD l []) ((s.2.1.getD f zA).2.1.getD l []).length e
  |0=>⟨λh=>absurd h zge,λ⟨_,h,_⟩=>absurd h (z0i _)⟩
  |n+1=>by
   unfold sfE;rw[zYT,zK7 s e n];constructor
   · rintro(⟨f,hf,h⟩|h)
     · exact⟨f,zot,h⟩
     · exact⟨n,zot,h⟩
   · rintro⟨f,hf,h⟩
     rcases zhu.1 hf with h1|rfl
     · exact .inl ⟨f,h1,h⟩
     · exact .inr h
theorem dW{s:Sd}{f:Nat}(hf:f<s.2.1.length)(hn:nmP s f):(xR s f).length=(s.2.1.getD f zA).2.1.length/\∀l,l<(s.2.1.getD f zA).2.1.length->(gl (xR s f) l).length=((s.2.1.getD f zA).2.1.getD l []).length/\∀k,k<((s.2.1.getD f zA).2.1.getD l []).length->gp (gl (xR s f) l) k=ptI s.1 (((s.2.1.getD f zA).2.1.getD l []).getD k 0):=by
 have e:xR s f=zIB s f (s.2.1.getD f zA).2.1.length:=by
  unfold xR;rw[zau ⟨⟨zot,zot⟩,by rw[z1e];exact hn⟩,z1e]
 rw[e];refine⟨yW _ _,λl C=>?_⟩;have D:gl (zIB s f (s.2.1.getD f zA).2.1.length) l=zGN s.1 ((s.2.1.getD f zA).2.1.getD l []) ((s.2.1.getD f zA).2.1.getD l []).length:=uE _ _ C;rw[D];exact⟨yW _ _,λk hk=>uE (λk=>gp s.1 (((s.2.1.getD f zA).2.1.getD l []).getD k 0).toNat) _ hk⟩
theorem yB7{P:List Pt}{p v:Pt}(a b:Int):lY p (ptI P (mmI a b).1) (ptI P (mmI a b).2) v↔lY p (ptI P a) (ptI P b) v:=by
 unfold mmI
 by_cases h:a<=b
 · show lY p (ptI P (min a b)) (ptI P (max a b)) v↔_
   rw[Int.min_eq_left h,Int.max_eq_right h]
 · show lY p (ptI P (min a b)) (ptI P (max a b)) v↔_
   rw[Int.min_eq_right zot,Int.max_eq_left zot];exact⟨zPG,zPG⟩
theorem zM3{s:Sd}(hn:nmA s)(p v:Pt):zIG s p v↔∀e,e∈sfE s s.2.1.length->¬lY p (ptI s.1 e.1) (ptI s.1 e.2) v:=by
 constructor
 · intro h e M
   obtain⟨f,hf,l,J,k,hk,rfl,C⟩:=(zK7 s e _).1 M;obtain⟨O,c2⟩:=dW hf (hn f hf);obtain⟨H,D⟩:=c2 l J;rw[yB7];have:=h f hf l zot k zot;rw[H,D k hk,D _ (zcu _ zot)] at this;exact this C
 · intro h f hf l J k hk C
   obtain⟨O,c2⟩:=dW hf (hn f hf);obtain⟨H,D⟩:=c2 l zot;rw[H] at hk C ⊢;rw[D k hk,D _ (zcu _ zot)] at C ⊢;rw[<-yB7];exact h _ ((zK7 s _ _).2 ⟨f,hf,l,zot,k,hk,I,C⟩)
theorem yG9{s:Sd}{e:PIr}{n:Nat}(he:e∈sfE s n):ptI s.1 e.1≠ptI s.1 e.2:=by
 obtain⟨f,hf,l,D,k,hk,rfl,C⟩:=(zK7 s e n).1 he;generalize ((s.2.1.getD f zA).2.1.getD l []).getD k 0=a at *;generalize ((s.2.1.getD f zA).2.1.getD l []).getD ((k+1)%((s.2.1.getD f zA).2.1.getD l []).length) 0=b at *;unfold mmI
 by_cases h:a<=b
 · show ptI s.1 (min a b)≠ptI s.1 (max a b)
   rw[Int.min_eq_left h,Int.max_eq_right h];exact C
 · show ptI s.1 (min a b)≠ptI s.1 (max a b)
   rw[Int.min_eq_right zot,Int.max_eq_left zot];exact C.symm
def zSO(s:Sd)(p:Pt):Nat:=dL λk=>zIG s p (vK k)
theorem dU{s:Sd}(hn:nmA s)(p:Pt):zSO s p<=2*(sfE s s.2.1.length).length/\zIG s p (vK (zSO s p))/\∀j:Nat,j<zSO s p->¬zIG s p (vK j):=by
 obtain⟨k,hk,D⟩:=zQ7 (λ(e:PIr) (k:Nat)=>lY p (ptI s.1 e.1) (ptI s.1 e.2) (vK k)) (sfE s s.2.1.length) (List.range (2*(sfE s s.2.1.length).length+1)) List.nodup_range (by rw[yku];omega) λe H i j k h1 h2 h3 a b c=>yHM (yG9 H) h1 h2 h3 a b c;have C:zIG s p (vK k):=(zM3 hn p _).2 D;obtain⟨h1,h2,h3⟩:=zAV (q:=λk:Nat=>zIG s p (vK k)) C;have:=zog.1 hk;exact⟨by unfold zSO;omega,h2,h3⟩
theorem zH2{α:Type}{g:Nat->List α}:∀{n},gP g n=[]->∀i,i<n->g i=[]
  |0,_,i,h=>absurd h (z0i i)
  |n+1,e,i,h=>by
   have e':gP g n++g n=[]:=e;rw[List.append_eq_nil_iff] at e'
   rcases zhu.1 h with h1|rfl
   · exact zH2 e'.1 i h1
   · exact e'.2
theorem mF{s:Sd}(h:jQ s):szZ s=[]/\zNC s s.1.length=[]/\plZ s=[]/\neZ s=[]/\clZ (xP s)=[]:=by
 unfold jQ yC9 at h
 by_cases h1:0<(szZ s).length
 · rw[zau h1] at h;omega
 · rw[zae h1] at h
   by_cases h2:0<(zNC s s.1.length).length
   · rw[zau h2] at h;omega
   · rw[zae h2] at h
     by_cases h3:0<(plZ s).length
     · rw[zau h3] at h;omega
     · rw[zae h3] at h
       by_cases h4:0<(neZ s).length
       · rw[zau h4] at h;omega
       · rw[zae h4] at h
         exact⟨zof zot,zof zot,zof zot,zof zot,zof h⟩
theorem aY{s:Sd}(h:jQ s){f:Nat}(hf:f<s.2.1.length):vfP (s.2.1.getD f zA).2.1/\nmP s f:=by
 have hz:=(mF h).1;unfold szZ at hz
 by_cases hb:zIK s
 · rw[zau hb] at hz;simp at hz
 · rw[zae hb] at hz
   have:=(oN (p:=szP s) _).1 hz f hf;unfold szP at this;exact⟨zdi λe=>this (.inl e),zdi λe=>this (.inr e)⟩
theorem cG{s:Sd}(h:jQ s):nmA s:=λf hf=>(aY h hf).2
theorem zS8{s:Sd}(h:jQ s){i k:Nat}(hi:i<s.1.length)(hk:k<s.1.length)(hne:i≠k):gp s.1 i≠gp s.1 k:=by
 have ht:=(oN (p:=twP s) _).1 (mF h).2.1;intro e
 rcases Nat.lt_or_gt_of_ne hne with h1|h1
 · exact ht k hk ⟨i,h1,e.symm⟩
 · exact ht i hi ⟨k,h1,e⟩
theorem fO{s:Sd}(h:jQ s):zUD s:=by
 have H:=(mF h).2.2.1;unfold plZ at H
 by_cases hz:0<(zU5 s s.2.1.length).length
 · rw[zau hz] at H;rw[H] at hz;exact absurd hz zox
 · rw[zae hz] at H
   have M:=(oN (p:=zrP s) _).1 (zof (Nat.le_zero.1 (zye.1 hz)));intro f hf;obtain⟨hv,O⟩:=aY h hf;obtain⟨c1,c2⟩:=dW hf O;refine⟨M f hf,λl hl k hk=>⟨?_,?_⟩⟩
   · have o1:=zH2 (zH2 H f hf) l hl
     have o2:=(oN (p:=ofP s f l) _).1 o1 k hk;have U:=zdi o2;unfold sdZ hgt at U;have:=uL.1 U;grind
   · have C:l<(s.2.1.getD f zA).2.1.length:=by omega
     obtain⟨c3,Z⟩:=c2 l C;rw[c3] at hk ⊢;have D:=hv.2 l C;have J:(k+1)%((s.2.1.getD f zA).2.1.getD l []).length<((s.2.1.getD f zA).2.1.getD l []).length:=zcu _ zot;rw[Z k hk,Z _ J];have n1:=O l C k hk;have n2:=O l C _ J;have aa:((s.2.1.getD f zA).2.1.getD l []).getD k 0≠((s.2.1.getD f zA).2.1.getD l []).getD ((k+1)%((s.2.1.getD f zA).2.1.getD l []).length) 0:=by
      generalize ((s.2.1.getD f zA).2.1.getD l [])=x at *;have h3:=D.1.1
      rcases zte (k+1) x.length with h4|h4
      · rw[zoh h4]
        exactλe=>(D.2 (k+1) h4).2 k zot e.symm
      · have e0:k+1=x.length:=by omega
        rw[e0,y4i];exact(D.2 k hk).2 0 zot
     exact zS8 h zot zot zot
variable {a b p d:Pt}
structure Ax(a b p d:Pt)(M:Rat)(u:Nat)(l h:Rat):Prop where
 lt:l<h
 z:d.at u=0->l= -M/\h=M
 n:d.at u≠0->(-M<l/\l<M)/\-M<h/\h<M
 s:∀t,-M<t->t<M->(sI a b (aF p d t) u↔l<t/\t<h)
 k:∀t,-M<t->t<M->(kI a b (aF p d t) u↔l<=t/\t<=h)
 pos:0<d.at u->l*d.at u=a.at u-p.at u/\h*d.at u=b.at u-p.at u
 neg:d.at u<0->l*d.at u=b.at u-p.at u/\h*d.at u=a.at u-p.at u
variable {a b p d:Pt}
def onP(s:Sd)(p:Pt)(f:Nat):Prop:=sdZ (s.2.1.getD f zA).1 p=0/\0<=whF s f p
def onB(s:Sd)(p:Pt):Prop:=∃f,f<s.2.1.length/\onP s p f
def crP(s:Sd)(p d:Pt):Nat->Int×Int
  |0=>(0,0)
  |n+1=>if skP s p d n then crP s p d n else if whF s n (aF p d (hnF s p n/cnF s d n))=1 then(if 0<cnF s d n then((crP s p d n).1+1,(crP s p d n).2) else((crP s p d n).1,(crP s p d n).2+1)) else crP s p d n
theorem zUM(s:Sd)(p d:Pt):∀n,(crP s p d n).1-(crP s p d n).2=crS s p d n
  |0=>rfl
  |n+1=>by
   have ih:=zUM s p d n;unfold crP crS crE
   split
   · omega
   · split
     · split
       · show(crP s p d n).1+1-(crP s p d n).2=_;omega
       · show(crP s p d n).1-((crP s p d n).2+1)=_;omega
     · omega
def zEE(s:Sd)(p:Pt):Int:=if onB s p then 0 else crS s p (vK (zSO s p)) s.2.1.length
def inZ(s:Sd)(p:Pt):Int:=if onB s p then 0 else if 0<zEE s p then 1 else -1
theorem zXZ(k:Int):vK k≠zT:=λe=>by
 have:=zbi T3.x e;have e1:((1:Int):Rat)=0:=this;exact absurd e1 zox
section
variable {a b:Pt}
end
abbrev Fm:=Pl×List (List Pt)×Int×Int
abbrev Md:=List Fm×List (List Pt)
abbrev ed0:List Pt:=List.replicate 2 zT
abbrev fm0:Fm:=(zV4,([]:List (List Pt)),(0:Int),(0:Int))
def zBE(P:List Pt)(L:List (List Int)):Nat->List (List Pt):=wS λl=>zGN P (L.getD l []) (L.getD l []).length
def fmF(s:Sd)(f:Fc):Fm:=(f.1,zBE s.1 f.2.1 f.2.1.length,(↑(axI f.1.1):Int),(↑(axJ f.1.1):Int))
def edP(P:List Pt)(e:PIr):List Pt:=[ptI P e.1,ptI P e.2]
def fmT(s:Sd):Nat->List Fm:=wS λf=>fmF s (s.2.1.getD f zA)
def tX(s:Sd):Md:=(fmT s s.2.1.length,(sfE s s.2.1.length).map (edP s.1))
def whM(f:Fm)(p:Pt):Int:=whZ f.2.1 (pr p f.2.2.1.toNat f.2.2.2.toNat) f.2.2.1.toNat f.2.2.2.toNat
def onM(md:Md)(p:Pt)(f:Nat):Prop:=(sdZ (md.1.getD f fm0).1 p=0/\0<(md.1.getD f fm0).2.1.length)/\0<=whM (md.1.getD f fm0) p
def onA(md:Md)(p:Pt):Prop:=∃f,f<md.1.length/\onM md p f
def onJ(md:Md)(p:Pt):Nat:=if onA md p then dL λf=>f<md.1.length/\onM md p f else 0
def cnM(f:Fm)(d:Pt):Rat:=zF f.1.1 d
def hnM(f:Fm)(p:Pt):Rat:=f.1.2-zF f.1.1 p
def skM(f:Fm)(p d:Pt):Prop:=yQ (cnM f d)*yQ (hnM f p)<=0\/f.2.1.length=0
def wrM(f:Fm)(p d:Pt):Int:=whM f (aF p d (hnM f p/cnM f d))
def bdM(f:Fm)(p d:Pt):Prop:=¬skM f p d/\wrM f p d=0
def crM(md:Md)(p d:Pt):Nat->Int×Int
  |0=>(0,0)
  |n+1=>if skM (md.1.getD n fm0) p d then crM md p d n else if wrM (md.1.getD n fm0) p d=1 then(if 0<cnM (md.1.getD n fm0) d then((crM md p d n).1+1,(crM md p d n).2) else((crM md p d n).1,(crM md p d n).2+1)) else crM md p d n
def nbM(md:Md)(p d:Pt):Prop:=∀f,f<md.1.length->¬bdM (md.1.getD f fm0) p d
def clM(md:Md)(p v:Pt):Prop:=∀q,q<md.2.length->¬lY p ((md.2.getD q ed0).getD 0 zT) ((md.2.getD q ed0).getD 1 zT) v
def cV(md:Md)(p:Pt):Nat:=dL λk=>clM md p (vK k)
def yLJ(f:Fm):Prop:=(0<=f.2.2.1/\f.2.2.1<3)/\(0<=f.2.2.2/\f.2.2.2<3)/\f.2.1.length<=1000/\∀x,x∈f.2.1->x.length<=1000
def zWU(md:Md):Prop:=md.1.length<=1000/\md.2.length<=2000000/\∀f,f<md.1.length->yLJ (md.1.getD f fm0)
theorem zWA{md:Md}{p:Pt}{f:Nat}(hf:f<md.1.length)(h:onM md p f)(hl:∀u,u<f->¬onM md p u):onJ md p=f/\onA md p:=by
 have C:onA md p:=⟨f,hf,h⟩;obtain⟨h1,h2,h3⟩:=zAV (q:=λf=>f<md.1.length/\onM md p f) ⟨hf,h⟩;refine⟨?_,C⟩;unfold onJ;rw[zau C]
 rcases zte (dL λf=>f<md.1.length/\onM md p f) f with h4|h4
 · exact absurd h2.2 (hl _ h4)
 · omega
theorem zZ9{md:Md}{p:Pt}(h:∀f,f<md.1.length->¬onM md p f):onJ md p=0/\¬onA md p:=by
 have C:¬onA md p:=λ⟨f,hf,e⟩=>h f hf e;exact⟨zae C,C⟩
theorem zFC{q:Rat}:yQ q=0↔q=0:=by
 refine⟨λe=>?_,aP⟩;rw[rW] at e
 split at e
 · assumption
 · split at e<;>exact absurd e zox
abbrev Ac:=Pt×Pt×Prop
def zHW(x:Ac)(d:Pt):Prop:=if x.2.2 then zO x.2.1 d=zT else zF x.1 d=0
def acF(p:Pt)(e:List Pt):Ac:=(zO (yJ (e.getD 0 zT) p) (yJ (e.getD 1 zT) p),if zO (yJ (e.getD 0 zT) p) (yJ (e.getD 1 zT) p)=zT then yJ (e.getD 1 zT) (e.getD 0 zT) else zT,zO (yJ (e.getD 0 zT) p) (yJ (e.getD 1 zT) p)=zT)
def acT(p:Pt)(E:List (List Pt)):Nat->List Ac:=wS λq=>acF p (E.getD q ed0)
theorem yGM(a b d:Pt):zF (zO a b) d=yB a b d:=by
 unfold yB zF zO;grind
theorem yB8(p d:Pt)(e:List Pt):zHW (acF p e) d↔lY p (e.getD 0 zT) (e.getD 1 zT) d:=by
 unfold zHW lY acF
 by_cases h:zO (yJ (e.getD 0 zT) p) (yJ (e.getD 1 zT) p)=zT
 · simp only[h,if_true]
 · simp only[h,if_false]
   rw[show zF (zO (yJ (e.getD 0 zT) p) (yJ (e.getD 1 zT) p)) d=yB (yJ (e.getD 0 zT) p) (yJ (e.getD 1 zT) p) d from yGM _ _ _]
def crA(md:Md)(p d:Pt):Int:=if nbM md p d then(crM md p d md.1.length).1 else 0
def crB(md:Md)(p d:Pt):Int:=if nbM md p d then(crM md p d md.1.length).2 else 0
theorem zD5(md:Md)(p d:Pt):∀n:Nat,(0<=(crM md p d n).1/\(crM md p d n).1<=n)/\(0<=(crM md p d n).2/\(crM md p d n).2<=n)
  |0=>by
   show(0<=(0:Int)/\(0:Int)<=((0:Nat):Int))/\(0<=(0:Int)/\(0:Int)<=((0:Nat):Int))
   omega
  |n+1=>by
   have ih:=zD5 md p d n;unfold crM
   split
   · omega
   · split
     · split
       · show(0<=(crM md p d n).1+1/\(crM md p d n).1+1<=_)/\(0<=(crM md p d n).2/\(crM md p d n).2<=_)
         omega
       · show(0<=(crM md p d n).1/\(crM md p d n).1<=_)/\(0<=(crM md p d n).2+1/\(crM md p d n).2+1<=_)
         omega
     · omega
section
variable {md:Md}{p d:Pt}{f:Nat}
theorem zPT(h:skM (md.1.getD f fm0) p d):crM md p d (f+1)=crM md p d f:=zau h
theorem yGO(h:¬skM (md.1.getD f fm0) p d)(h1:wrM (md.1.getD f fm0) p d=1)(h2:0<cnM (md.1.getD f fm0) d):crM md p d (f+1)=((crM md p d f).1+1,(crM md p d f).2):=(zae h).trans ((zau h1).trans (zau h2))
theorem yLU(h:¬skM (md.1.getD f fm0) p d)(h1:wrM (md.1.getD f fm0) p d=1)(h2:¬0<cnM (md.1.getD f fm0) d):crM md p d (f+1)=((crM md p d f).1,(crM md p d f).2+1):=(zae h).trans ((zau h1).trans (zae h2))
theorem yLT(h:¬skM (md.1.getD f fm0) p d)(h1:¬wrM (md.1.getD f fm0) p d=1):crM md p d (f+1)=crM md p d f:=(zae h).trans (zae h1)
theorem yGP(hf:f<md.1.length)(h:bdM (md.1.getD f fm0) p d):crA md p d=0/\crB md p d=0/\¬nbM md p d:=by
 have C:¬nbM md p d:=λe=>e f hf h;exact⟨zae C,zae C,C⟩
theorem yLV(h:∀f,f<md.1.length->¬bdM (md.1.getD f fm0) p d):crA md p d=(crM md p d md.1.length).1/\crB md p d=(crM md p d md.1.length).2/\nbM md p d:=⟨zau h,zau h,h⟩
end
theorem ac_t{p:Pt}{E:List (List Pt)}{q:Nat}{D:List Ac}(hD:D=acT p E q)(h:zO (yJ ((E.getD q ed0).getD 0 zT) p) (yJ ((E.getD q ed0).getD 1 zT) p)=zT):D++[(zO (yJ ((E.getD q ed0).getD 0 zT) p) (yJ ((E.getD q ed0).getD 1 zT) p),(yJ ((E.getD q ed0).getD 1 zT) ((E.getD q ed0).getD 0 zT),zO (yJ ((E.getD q ed0).getD 0 zT) p) (yJ ((E.getD q ed0).getD 1 zT) p)=zT))]=acT p E (q+1):=by
 rw[hD]
 show _=acT p E q++[acF p (E.getD q ed0)]
 unfold acF;rw[zau h]
theorem ac_f{p:Pt}{E:List (List Pt)}{q:Nat}{D:List Ac}(hD:D=acT p E q)(h:¬zO (yJ ((E.getD q ed0).getD 0 zT) p) (yJ ((E.getD q ed0).getD 1 zT) p)=zT):D++[(zO (yJ ((E.getD q ed0).getD 0 zT) p) (yJ ((E.getD q ed0).getD 1 zT) p),(zT,zO (yJ ((E.getD q ed0).getD 0 zT) p) (yJ ((E.getD q ed0).getD 1 zT) p)=zT))]=acT p E (q+1):=by
 rw[hD]
 show _=acT p E q++[acF p (E.getD q ed0)]
 unfold acF;rw[zae h]
abbrev ac0:Ac:=(zT,(zT,False))
theorem yD6{p v:Pt}{md:Md}{u:Nat}(hu:u<md.2.length):zHW ((acT p md.2 md.2.length).getD u ac0) v↔lY p ((md.2.getD u ed0).getD 0 zT) ((md.2.getD u ed0).getD 1 zT) v:=by
 rw[show(acT p md.2 md.2.length).getD u ac0=acF p (md.2.getD u ed0) from uE _ ac0 hu];exact yB8 p v _
theorem zPP{p:Pt}{md:Md}{D:List Ac}{u kk:Nat}(hD:D=acT p md.2 md.2.length)(hc:clM md p (vK ↑(cV md p)))(hk:kk<=cV md p)(hu:u<D.length)(h:zHW (D.getD u ac0) (vK ↑kk)):kk+1<=cV md p:=by
 have C:D.length=md.2.length:=by rw[hD];exact yW _ _
 rcases zte kk (cV md p) with h1|h1
 · exact h1
 · have e:kk=cV md p:=by omega
   rw[e,hD] at h;exact absurd ((yD6 zot).1 h) (hc u zot)
theorem yGL{p:Pt}{md:Md}{D:List Ac}{kk:Nat}(hD:D=acT p md.2 md.2.length)(hk:kk<=cV md p)(h:∀v,v<D.length->¬zHW (D.getD v ac0) (vK ↑kk)):kk=cV md p:=by
 have H:D.length=md.2.length:=by rw[hD];exact yW _ _
 have hc:clM md p (vK ↑kk):=λq C e=>by
  refine h q zot ?_;rw[hD];exact(yD6 C).2 e
 have h1:cV md p<=kk:=(zAV (q:=λk=>clM md p (vK k)) hc).1;omega
theorem zKL(md:Md)(p d:Pt):(0<=crA md p d/\crA md p d<=md.1.length)/\(0<=crB md p d/\crB md p d<=md.1.length):=by
 have h:=zD5 md p d md.1.length;unfold crA crB
 split
 · exact h
 · omega
def wdM(md:Md)(p:Pt):Int:=if onA md p then 0 else crA md p (vK ↑(cV md p))-crB md p (vK ↑(cV md p))
theorem zMV{s:Sd}{f:Nat}(hf:f<s.2.1.length):(tX s).1.getD f fm0=fmF s (s.2.1.getD f zA):=uE _ fm0 hf
theorem zHK(s:Sd):(tX s).1.length=s.2.1.length:=yW _ _
theorem yEX{s:Sd}{f:Nat}(hf:f<s.2.1.length)(hn:nmP s f):xR s f=zBE s.1 (s.2.1.getD f zA).2.1 (s.2.1.getD f zA).2.1.length:=by
 unfold xR;rw[zau ⟨⟨zot,zot⟩,by simpa using hn⟩]
 rfl
theorem zS2{s:Sd}{f:Nat}(hf:f<s.2.1.length)(hn:nmP s f)(p:Pt):whM (fmF s (s.2.1.getD f zA)) p=whF s f p:=by
 rw[eR,yEX hf hn];unfold whM fmF;simp only[z1e]
theorem zKB{s:Sd}(h:jQ s){f:Nat}(hf:f<s.2.1.length):0<(s.2.1.getD f zA).2.1.length:=(aY h hf).1.1.1
theorem zTO{s:Sd}(h:jQ s)(p:Pt){f:Nat}(hf:f<s.2.1.length):onM (tX s) p f↔onP s p f:=by
 unfold onM onP;rw[zMV hf,zS2 hf (aY h hf).2];have h1:0<(fmF s (s.2.1.getD f zA)).2.1.length:=by
  show 0<(zBE _ _ _).length
  rw[show(zBE s.1 (s.2.1.getD f zA).2.1 (s.2.1.getD f zA).2.1.length).length=_ from yW _ _];exact zKB h hf
 exact⟨λe=>⟨e.1.1,e.2⟩,λe=>⟨⟨e.1,h1⟩,e.2⟩⟩
theorem dD{s:Sd}(h:jQ s)(p:Pt):onA (tX s) p↔onB s p:=by
 unfold onA onB;rw[zHK];exact⟨λ⟨f,hf,e⟩=>⟨f,hf,(zTO h p hf).1 e⟩,λ⟨f,hf,e⟩=>⟨f,hf,(zTO h p hf).2 e⟩⟩
theorem zK5{s:Sd}(h:jQ s)(p d:Pt){f:Nat}(hf:f<s.2.1.length):skM (fmF s (s.2.1.getD f zA)) p d↔skP s p d f:=by
 have h1:(fmF s (s.2.1.getD f zA)).2.1.length≠0:=by
  show(zBE _ _ _).length≠0
  rw[show(zBE s.1 (s.2.1.getD f zA).2.1 (s.2.1.getD f zA).2.1.length).length=_ from yW _ _];have:=zKB h hf;omega
 exact⟨λe=>e.resolve_right h1,λe=>.inl e⟩
theorem zSY{s:Sd}(h:jQ s)(p d:Pt){f:Nat}(hf:f<s.2.1.length):wrM (fmF s (s.2.1.getD f zA)) p d=whF s f (aF p d (hnF s p f/cnF s d f)):=zS2 hf (aY h hf).2 _
theorem zUL{s:Sd}(h:jQ s)(p d:Pt):∀n,n<=s.2.1.length->crM (tX s) p d n=crP s p d n
  |0,_=>rfl
  |n+1,hn=>by
   unfold crM crP;rw[zMV zot,zUL h p d n zot,zSY h p d zot]
   by_cases e:skP s p d n
   · rw[zau e,zau ((zK5 h p d zot).2 e)]
   · rw[zae e,zae λe'=>e ((zK5 h p d zot).1 e')]
     rfl
theorem yCV(P:List Pt)(S:List PIr){q:Nat}(hq:q<S.length):(S.map (edP P)).getD q ed0=edP P S[q]:=by
 rw[zoa,zvi,zoc hq]
 rfl
theorem zUQ{s:Sd}(h:jQ s)(p v:Pt):clM (tX s) p v↔zIG s p v:=by
 rw[zM3 (cG h)];unfold clM tX;simp only[zde];constructor
 · intro e x hx
   obtain⟨q,C,rfl⟩:=yxu.1 hx;have:=e q C;rw[yCV _ _ C] at this;exact this
 · intro e q C
   have:=e _ (ybe C);rw[yCV _ _ C];exact this
theorem zPQ{s:Sd}(h:jQ s)(p:Pt):cV (tX s) p=zSO s p:=by
 unfold cV zSO
 congr 1
 funext k
 exact propext (zUQ h p _)
theorem yFO{s:Sd}(h:jQ s){p d:Pt}(hc:zIG s p d):nbM (tX s) p d:=by
 intro f hf e;rw[zHK] at hf;rw[zMV hf] at e;have hk:¬skP s p d f:=λe'=>e.1 ((zK5 h p d hf).2 e');have h0:=e.2;rw[zSY h p d hf] at h0;exact yAP (fO h) hf hc hk h0
theorem zKT{s:Sd}(h:jQ s)(p:Pt):wdM (tX s) p=zEE s p:=by
 unfold wdM zEE;rw[zPQ h]
 by_cases ho:onB s p
 · rw[zau ho,zau ((dD h p).2 ho)]
 · rw[zae ho,zae λe=>ho ((dD h p).1 e)]
   have C:=yFO h (dU (cG h) p).2.1;unfold crA crB;rw[zau C,zau C,zHK,zUL h _ _ _ (zbe _)];exact zUM s p _ _
end Bk
namespace Bk
open Go Go.RowKit
open Classical
section
variable {P:Program}{n:Nat}{w0:World}{h0:Mem}{e:List (Nat×Value)}{L:List Res}{h:Mem}{Q:Exit->Act->World->Prop}
variable {ds:Option Tmp}{ty:TypeId}{ps:String}{af:Array Edge}{gd:Option (Nat×Bool)}
abbrev tN(u:Int×Int):Value:=.agg #[vI u.1,vI u.2]
def lV(es:Array MapEntry)(S:List (Int×Int)):Prop:=es.toList.map (λx=>(x.key,x.val))=S.map λu=>(tN u,Value.bool true)
theorem map_nil:lV #[] []:=rfl
theorem zOV{t:TypeId}:lT P n w0 h0 ⟨ds,.makeMap t none,ty,ps,af,gd⟩ e L h (λu r=>∃b,u=.map (some b)/\r=.blk b (.map #[] 0)):=by
 intro a w D S;refine⟨_,w.alloc (.map #[] 0),.blk w.heap.size (.map #[] 0),?_,World.grownBy_alloc w _ none,zDW w _,λb C=>?_,_,I,I⟩
 · simp[execOp,Instr.makeMap,newObj,Sem.run]
 · simp only[Res.fp,Option.some.injEq] at C
   omega
structure MapTy(P:Program)(mt kt et it:TypeId):Prop where
 m:P.underlying mt=some (.map kt et)
 k:P.underlying kt=some (.array 2 it)
 i:P.underlying it=some (.int .i64)
 sz:∀w,(Go.sizeOf it).run P w=.ok 1 w
 ag:∀w,(isAgg it).run P w=.ok false w
 z:∀w,(zeroValue et).run P w=.ok (.bool false) w
variable {mt kt et it:TypeId}
theorem zY4(T:MapTy P mt kt et it)(x y:Int)(w:World):(part it #[vI x,vI y] 0).run P w=.ok (vI x) w:=by simp[part,Sem.run_bind,T.ag]
theorem zY3(T:MapTy P mt kt et it)(x y:Int)(w:World):(part it #[vI x,vI y] 1).run P w=.ok (vI y) w:=by simp[part,Sem.run_bind,T.ag]
theorem oP{w:World}{r:Nat}{es:Array MapEntry}{clock:Nat}(hb:w.heap[r]?=some (.map es clock)):(getObj r).run P w=.ok (.map es clock) w:=by
 simp[getObj,Sem.run,hb]
theorem zQU{w:World}{r:Nat}{es:Array MapEntry}{clock:Nat}(o:Obj)(hb:w.heap[r]?=some (.map es clock)):(setObj r o).run P w=.ok () {w with heap:=w.heap.setIfInBounds r o}:=by
 simp[setObj,Sem.run,hb]
theorem zVQ(T:MapTy P mt kt et it)(u v:Int×Int)(w:World):(Op.equal kt (tN u) (tN v)).run P w=.ok (decide (u=v)) w:=by
 have J:∀(d:Nat) (x y:Int),(Op.equalIn (d+1) it (vI x) (vI y)).run P w=.ok (x==y) w:=λd x y=>by
  unfold Op.equalIn;simp[Sem.run_bind,run_underlying T.i,vI]
 show(Op.equalIn 10000 kt (tN u) (tN v)).run P w=_
 rw[show(10000:Nat)=9999+1 from I,Op.equalIn];simp only[Sem.run_bind,run_underlying T.k,Result.andThen_ok,T.sz];simp only[Std.Legacy.Range.forIn_eq_forIn_range',Std.Legacy.Range.size,ydu,z5e,z4i,List.range'_succ,List.range'_zero,List.forIn_cons,List.forIn_nil,zwe,z6e,zyi];have H:∀(x y:Int),(Op.equalIn 9999 it (vI x) (vI y)).run P w=.ok (x==y) w:=λx y=>J 9998 x y;obtain⟨D,C⟩:=u;obtain⟨v1,v2⟩:=v
 by_cases h1:D=v1<;>by_cases h2:C=v2<;>simp[Sem.run_bind,zY4 T,zY3 T,H,h1,h2]
theorem y9(T:MapTy P mt kt et it)(em:Bool)(u:Int×Int)(w:World):(Instr.checkKey em 10000 kt (tN u)).run P w=.ok () w:=by
 have C:∀(x:Int),(Instr.checkKey em 9999 it (vI x)).run P w=.ok () w:=λx=>by
  rw[show(9999:Nat)=9998+1 from I];unfold Instr.checkKey;simp[Sem.run_bind,run_underlying T.i,vI]
 rw[show(10000:Nat)=9999+1 from I,Instr.checkKey];simp only[Sem.run_bind,run_underlying T.k,Result.andThen_ok];simp only[Std.Legacy.Range.forIn_eq_forIn_range',Std.Legacy.Range.size,ydu,z5e,z4i,List.range'_succ,List.range'_zero,List.forIn_cons,List.forIn_nil,zwe,z6e,zyi];simp[Sem.run_bind,T.sz,zY4 T,zY3 T,C]
theorem zGD(T:MapTy P mt kt et it)(u:Int×Int)(w:World):∀(es:List MapEntry) (S:List (Int×Int)) (i:Nat),es.map (λx=>(x.key,x.val))=S.map (λu=>(tN u,Value.bool true))->
 (u∈S->∃j,(Instr.findAsking kt (tN u) es i).run P w=.ok (some (j,.bool true)) w)/\(u ∉ S->(Instr.findAsking kt (tN u) es i).run P w=.ok none w)
 |[],S,i,hm=>by
  have:S=[]:=by simpa using hm.symm
  subst this;exact⟨λh=>absurd h zge,λ_=>by simp[Instr.findAsking]⟩
 |x::es,S,i,hm=>by
  match S,hm with
  |v::S,hm=>
   simp only[zwu,List.cons.injEq,Prod.mk.injEq] at hm;obtain⟨⟨hk,H⟩,hm⟩:=hm;have D:=zGD T u w es S (i+1) hm;have C:=zVQ T u v w;unfold Instr.findAsking;rw[hk]
   by_cases huv:u=v
   · refine⟨λ_=>⟨i,?_⟩,λh=>absurd (huv▸List.mem_cons_self) h⟩
     subst huv;have hd:decide (u=u)=true:=by simp
     simp only[Sem.run_bind,C,hd,Result.andThen_ok];simp[H]
   · have hd:decide (u=v)=false:=by simpa using huv
     refine⟨λh=>?_,λh=>?_⟩
     · obtain⟨j,J⟩:=D.1 ((zfu.1 h).resolve_left huv)
       refine⟨j,?_⟩;simp only[Sem.run_bind,C,hd,Result.andThen_ok]
       simpa using J
     · simp only[Sem.run_bind,C,hd,Result.andThen_ok]
       simpa using D.2 λe=>h (z3i _ e)
theorem zNU(T:MapTy P mt kt et it)(u:Int×Int)(w:World){es:Array MapEntry}{S:List (Int×Int)}(hm:lV es S):
 (u∈S->∃j,(Instr.findKey kt (tN u) es.toList).run P w=.ok (some (j,.bool true)) w)/\(u ∉ S->(Instr.findKey kt (tN u) es.toList).run P w=.ok none w):=by
 have ha:=zGD T u w es.toList S 0 hm;unfold Instr.findKey;simp only[Sem.run_bind,run_underlying T.k,Result.andThen_ok]
 cases hl:es.toList with
 |nil=>
  rw[hl] at ha;refine⟨λh=>?_,λ_=>?_⟩
  · unfold lV at hm
    rw[hl] at hm;have:S=[]:=by simpa using hm.symm
    subst this;exact absurd h zge
  · simp[Instr.findNow]
 |cons x r=>
  rw[hl] at ha;have hx:∃v,x.key=tN v:=by
   unfold lV at hm;rw[hl] at hm
   match S,hm with
   |v::S,hm=>
    simp only[zwu,List.cons.injEq,Prod.mk.injEq] at hm;exact⟨v,hm.1.1⟩
  obtain⟨v,C⟩:=hx;have D:Instr.findNow (.array 2 it) (tN u) (x::r) 0=none:=by
   unfold Instr.findNow;rw[C];simp[Instr.sameNow]
  rw[D];exact ha
theorem zGU{x y:Operand}{b clock:Nat}{es:Array MapEntry}{S:List (Int×Int)}{u:Int×Int}(T:MapTy P mt kt et it)(hm:.blk b (.map es clock)∈L)(hx:zH e x=some (.map (some b)))(hy:zH e y=some (tN u))(r:lV es S):
 OpV P n w0 h0 ⟨ds,.lookup mt x y false,ty,ps,af,gd⟩ e L h (vB (u∈S)):=by
 intro a w D St;have C:w.heap[b]?=some (.map es clock):=St.ok _ hm;have hf:=zNU T u w r;simp only[execOp,D.eval hx,D.eval hy,Instr.lookup];simp only[Sem.run_bind,run_underlying T.m,Result.andThen_ok,oP C,y9 T]
 by_cases hu:u∈S
 · obtain⟨j,H⟩:=hf.1 hu
   rw[xW hu];simp[Sem.run_bind,H,oP C,y9 T]
 · rw[yM hu]
   simp[Sem.run_bind,hf.2 hu,oP C,y9 T,T.z]
theorem yEC{A B:List Res}{x y z:Operand}{b clock:Nat}{es:Array MapEntry}{S:List (Int×Int)}{u:Int×Int}(T:MapTy P mt kt et it)(hx:zH e x=some (.map (some b)))(hy:zH e y=some (tN u))(hz:zH e z=some (.bool true))(r:lV es S)(hu:u ∉ S):
 ∃es',lV es' (S++[u])/\Upd P n w0 h0 ⟨ds,.mapUpdate mt x y z,ty,ps,af,gd⟩ e A (.blk b (.map es clock)) B h (.blk b (.map es' (clock+1))):=by
 refine⟨es.push {key:=tN u,val:=.bool true,born:=clock},?_,?_⟩
 · unfold lV at *
   simp[r]
 · intro a w M St
   have J:w.heap[b]?=some (.map es clock):=St.ok (.blk b (.map es clock)) zo3;have hf:=(zNU T u w r).2 hu;refine⟨{w with heap:=w.heap.setIfInBounds b (.map (es.push {key:=tN u,val:=.bool true,born:=clock}) (clock+1))},?_,?_,?_⟩
   · simp only[execOp,M.eval hx,M.eval hy,M.eval hz,Instr.mapUpdate]
     simp[Sem.run_bind,run_underlying T.m,oP J,y9 T,hf,zQU _ J]
   · refine⟨I,I,I,zo3,λU O C=>?_⟩
     have H:U≠b:=λe=>C (by simp[Res.fp,e]);simp[Ne.symm H]
   · have D:b<w.heap.size:=(zpu.1 J).1
     show(w.heap.setIfInBounds b _)[b]?=_
     simp[D]
theorem evk{x:Operand}{v w:Value}(h:zH e x=some v)(q:v=w):zH e x=some w:=q▸h
theorem zXQ{E:TypeId}{i:TypeInfo}{z:Value}(hi:P.info? E=some i)(hz:i.zero=some z)(w:World):(zeroValue E).run P w=.ok z w:=by simp[zeroValue,typeInfo,hi,hz]
theorem yBN{h:Mem}{v:Value}{x y:Int}(r:(rpA 2 rpI).Is h v [x,y]):v=tN (x,y):=by
 obtain⟨cs,⟨_,a,b,rfl,⟨rfl,_⟩,c,d,rfl,⟨rfl,_⟩,e⟩,rfl⟩:=r;rw[show d=[] from e]
 rfl
theorem zW6{ops:Array Oper}{rest:List Oper}{A B:List Res}{x y z:Operand}{b clock:Nat}{es:Array MapEntry}{S:List (Int×Int)}{u:Int×Int}(T:MapTy P mt kt et it)(hx:zH e x=some (.map (some b)))(hy:zH e y=some (tN u))(hz:zH e z=some (.bool true))(r:lV es S)(hu:u ∉ S)
    (k:∀es',lV es' (S++[u])->GL P n w0 h0 ops Q rest e (A++.blk b (.map es' (clock+1))::B) h):GL P n w0 h0 ops Q (⟨none,.mapUpdate mt x y z,ty,ps,af,none⟩::rest) e (A++.blk b (.map es clock)::B) h:=by
 obtain⟨es',C,hu⟩:=yEC (P:=P) (n:=n) (w0:=w0) (h0:=h0) (h:=h) (ds:=none) (ty:=ty) (ps:=ps) (af:=af) (gd:=none) (A:=A) (B:=B) (clock:=clock) T hx hy hz r hu;exact wT hu I I I (k es' C)
end
end Bk
namespace Bk
open Go Go.RowKit
def yG0(w0:World)(h0:Mem)(h:Mem)(X:List Res)(G:Mem->Value->List Res->Prop):Ending->World->Prop:=
 tP w0 h0 (λg v K=>∃Qs',(Qs'++X).Sublist K/\MLe h g/\G g v Qs')
section
variable {P:Program}{n:Nat}{w0:World}{h0:Mem}{e:List (Nat×Value)}{L:List Res}{h:Mem}{Q:Exit->Act->World->Prop}
variable {ty:TypeId}{ps:String}{af:Array Edge}
theorem zMU{ops:Array Oper}{l:List Oper}{A B:List Res}{r:Res}(k':GL P n w0 h0 ops Q l e (A++r::B) h):GL P n w0 h0 ops Q l e (r::(A++B)) h:=
 λa w E S=>k' a w E (S.perm yci.symm)
theorem zMT{ops:Array Oper}{rest:List Oper}{d f:Nat}{xs:List Operand}{ts:Array TypeId}{vs:List Value}{Qs X:List Res}{G:Mem->Value->List Res->Prop}(hp:L.Perm (Qs++X))(hcall:∀args w,(callFunc f args).run P w=.ok (.enter f args) w)(hvs:bD e xs vs)
    (hc:∀w,St w0 h0 (Qs++X) h w->Calls P f vs.toArray w (yG0 w0 h0 h X G))(hn:Nat.ble (d+1) n=true)(k:∀v g Qs',MLe h g->G g v Qs'->GL P n w0 h0 ops Q rest ((d,v)::e) (Qs'++X) g):
    GL P n w0 h0 ops Q (⟨some d,.call {callee:=.value (.func f),args:=xs.toArray,argTypes:=ts},ty,ps,af,none⟩::rest) e L h:=by
 intro a w D S;refine nM I I I hn hcall hvs hc ?_ a w D (S.perm hp)
 rintro v g K ⟨Qs',H,C,J⟩
 have:=k v g Qs' C J;exactλa w D S=>this a w D (S.sublist H)
end
section
variable {α β:Type}{h:Mem}
theorem vr_1{π:Rp α}{ρ:Rp β}{cs:List Value}{p:α}{v:Value}{xs:List β}(r:(rpP π rpV).R h cs (p,v))(k:(rpS ρ).Is h v xs):(rpP π (rpS ρ)).R h cs (p,xs):=by
 obtain⟨a,b,e,D,C,_⟩:=r;exact⟨a,b,e,D,by rw[show b=[v] from C];exact zLB k⟩
end
end Bk
namespace Bk
open Classical
section
variable {P:List Pt}{x:List Int}{S T:List PIr}{u:Nat}
theorem zK1(P:List Pt)(x:List Int)(S:List PIr):∀n,(sxE P x S n).length<=S.length+n
  |0=>by show S.length<=_;omega
  |n+1=>by
   have ih:=zK1 P x S n;unfold sxE
   split
   · omega
   · rw[lAz]
     show _+1<=_
     omega
theorem zK4{L:List (List Int)}{b:Nat}(hb:∀l,l<L.length->(L.getD l []).length<=b)(P:List Pt)(S:List PIr):∀n,n<=L.length->(slE P L S n).length<=S.length+n*b
  |0,_=>by show S.length<=_;omega
  |n+1,hn=>by
   have ih:=zK4 hb P S n zot;have h1:=zK1 P (L.getD n []) (slE P L S n) (L.getD n []).length;have h2:=hb n zot;have h3:(n+1)*b=n*b+b:=ysi n b
   show(sxE P (L.getD n []) (slE P L S n) (L.getD n []).length).length<=_
   omega
theorem zK8{s:Sd}(h:okS s):∀n,n<=s.2.1.length->(sfE s n).length<=n*1024
  |0,_=>by show([]:List PIr).length<=_;simp
  |n+1,hn=>by
   have ih:=zK8 h n zot;have h0:=h.2.1 n zot;have h1:=zK4 h0.2 s.1 (sfE s n) (s.2.1.getD n zA).2.1.length (zbe _);have h2:(s.2.1.getD n zA).2.1.length*64<=16*64:=zgi _ h0.1
   show(slE s.1 (s.2.1.getD n zA).2.1 (sfE s n) (s.2.1.getD n zA).2.1.length).length<=_
   omega
theorem yJE(hT:T=sxE P x S u)(h1:¬(min (x.getD u 0) (x.getD ((u+1)%x.length) 0),max (x.getD u 0) (x.getD ((u+1)%x.length) 0))∈T)(h2:¬P.getD (x.getD u 0).toNat zT=P.getD (x.getD ((u+1)%x.length) 0).toNat zT):T++[(min (x.getD u 0) (x.getD ((u+1)%x.length) 0),max (x.getD u 0) (x.getD ((u+1)%x.length) 0))]=sxE P x S (u+1):=by
 rw[hT] at h1 ⊢;exact(zae λe=>e.elim h1 h2).symm
theorem yER(hT:T=sxE P x S u)(h1:¬¬(min (x.getD u 0) (x.getD ((u+1)%x.length) 0),max (x.getD u 0) (x.getD ((u+1)%x.length) 0))∈T):T=sxE P x S (u+1):=by
 rw[hT] at h1 ⊢;exact(zau (.inl (zdi h1))).symm
theorem yEQ(hT:T=sxE P x S u)(h2:¬¬P.getD (x.getD u 0).toNat zT=P.getD (x.getD ((u+1)%x.length) 0).toNat zT):T=sxE P x S (u+1):=by
 rw[hT];exact(zau (.inr (zdi h2))).symm
theorem yLN{E:List (List Pt)}{a b:Int}(hE:E=T.map (edP P)):E++[[P.getD (min a b).toNat zT,P.getD (max a b).toNat zT]]=(T++[(min a b,max a b)]).map (edP P):=by
 rw[hE,zle]
 rfl
end
theorem zL8{α:Type}(d:α){l:List α}{x:α}(h:x∈l):∃i,i<l.length/\x=l.getD i d:=by
 obtain⟨i,hi,e⟩:=yxu.1 h;refine⟨i,hi,?_⟩;rw[<-e,zoa,zoc hi]
 rfl
theorem yNS{s:Sd}(h:okS s):zWU (tX s):=by
 refine⟨by rw[zHK];exact h.1.1.2,?_,λf hf=>?_⟩
 · show((sfE s s.2.1.length).map (edP s.1)).length<=_
   rw[zde];have h1:=zK8 h s.2.1.length (zbe _);have h2:=h.1.1.2;omega
 · rw[zHK] at hf
   rw[zMV hf];have h0:=h.2.1 f hf;have D:(zBE s.1 (s.2.1.getD f zA).2.1 (s.2.1.getD f zA).2.1.length).length=(s.2.1.getD f zA).2.1.length:=yW _ _;refine⟨?_,?_,by show(zBE _ _ _).length<=_;rw[D];omega,λx hx=>?_⟩
   · have:=zEC (s.2.1.getD f zA).1.1
     show 0<=((axI (s.2.1.getD f zA).1.1:Nat):Int)/\((axI (s.2.1.getD f zA).1.1:Nat):Int)<3
     omega
   · have:=zEC (s.2.1.getD f zA).1.1
     show 0<=((axJ (s.2.1.getD f zA).1.1:Nat):Int)/\((axJ (s.2.1.getD f zA).1.1:Nat):Int)<3
     omega
   · have hx:x∈zBE s.1 (s.2.1.getD f zA).2.1 (s.2.1.getD f zA).2.1.length:=hx
     obtain⟨l,H,rfl⟩:=zL8 [] hx;have C:l<(s.2.1.getD f zA).2.1.length:=by rw[<-D];exact H
     rw[show(zBE s.1 (s.2.1.getD f zA).2.1 (s.2.1.getD f zA).2.1.length).getD l []=zGN s.1 ((s.2.1.getD f zA).2.1.getD l []) ((s.2.1.getD f zA).2.1.getD l []).length from uE _ _ C,show(zGN s.1 ((s.2.1.getD f zA).2.1.getD l []) ((s.2.1.getD f zA).2.1.getD l []).length).length=_ from yW _ _];have:=h0.2 l C;omega
theorem yKX{s:Sd}(h:jQ s)(p:Pt):cV (tX s) p<=3*(tX s).2.length+1/\clM (tX s) p (vK ↑(cV (tX s) p)):=by
 obtain⟨h1,h2,_⟩:=dU (cG h) p;rw[zPQ h];refine⟨?_,(zUQ h p _).2 h2⟩;have:(tX s).2.length=(sfE s s.2.1.length).length:=zde _;omega
def inM(md:Md)(p:Pt):Int:=if onA md p then 0 else if 0<wdM md p then 1 else -1
theorem yJI(a b:Rat):-1<=yQ a*yQ b/\yQ a*yQ b<=1:=by
 have h1:=xC a;have h2:=xC b;have g:∀x y:Int,-1<=x/\x<=1-> -1<=y/\y<=1-> -1<=x*y/\x*y<=1:=λx y hx hy=>by
  have:x= -1\/x=0\/x=1:=by omega
  rcases this with rfl|rfl|rfl<;>omega
 exact g _ _ h1 h2
theorem zTB{q:Rat}:0<yQ q↔0<q:=by
 rw[rW]
 split
 · next h=>subst h;exact⟨λe=>absurd e zox,λe=>absurd e zox⟩
 · next h=>
   split
   · next h2=>exact⟨λe=>absurd e zox,λe=>by grind⟩
   · next h2=>exact⟨λe=>by grind,λe=>by decide⟩
theorem zSZ{f:Fm}{p d:Pt}(h:¬skM f p d):whM f (T3.mk (p.x+(if zF f.1.1 d=0 then 0 else(f.1.2-zF f.1.1 p)/zF f.1.1 d)*d.x) (p.y+(if zF f.1.1 d=0 then 0 else(f.1.2-zF f.1.1 p)/zF f.1.1 d)*d.y) (p.z+(if zF f.1.1 d=0 then 0 else(f.1.2-zF f.1.1 p)/zF f.1.1 d)*d.z))=wrM f p d:=by
 have hc:¬zF f.1.1 d=0:=λe=>h (.inl (by
  unfold cnM;rw[e,show yQ 0=0 from zau I];omega))
 rw[zae hc]
 rfl
end Bk
namespace Bk
open Go Go.RowKit
open Classical
theorem zGE{α:Type}{ρ σ:Rp α}(P:α->Prop)(hn:ρ.n=σ.n)(k:∀{h cs x},ρ.R h cs x->P x->σ.R h cs x){h:Mem}{cs:List Value}{xs:List α}(r:(rpS ρ).R h cs xs)(hp:∀x,x∈xs->P x):(rpS σ).R h cs xs:=by
 obtain⟨v,ds,e,s,rl⟩:=r;refine⟨v,ds,e,hn▸s,?_⟩
 clear s e
 induction xs generalizing ds with
 |nil=>exact rl
 |cons x xs ih=>
  obtain⟨a,b,e,ra,rb⟩:=rl;exact⟨a,b,e,k ra (hp x (.head _)),ih (λy hy=>hp y (.tail _ hy)) b rb⟩
end Bk
namespace Bk
open Classical
theorem zMM{s:Sd}(h:jQ s)(p:Pt):inM (tX s) p=inZ s p:=by
 unfold inM inZ;rw[zKT h]
 by_cases ho:onB s p
 · rw[zau ho,zau ((dD h p).2 ho)]
 · rw[zae ho,zae λe=>ho ((dD h p).1 e)]
def smS(k m n j:Nat)(s:Sd):Prop:=(∀p,p∈s.1->lqP k p)/\(∀f,f∈s.2.1->lqP m f.1.1/\lq f.1.2<=n)/\∀e,e∈s.2.2->lq e.2.2<=j
section
variable {h:Mem}{cs:List Go.Value}
theorem yCQ{M N m n:Nat}{f:Fc}(r:(rpP (rpP (rpT (rpQ M)) (rpQ N)) (rpP (rpS (rpS rpI)) qF)).R h cs f)(hp:lqP m f.1.1/\lq f.1.2<=n):(rpP (rpP (rpT (rpQ m)) (rpQ n)) (rpP (rpS (rpS rpI)) qF)).R h cs f:=by
 obtain⟨a,b,e,⟨J,H,D,r1,r2⟩,C⟩:=r;exact⟨a,b,e,⟨J,H,D,yNE r1 I hp.1,yNF r2 I hp.2⟩,C⟩
theorem yCU{J j:Nat}{x:En}(r:(rpP rpI (rpP rpI (rpQ J))).R h cs x)(hp:lq x.2.2<=j):(rpP rpI (rpP rpI (rpQ j))).R h cs x:=by
 obtain⟨a,b,e,H,c,d,M,D,C⟩:=r;exact⟨a,b,e,H,c,d,M,D,yNF C I hp⟩
theorem zBK{K M N J k m n j:Nat}{s:Sd}(r:(rpP (rpS (rpT (rpQ K))) (rpP (rpS (rpP (rpP (rpT (rpQ M)) (rpQ N)) (rpP (rpS (rpS rpI)) qF))) (rpS (rpP rpI (rpP rpI (rpQ J)))))).R h cs s)(hp:smS k m n j s):
 (rpP (rpS (rpT (rpQ k))) (rpP (rpS (rpP (rpP (rpT (rpQ m)) (rpQ n)) (rpP (rpS (rpS rpI)) qF))) (rpS (rpP rpI (rpP rpI (rpQ j)))))).R h cs s:=by
 obtain⟨a,b,e,H,c,d,O,D,C⟩:=r;exact⟨a,b,e,zGE (ρ:=rpT (rpQ K)) (σ:=rpT (rpQ k)) (lqP k) I (λr hp=>yNE r I hp) H hp.1,c,d,O,
  zGE (ρ:=rpP (rpP (rpT (rpQ M)) (rpQ N)) (rpP (rpS (rpS rpI)) qF)) (σ:=rpP (rpP (rpT (rpQ m)) (rpQ n)) (rpP (rpS (rpS rpI)) qF)) (λf=>lqP m f.1.1/\lq f.1.2<=n) I yCQ D hp.2.1,
  zGE (ρ:=rpP rpI (rpP rpI (rpQ J))) (σ:=rpP rpI (rpP rpI (rpQ j))) (λx=>lq x.2.2<=j) I yCU C hp.2.2⟩
end
section
variable {a b:Pt}
structure BoxL(k:Nat)(a b:Pt):Prop where
 lq:lqP k b
 ok:dX a b
 h:blH a b
 e:blE a b=0
 oks:okS (bkS a b)
 snd:jQ (bkS a b)
 sm:smS k 2 (k+2) 0 (bkS a b)
 onb:∀p,onA (tX (bkS a b)) p↔(∀u,u<3->kI a b p u)/\¬∀u,u<3->sI a b p u
 wd:∀p,¬onA (tX (bkS a b)) p->wdM (tX (bkS a b)) p=oneI (∀u,u<3->sI a b p u)
 inb:∀p,inM (tX (bkS a b)) p=if ∀u,u<3->sI a b p u then 1 else if ∀u,u<3->kI a b p u then 0 else -1
theorem zS6{i:Nat}(h:i<3):i=0\/i=1\/i=2:=by omega
end
structure SaneL:Prop where
 b:BoxL 2 (pI 0 0 0) (pI 1 1 1)
 o1:¬onA (tX (bkS (pI 0 0 0) (pI 1 1 1))) (T3.mk (kP 1 2) (kP 1 2) (kP 1 2))
 w1:wdM (tX (bkS (pI 0 0 0) (pI 1 1 1))) (T3.mk (kP 1 2) (kP 1 2) (kP 1 2))=1
 o2:¬onA (tX (bkS (pI 0 0 0) (pI 1 1 1))) (pI 2 0 0)
 w2:wdM (tX (bkS (pI 0 0 0) (pI 1 1 1))) (pI 2 0 0)=0
 i3:inM (tX (bkS (pI 0 0 0) (pI 1 1 1))) (pI 1 1 1)=0
def thN(a b c:Pt):Pt:=zO (yJ b a) (yJ c a)
def thZ(a b c:Pt):Pl:=if thN a b c=zT then zV4 else(thN a b c,zF (thN a b c) a)
def thE(a b c:Pt):Int:=if thN a b c=zT then 9 else 0
theorem yMZ{a b c:Pt}(h:thN a b c=zT):thZ a b c=zV4/\thE a b c=9:=⟨zau h,zau h⟩
theorem zYF{a b c:Pt}(h:¬thN a b c=zT):thZ a b c=(thN a b c,zF (thN a b c) a)/\thE a b c=0:=⟨zae h,zae h⟩
def opP(pl:Pl):Pl:=(T3.mk (((-1:Int):Rat)*pl.1.x) (((-1:Int):Rat)*pl.1.y) (((-1:Int):Rat)*pl.1.z),-pl.2)
section
variable (l:List Pt)(t:Pt)
def pyX(i:Nat):Fc:=(thZ (l.getD i zT) (l.getD ((i+1)%l.length) zT) t,[[(i:Int),(((i+1)%l.length:Nat):Int),(l.length:Int)]],[115]++qS (((i:Int):Int):Rat))
def pyT:Nat->List Fc:=wS (pyX l t)
def pyL(n:Nat):Nat->List Int:=wS λi=>(n:Int)-1-(i:Int)
def pyB:Fc:=(opP (thZ (l.getD 0 zT) (l.getD 1 zT) (l.getD 2 zT)),[pyL l.length l.length],[98,97,115,101])
def pyR:Sd:=(l++[t],pyT l t l.length++[pyB l],[])
def pyH:Prop:=((3<=l.length/\l.length<=64)/\¬thN (l.getD 0 zT) (l.getD 1 zT) (l.getD 2 zT)=zT)/\(zIC (thZ (l.getD 0 zT) (l.getD 1 zT) (l.getD 2 zT)) l/\0<sdZ (thZ (l.getD 0 zT) (l.getD 1 zT) (l.getD 2 zT)) t)/\okS (pyR l t)
end
def bdV(v:I3):Prop:=(-1000<=v.1/\v.1<=1000)/\(-1000<=v.2.1/\v.2.1<=1000)/\(-1000<=v.2.2/\v.2.2<=1000)
theorem zUX{u:I3}:bd3 u=true↔bdV u:=by unfold bd3 bdV;rw[zfe]
theorem zFL{a n:Int}(ha:0<a/\a<=1000)(hn:-9223372036854775808<=n)(hn':n<9223372036854775808):lq (1/(a:Rat)*(n:Rat))<=2:=by
 have h:=zB7 hn hn' (d:=a) zot zot;have e:kP n a=1/(a:Rat)*(n:Rat):=by
  unfold kP;rw[y0i,y0i,yoi,y3e]
 rw[<-e];exact h
theorem zR0{a b:Int}(ha:-1000<=a/\a<=1000)(hb:-1000<=b/\b<=1000):-1000000<=a*b/\a*b<=1000000:=by
 have h1:=ylu (show 0<=1000-a by omega) (show 0<=1000-b by omega);have h2:=ylu (show 0<=1000+a by omega) (show 0<=1000+b by omega);have h3:=ylu (show 0<=1000-a by omega) (show 0<=1000+b by omega);have C:=ylu (show 0<=1000+a by omega) (show 0<=1000-b by omega);have M:(1000-a)*(1000-b)=1000000-1000*a-1000*b+a*b:=by grind
 have J:(1000+a)*(1000+b)=1000000+1000*a+1000*b+a*b:=by grind
 have H:(1000-a)*(1000+b)=1000000-1000*a+1000*b-a*b:=by grind
 have D:(1000+a)*(1000-b)=1000000+1000*a-1000*b-a*b:=by grind
 omega
theorem yN8{n u:I3}(hn:bdV n)(hu:bdV u):-3000000<=dt3 n u/\dt3 n u<=3000000:=by
 have h1:=zR0 hn.1 hu.1;have h2:=zR0 hn.2.1 hu.2.1;have h3:=zR0 hn.2.2 hu.2.2;unfold dt3;omega
theorem zYS{v:I3}{I:SI}{s:Sd}(h:aH v I s)(hb:chI I=true)(hv:bdV v):smS 2 2 2 1 s:=by
 refine⟨λp H=>?_,λf hf=>?_,λe J=>?_⟩
 · rw[h.1] at H
   obtain⟨u,M,rfl⟩:=zlu.1 H;have h1:bdV u:=zUX.1 (zob.1 (by unfold chI at hb;exact(zbu _ _▸hb).1) u M);unfold bdV at h1 hv;exact⟨dG _ zot zot,dG _ zot zot,dG _ zot zot⟩
 · obtain⟨i,hi,rfl⟩:=zL8 zA hf
   have C:i<I.2.length:=by rw[<-h.2.2.1];exact hi
   obtain⟨a,ha,e⟩:=(h.2.2.2 i C).1;have D:=zHI h hb C;unfold faB at D;have h1:=(zbu _ _▸(zbu _ _▸D).1);have h2:bdV (I.2.getD i fi0).1:=zUX.1 h1.1;have h3:-1000<=(I.2.getD i fi0).2.1/\(I.2.getD i fi0).2.1<=1000:=z4u h1.2;have O:=yN8 h2 hv;rw[e];unfold bdV at h2;exact⟨⟨zFL ha zot zot,zFL ha zot zot,zFL ha zot zot⟩,zFL ha zot zot⟩
 · rw[h.2.1] at J;cases J
theorem yJ3(pl:Pl):scW (1/((1:Int):Rat)) pl=pl:=by
 have e:1/((1:Int):Rat)=1:=by decide +kernel
 rw[e];unfold scW;simp only[yoi]
theorem nH{v:I3}{f:FI}{x:Fc}(h1:x.1=cPl v f)(h2:x.2=f.2.2):zL7 v f x:=⟨⟨1,zox,by rw[yJ3];exact h1⟩,h2⟩
theorem yDC{x y z p q r:Int}(hp:0<p)(hq:0<q)(hr:0<r):aH (x,y,z) (bxJ p q r) (bkS (pI x y z) (pI (x+p) (y+q) (z+r))):=by
 have g:∀a b:Int,0<b->(a:Rat)<((a+b:Int):Rat):=λa b h=>z1u.2 zot;have C:dX (pI x y z) (pI (x+p) (y+q) (z+r)):=by
  intro u D;rw[zA0];refine Rat.not_le.2 ?_
  rcases zS6 D with rfl|rfl|rfl
  · exact g x p hp
  · exact g y q hq
  · exact g z r hr
 rw[yGU C];refine⟨?_,I,I,λf hf=>?_⟩
 · show uB1.map (cU _ _)=_
   simp[uB1,cU,cB,pI,cP,bxJ]
 · have H:f<6:=hf
   have e0:((0:Int):Rat)=0:=I;have J:((1:Int):Rat)=1:=I;have:f=0\/f=1\/f=2\/f=3\/f=4\/f=5:=by omega
   rcases this with rfl|rfl|rfl|rfl|rfl|rfl<;>
    (refine nH (Prod.ext ?_ ?_) I<;>simp[bxS,fB3,plD,dN,bxJ,cPl,nr3,dt3,pI,T3.set,T3.at,e0,J,zli,z8e]<;>grind)
theorem zPK{α:Type}(d:α)(l k:List α)(i:Nat):(l++k).getD i d=if i<l.length then l.getD i d else k.getD (i-l.length) d:=by
 rw[zoa,List.getElem?_append]
 split<;>rw[zoa]
def zI1(v:I3)(B:List FI)(A:List Fc):Prop:=A.length=B.length/\∀f,f<B.length->zL7 v (B.getD f fi0) (A.getD f zA)
section
variable {v:I3}
theorem zL9{B B':List FI}{A A':List Fc}(h:zI1 v B A)(h':zI1 v B' A'):zI1 v (B++B') (A++A'):=by
 refine⟨by rw[lAz,lAz,h.1,h'.1],λf hf=>?_⟩;rw[lAz] at hf;rw[zPK,zPK,h.1]
 by_cases e:f<B.length
 · rw[zau e,zau e];exact h.2 f e
 · rw[zae e,zae e];exact h'.2 _ zot
theorem yA5:zI1 v [] []:=⟨rfl,λf hf=>absurd hf (z0i _)⟩
theorem zSA{b:FI}{a:Fc}(h:zL7 v b a):zI1 v [b] [a]:=⟨rfl,λf hf=>by
 have:f=0:=by have:f<1:=hf;omega
 subst this;exact h⟩
theorem yA6{g:Nat->FI}{f:Nat->Fc}:∀n,(∀i,i<n->zL7 v (g i) (f i))->zI1 v (wS g n) (wS f n)
  |0,_=>yA5
  |n+1,h=>zL9 (yA6 n λi hi=>h i zot) (zSA (h n zot))
theorem zTW{g:Nat->List FI}{f:Nat->List Fc}:∀n,(∀i,i<n->zI1 v (g i) (f i))->zI1 v (gP g n) (gP f n)
  |0,_=>yA5
  |n+1,h=>zL9 (zTW n λi hi=>h i zot) (h n zot)
end
def c2(x y:Int)(u:PI):Pt:=T3.mk ((x+u.1:Int):Rat) ((y+u.2:Int):Rat) (0:Rat)
def baL(x y:Int)(T:List (List PI)):List (List Pt):=T.map λs=>s.map (c2 x y)
section
variable {x y:Int}
theorem zYI(u w:PI):zK0 (c2 x y u) (c2 x y w)↔u=w:=by
 unfold zK0 c2;rw[zqu,zqu];constructor
 · rintro⟨h1,h2⟩;exact Prod.ext zot zot
 · rintro rfl;exact⟨I,I⟩
theorem zIH(B:List PI){j:Nat}(h:j<B.length):(B.map (c2 x y)).getD j zT=c2 x y (B.getD j (0,0)):=qI _ _ _ h
theorem yCP(B:List PI)(p:PI):∀j,j<=B.length->j7 (B.map (c2 x y)) (c2 x y p) j=fdI B p j
  |0,_=>rfl
  |j+1,h=>by
   unfold j7 fdI;rw[yCP B p j zot,zIH B zot]
   by_cases e:B.getD j (0,0)=p
   · rw[zau e,zau ((zYI _ _).2 e)]
   · rw[zae e,zae λe'=>e ((zYI _ _).1 e')]
theorem yD5(B:List PI)(p:PI):adB (B.map (c2 x y)) (c2 x y p)=(adI B p).map (c2 x y)/\adN (B.map (c2 x y)) (c2 x y p)=anI B p:=by
 unfold adB adN adI anI fdZ;rw[zde,yCP B p _ (zbe _)];constructor
 · split
   · rw[zle];rfl
   · rfl
 · rfl
theorem zQ5(B s:List PI):∀k,k<=s.length->plB (B.map (c2 x y)) (s.map (c2 x y)) k=(plI B s k).map (c2 x y)
  |0,_=>rfl
  |k+1,h=>by
   unfold plB plI;rw[zQ5 B s k zot,zIH s zot,(yD5 _ _).1]
theorem yJY(B s:List PI):plN (B.map (c2 x y)) (s.map (c2 x y)) s.length=pnI B s s.length:=tD _ λk hk=>by
 rw[zQ5 B s k zot,zIH s hk,(yD5 _ _).2]
theorem zIM(T:List (List PI)){i:Nat}(h:i<T.length):(baL x y T).getD i []=(T.getD i []).map (c2 x y):=qI _ _ _ h
theorem zQZ(T:List (List PI)):∀i,i<=T.length->ptB (baL x y T) i=(zZL T i).map (c2 x y)
  |0,_=>rfl
  |i+1,h=>by
   unfold ptB zZL;rw[zQZ T i zot,zIM T zot,zde];exact zQ5 _ _ _ (zbe _)
theorem zEB(T:List (List PI)):(baL x y T).length=T.length:=zde _
theorem yDE(T:List (List PI)):bsZ (baL x y T)=(bsI T).map (c2 x y):=by
 unfold bsZ bsI;rw[zEB];exact zQZ T _ (zbe _)
theorem eX(T:List (List PI)):bxZ (baL x y T)=bxI T:=by
 unfold bxZ bxI;rw[zEB];exact tD _ λi hi=>by rw[zQZ T i zot,zIM T hi,zde];exact yJY _ _
theorem j3(T:List (List PI)):(bsZ (baL x y T)).length=(bsI T).length:=by rw[yDE,zde]
section
variable {z h:Int}{T:List (List PI)}
theorem zZQ:ppZ (baL x y T) (z:Rat) ((z+h:Int):Rat)=(ppI T h).map (cP (x,y,z)):=by
 have C:(ppI T h).length=2*(bsI T).length:=yW _ _;refine cS zT (by rw[zQ2,j3,zde,C]) λi hi=>?_;rw[zQ2,j3] at hi;rw[qI (cP (x,y,z)) z3 zT zot];unfold ppZ zV0 ppI;rw[j3,uE _ _ hi,uE _ _ hi,yDE,zIH _ (zcu _ zot)];unfold c2 cP;refine zbi _ ?_
 by_cases e:((bsI T).length:Int)<=(i:Int)
 · rw[zau e,zau e]
 · rw[zae e,zae e]
   show(z:Rat)=((z+0:Int):Rat)
   rw[y4u]
theorem zQ3{k:Int}(h0:0<=k)(h1:k<2*((bsI T).length:Int)):(ppZ (baL x y T) (z:Rat) ((z+h:Int):Rat)).getD k.toNat zT=cP (x,y,z) (g3 (ppI T h) k.toNat):=by
 rw[zZQ];have C:(ppI T h).length=2*(bsI T).length:=yW _ _;exact qI _ _ _ zot
theorem zM8{i k:Nat}(hi:i<T.length)(hk:k<((bxI T).getD i []).length):0<=xaI T i k/\xaI T i k<(bsI T).length:=by
 have:=zP3 (L:=baL 0 0 T) (i:=i) (k:=k) (by rw[zEB];exact hi) (by rw[eX];exact hk);rw[eX,j3] at this;exact this
theorem yJK{i k:Nat}(hi:i<T.length)(hk:k<((bxI T).getD i []).length)(h10:i<10/\k<10):zL7 (x,y,z) (sdI T h i k) (sdF (baL x y T) (z:Rat) ((z+h:Int):Rat) i k):=by
 have C:sdA (baL x y T) i k=xaI T i k:=by unfold sdA xaI;rw[eX]
 have H:sdB (baL x y T) i k=xbI T i k:=by unfold sdB xbI;rw[eX]
 have D:=zM8 hi hk;have J:0<=xbI T i k/\xbI T i k<(bsI T).length:=zM8 hi (zcu _ zot);have M:nmS i k=[115,48+i,46,48+k]:=by
  unfold nmS;rw[oI h10.1,oI h10.2];rfl
 have eN:sdN (baL x y T) (z:Rat) ((z+h:Int):Rat) i k=nr3 (snI T h i k):=by
  unfold sdN;rw[C,H,zQ3 D.1 zot,zQ3 J.1 zot];unfold nr3 snI cP;simp only[zru,zli,z8e];have e0:((0:Int):Rat)=0:=I;rw[e0]
  congr 1<;>grind
 refine nH ?_ ?_
 · unfold sdF cPl
   refine Prod.ext eN ?_
   show zF (sdN _ _ _ i k) _=_
   rw[eN,C,zQ3 D.1 zot]
   show zF (nr3 (snI T h i k)) (cP (x,y,z) (g3 (ppI T h) (xaI T i k).toNat))=((dt3 (snI T h i k) (g3 (ppI T h) (xaI T i k).toNat)+dt3 (snI T h i k) (x,y,z):Int):Rat)
   generalize snI T h i k=n;generalize g3 (ppI T h) (xaI T i k).toNat=u;unfold zF nr3 cP dt3;simp only[zli,zji];grind
 · show([[sdA _ i k,sdB _ i k,sdB _ i k+_,sdA _ i k+_]],nmS i k)=_
   rw[C,H,M,j3];rfl
theorem zZN(h10:T.length<=10/\∀i,i<T.length->(T.getD i []).length<=10):aH (x,y,z) (prI T h) (prR (baL x y T) (z:Rat) ((z+h:Int):Rat)):=by
 have C:(bxI T).length=T.length:=yW _ _;have D:∀i,i<T.length->((bxI T).getD i []).length=(T.getD i []).length:=λi hi=>by
  unfold bxI;rw[uE _ _ hi];exact yW _ _
 have H:zI1 (x,y,z) (prI T h).2 (prR (baL x y T) (z:Rat) ((z+h:Int):Rat)).2.1:=by
  show zI1 _ (gP _ _++[_,_]) (zNO _ _ _ _++[_,_])
  refine zL9 ?_ (zL9 (B:=[_]) (A:=[_]) (zSA ?_) (zSA ?_))
  · unfold zNO sfX
    rw[eX];refine zTW _ λi hi=>yA6 _ λk hk=>?_;rw[C] at hi;have:=D i hi;have:=h10.2 i hi;exact yJK hi hk ⟨zot,zot⟩
  · refine nH ?_ ?_
    · unfold btF cPl nr3 dt3
      refine Prod.ext ?_ ?_
      · show T3.mk (0:Rat) (0:Rat) (-((1:Int):Rat))=T3.mk ((0:Int):Rat) ((0:Int):Rat) ((-1:Int):Rat)
        rw[z8e];rfl
      · show -(z:Rat)=((0+(0*x+0*y+-1*z):Int):Rat)
        rw[show 0+(0*x+0*y+-1*z)= -z by omega,z8e]
    · show(yDK (baL x y T) (bxZ (baL x y T)).length,_)=_
      unfold yDK;rw[eX]
  · refine nH ?_ ?_
    · unfold tpF cPl nr3 dt3
      refine Prod.ext ?_ ?_
      · show T3.mk (0:Rat) (0:Rat) ((1:Int):Rat)=T3.mk ((0:Int):Rat) ((0:Int):Rat) ((1:Int):Rat)
        rfl
      · show((z+h:Int):Rat)=((h+(0*x+0*y+1*z):Int):Rat)
        rw[show h+(0*x+0*y+1*z)=z+h by omega]
    · show(zYE (baL x y T) (bxZ (baL x y T)).length,_)=_
      unfold zYE tpL;rw[eX,j3]
 exact⟨zZQ,I,H.1,H.2⟩
theorem yFD(h10:(1<=T.length/\T.length<=10)/\∀i,i<T.length->(T.getD i []).length<=10)(hn:nsI T=true)(hh:0<h)(hc:chI (prI T h)=true):(∀s,s∈baL x y T->cA s)/\prE (baL x y T) (z:Rat) ((z+h:Int):Rat)=0/\okS (prR (baL x y T) (z:Rat) ((z+h:Int):Rat)):=by
 have hly:yFZ (x:Rat) 1 (y:Rat) 1 T (baL x y T):=by
  refine⟨zEB T,λm hm=>?_⟩;rw[show gl (baL x y T) m=(T.getD m []).map (c2 x y) from zIM T hm];refine⟨zde _,λk hk=>?_⟩;rw[show gp ((T.getD m []).map (c2 x y)) k=c2 x y ((T.getD m []).getD k (0,0)) from zIH _ hk];unfold pr ag gI c2;rw[yoi,yoi,<-zli,<-zli];rfl
 obtain⟨n1,n2,n3⟩:=zHE zox zox hly hn;have hm:=zZN (x:=x) (y:=y) (z:=z) (h:=h) ⟨h10.1.2,h10.2⟩;refine⟨n3,(yNI n1 n2 ?_ ?_).1,(w8 hm hc).2⟩
 · rw[zA0]
   exact Rat.not_le.2 (z1u.2 zot)
 · have e1:iL (baL x y T) (baL x y T).length<=64*(baL x y T).length:=yCW (λm hm=>by
    rw[zEB] at hm;rw[zIM T hm,zde];have:=h10.2 m hm;omega) _ (zbe _)
   have e2:=zLD (baL x y T) (baL x y T).length;have e3:(bsZ (baL x y T)).length=(ptB (baL x y T) (baL x y T).length).length:=I;have e4:iL (baL x y T) (baL x y T).length<=100:=by
    have g:∀i,i<=T.length->iL (baL x y T) i<=10*i:=λi=>by
     induction i with
     |zero=>exactλ_=>zbe _
     |succ i ih=>
      intro hi;have:=ih zot;have h2:=h10.2 i zot
      show iL (baL x y T) i+((baL x y T).getD i []).length<=_
      rw[zIM T zot,zde];omega
    have:=g _ (zbe _);rw[zEB];omega
   unfold prB;omega
end
end
theorem yOG:(baT.all λT=>nsI T&&zDI (prI T 1)&&zDI (prI T 2))=true:=by decide +kernel
theorem yMV:((List.range 3).all λa=>(List.range 2).all λb=>(List.range 2).all λc=>nsI (trT a b c)&&zDI (prI (trT a b c) 1)&&zDI (prI (trT a b c) 2))=true:=by decide +kernel
theorem yL4:((List.range 2).all λp=>(List.range 2).all λq=>(List.range 2).all λr=>chI (bxJ (1+p:Nat) (1+q:Nat) (1+r:Nat)))=true:=by decide +kernel
theorem yJB:teB 0 0 0=true:=by decide +kernel
theorem yJA:teB 0 0 1=true:=by decide +kernel
theorem yI9:teB 0 0 2=true:=by decide +kernel
theorem yI8:teB 0 1 0=true:=by decide +kernel
theorem yI7:teB 0 1 1=true:=by decide +kernel
theorem yI6:teB 0 1 2=true:=by decide +kernel
theorem yI5:teB 1 0 0=true:=by decide +kernel
theorem yI4:teB 1 0 1=true:=by decide +kernel
theorem yI3:teB 1 0 2=true:=by decide +kernel
theorem yI2:teB 1 1 0=true:=by decide +kernel
theorem yI1:teB 1 1 1=true:=by decide +kernel
theorem yI0:teB 1 1 2=true:=by decide +kernel
theorem yIZ:teB 2 0 0=true:=by decide +kernel
theorem yIY:teB 2 0 1=true:=by decide +kernel
theorem yIX:teB 2 0 2=true:=by decide +kernel
theorem yIW:teB 2 1 0=true:=by decide +kernel
theorem yIV:teB 2 1 1=true:=by decide +kernel
theorem yIU:teB 2 1 2=true:=by decide +kernel
theorem yM1{p c q e f g:Nat}(hp:p<3)(hc:c<2)(hq:q<3)(he:e<3)(hf:f<3)(hg:g<3):zDI (teI p c q e f g)=true:=by
 have h:teB p c q=true:=by
  have H:p=0\/p=1\/p=2:=by omega
  have D:c=0\/c=1:=by omega
  have C:q=0\/q=1\/q=2:=by omega
  rcases H with rfl|rfl|rfl<;>rcases D with rfl|rfl<;>rcases C with rfl|rfl|rfl
  · exact yJB
  · exact yJA
  · exact yI9
  · exact yI8
  · exact yI7
  · exact yI6
  · exact yI5
  · exact yI4
  · exact yI3
  · exact yI2
  · exact yI1
  · exact yI0
  · exact yIZ
  · exact yIY
  · exact yIX
  · exact yIW
  · exact yIV
  · exact yIU
 exact zob.1 (zob.1 (zob.1 h e (zog.2 he)) f (zog.2 hf)) g (zog.2 hg)
theorem yL3{p q r:Nat}(hp:p<2)(hq:q<2)(hr:r<2):chI (bxJ (1+p:Nat) (1+q:Nat) (1+r:Nat))=true:=
 zob.1 (zob.1 (zob.1 yL4 p (zog.2 hp)) q (zog.2 hq)) r (zog.2 hr)
section
variable {v:I3}
theorem yG7(a b c:I3):thN (cP v a) (cP v b) (cP v c)=nr3 (th3 a b c):=by
 unfold thN zO yJ nr3 th3 cx3 sb3 cP;simp only[zru,zli,zji]
 congr 1<;>grind
theorem yNL{n:I3}:nr3 n=zT↔n=z3:=by
 constructor
 · intro e
   have H:=zqu.1 (show(n.1:Rat)=((0:Int):Rat) from zbi T3.x e);have D:=zqu.1 (show(n.2.1:Rat)=((0:Int):Rat) from zbi T3.y e);have C:=zqu.1 (show(n.2.2:Rat)=((0:Int):Rat) from zbi T3.z e);exact Prod.ext H (Prod.ext D C)
 · rintro rfl;rfl
theorem yLO(n u:I3):zF (nr3 n) (cP v u)=((dt3 n u+dt3 n v:Int):Rat):=by
 unfold zF nr3 cP dt3;simp only[zli,zji];grind
theorem zKY{a b c:I3}(h:¬th3 a b c=z3):thZ (cP v a) (cP v b) (cP v c)=(nr3 (th3 a b c),((dt3 (th3 a b c) a+dt3 (th3 a b c) v:Int):Rat)):=by
 rw[(zYF (λe=>h (yNL.1 (by rw[<-yG7 (v:=v)];exact e)))).1,yG7,yLO]
theorem yJV{A B C T:I3}(h0:¬th3 A B C=z3)(h1:¬th3 A B T=z3)(h2:¬th3 B C T=z3)(h3:¬th3 C A T=z3):aH v (pyI A B C T) (pyR [cP v A,cP v B,cP v C] (cP v T)):=by
 have J:qS (((0:Nat):Int):Rat)=[48]:=oI (n:=0) zox;have H:qS (((1:Nat):Int):Rat)=[49]:=oI (n:=1) zox;have D:qS (((2:Nat):Int):Rat)=[50]:=oI (n:=2) zox;refine⟨I,I,I,λf hf=>?_⟩;have M:f<4:=hf;have:f=0\/f=1\/f=2\/f=3:=by omega
 rcases this with rfl|rfl|rfl|rfl
 · refine nH ?_ ?_
   · show thZ (cP v A) (cP v B) (cP v T)=_
     rw[zKY h1];rfl
   · show([[((0:Nat):Int),((1%3:Nat):Int),((3:Nat):Int)]],[115]++qS (((0:Nat):Int):Rat))=_
     rw[J];rfl
 · refine nH ?_ ?_
   · show thZ (cP v B) (cP v C) (cP v T)=_
     rw[zKY h2];rfl
   · show([[((1:Nat):Int),((2%3:Nat):Int),((3:Nat):Int)]],[115]++qS (((1:Nat):Int):Rat))=_
     rw[H];rfl
 · refine nH ?_ ?_
   · show thZ (cP v C) ([cP v A,cP v B,cP v C].getD ((2+1)%3) zT) (cP v T)=_
     rw[show[cP v A,cP v B,cP v C].getD ((2+1)%3) zT=cP v A from I,zKY h3];rfl
   · show([[((2:Nat):Int),(((2+1)%3:Nat):Int),((3:Nat):Int)]],[115]++qS (((2:Nat):Int):Rat))=_
     rw[D];rfl
 · refine nH ?_ ?_
   · show opP (thZ (cP v A) (cP v B) (cP v C))=(nr3 (ng3 (th3 A B C)),((-dt3 (th3 A B C) A+dt3 (ng3 (th3 A B C)) v:Int):Rat))
     rw[zKY h0];generalize th3 A B C=n;unfold opP nr3 ng3 dt3;have O:((-1:Int):Rat)= -1:=I;refine Prod.ext ?_ ?_
     · simp only[z8e,O]
       congr 1<;>grind
     · simp only[z8e,zli,zji]
       grind
   · rfl
end
theorem zKZ{p c q e f g:Nat}(hp:p<3)(hc:c<2)(hq:q<3)(he:e<3)(hf:f<3)(hg:g<3):(chI (teI p c q e f g)=true/\nmB (teI p c q e f g)=true)/\chI (nrI (teI p c q e f g))=true:=by
 have h:=yM1 hp hc hq he hf hg;unfold zDI at h;rw[zbu,zbu] at h;exact h
theorem zUS{P:List I3}{F:List FI}(h:chI (P,F)=true){f:Nat}(hf:f<F.length):¬(F.getD f fi0).1=z3:=by
 unfold chI at h;replace h:=(zbu _ _▸h).2;rw[zbu,zbu,zbu] at h;have C:=zob.1 h.1.1.2 _ (kJ (d:=fi0) hf);unfold faB at C;replace C:=(zbu _ _▸C).2;rw[zbu,zbu,zje,zgu] at C;exact C.1.2
def teL(x y z:Int)(p c q:Nat):List Pt:=[pI x y z,pI (x+(1+p)) y z,pI (x+c) (y+(1+q)) z]
def teA(x y z:Int)(e f g:Nat):Pt:=pI (x+e) (y+f) (z+(1+g))
theorem zYG{x y z:Int}{p c q e f g:Nat}(hp:p<3)(hc:c<2)(hq:q<3)(he:e<3)(hf:f<3)(hg:g<3):aH (x,y,z) (teI p c q e f g) (pyR (teL x y z p c q) (teA x y z e f g)):=by
 have h:=(zKZ hp hc hq he hf hg).1.1;have J:=zUS h (f:=0) (show 0<4 by decide);have H:=zUS h (f:=1) (show 1<4 by decide);have D:=zUS h (f:=2) (show 2<4 by decide);have M:=zUS h (f:=3) (show 3<4 by decide);have h0:¬th3 (0,0,0) (1+(p:Int),0,0) ((c:Int),1+(q:Int),0)=z3:=λe'=>M (by
  show ng3 (th3 _ _ _)=z3
  rw[show th3 _ _ _=z3 from e'];rfl)
 have C:=yJV (v:=(x,y,z)) h0 J H D;have U:[cP (x,y,z) (0,0,0),cP (x,y,z) (1+(p:Int),0,0),cP (x,y,z) ((c:Int),1+(q:Int),0)]=teL x y z p c q:=by
  unfold teL cP pI;simp
 have O:cP (x,y,z) ((e:Int),(f:Int),1+(g:Int))=teA x y z e f g:=by
  unfold teA cP pI;simp
 rw[U,O] at C;exact C
theorem yEP{x y z:Int}{p c q e f g:Nat}:(¬thN ((teL x y z p c q).getD 0 zT) ((teL x y z p c q).getD 1 zT) ((teL x y z p c q).getD 2 zT)=zT)/\zIC (thZ ((teL x y z p c q).getD 0 zT) ((teL x y z p c q).getD 1 zT) ((teL x y z p c q).getD 2 zT)) (teL x y z p c q)/\0<sdZ (thZ ((teL x y z p c q).getD 0 zT) ((teL x y z p c q).getD 1 zT) ((teL x y z p c q).getD 2 zT)) (teA x y z e f g):=by
 have hP:0<(1+(p:Int))*(1+(q:Int)):=Int.mul_pos zot zot;have hG:0<(1+(p:Int))*(1+(q:Int))*(1+(g:Int)):=Int.mul_pos hP zot;have hN:thN (pI x y z) (pI (x+(1+p)) y z) (pI (x+c) (y+(1+q)) z)=T3.mk (0:Rat) (0:Rat) (((1+(p:Int))*(1+(q:Int)):Int):Rat):=by
  unfold thN zO yJ pI;simp only[zli,zji]
  congr 1<;>grind
 have hz:¬thN (pI x y z) (pI (x+(1+p)) y z) (pI (x+c) (y+(1+q)) z)=zT:=λe=>by
  rw[hN] at e;have:=zqu.1 (show _=((0:Int):Rat) from zbi T3.z e);omega
 have hZ:thZ (pI x y z) (pI (x+(1+p)) y z) (pI (x+c) (y+(1+q)) z)=(T3.mk (0:Rat) (0:Rat) (((1+(p:Int))*(1+(q:Int)):Int):Rat),(((1+(p:Int))*(1+(q:Int))*z:Int):Rat)):=by
  rw[(zYF hz).1,hN];unfold zF pI;simp only[zji,y3u,Rat.zero_add]
 generalize hm:(1+(p:Int))*(1+(q:Int))=m at hP hG hN hZ;have J:∀X Y Z:Int,sdZ (T3.mk (0:Rat) (0:Rat) ((m:Int):Rat),((m*z:Int):Rat)) (pI X Y Z)=sgI (m*(Z-z)):=λX Y Z=>by
  have:hgt (T3.mk (0:Rat) (0:Rat) ((m:Int):Rat),((m*z:Int):Rat)) (pI X Y Z)=((m*(Z-z):Int):Rat):=by
   unfold hgt zF pI;simp only[zji,zru];grind
  unfold sdZ;rw[this,mH];rfl
 have aa:∀X Y:Int,sdZ (T3.mk (0:Rat) (0:Rat) ((m:Int):Rat),((m*z:Int):Rat)) (pI X Y z)=0:=λX Y=>by
  rw[J,yxi,Int.mul_zero];rfl
 have M:axI (T3.mk (0:Rat) (0:Rat) ((m:Int):Rat))=0/\axJ (T3.mk (0:Rat) (0:Rat) ((m:Int):Rat))=1:=⟨zau (yju.2 hP),zau (yju.2 hP)⟩;have D:∀X Y Z:Int,pt2 (T3.mk (0:Rat) (0:Rat) ((m:Int):Rat),((m*z:Int):Rat)) (pI X Y Z)=ag (x:Rat) 1 (y:Rat) 1 (X-x,Y-y):=λX Y Z=>by
  unfold pt2 ag;rw[M.1,M.2];unfold pr pI;simp only[T3.at,zru];refine Prod.ext ?_ ?_<;>grind
 refine⟨hz,?_,?_⟩
 · show zIC (thZ (pI x y z) (pI (x+(1+p)) y z) (pI (x+c) (y+(1+q)) z)) _
   rw[hZ];refine⟨⟨show 3<=3 from zbe 3,λe=>?_⟩,λi hi=>?_,λi k hi h2 hk=>?_⟩
   · have:=zqu.1 (show _=((0:Int):Rat) from zbi T3.z e)
     omega
   · have H:i<3:=hi
     rcases zS6 H with rfl|rfl|rfl<;>exact aa _ _
   · have H:i<3:=hi
     have ab:k<3:=hk;have:k=2:=by omega
     subst this;have C:∀u w t:PI,0<crI u w t->0<orZ (ag (x:Rat) 1 (y:Rat) 1 u) (ag (x:Rat) 1 (y:Rat) 1 w) (ag (x:Rat) 1 (y:Rat) 1 t):=λu w t h=>by
      rw[yDZ zox zox];exact y8.2 h
     have pA:pt2 (T3.mk (0:Rat) (0:Rat) ((m:Int):Rat),((m*z:Int):Rat)) (pI x y z)=ag (x:Rat) 1 (y:Rat) 1 (0,0):=by rw[D,yxi,yxi]
     have U:pt2 (T3.mk (0:Rat) (0:Rat) ((m:Int):Rat),((m*z:Int):Rat)) (pI (x+(1+p)) y z)=ag (x:Rat) 1 (y:Rat) 1 (1+(p:Int),0):=by rw[D,yxi,show x+(1+(p:Int))-x=1+(p:Int) by omega]
     have O:pt2 (T3.mk (0:Rat) (0:Rat) ((m:Int):Rat),((m*z:Int):Rat)) (pI (x+c) (y+(1+q)) z)=ag (x:Rat) 1 (y:Rat) 1 ((c:Int),1+(q:Int)):=by rw[D,show x+(c:Int)-x=(c:Int) by omega,show y+(1+(q:Int))-y=1+(q:Int) by omega]
     have c1:crI (0,0) (1+(p:Int),0) ((c:Int),1+(q:Int))=m:=by rw[<-hm];simp[crI]
     have c2:crI (1+(p:Int),0) ((c:Int),1+(q:Int)) (0,0)=m:=by rw[<-hm];simp[crI];grind
     have c3:crI ((c:Int),1+(q:Int)) (0,0) (1+(p:Int),0)=m:=by rw[<-hm];simp[crI];grind
     have hL:(teL x y z p c q).length=3:=I;have g0:gp (teL x y z p c q) 0=pI x y z:=I;have g1:gp (teL x y z p c q) 1=pI (x+(1+p)) y z:=I;have g2:gp (teL x y z p c q) 2=pI (x+c) (y+(1+q)) z:=I;unfold nx;rw[hL]
     rcases zS6 H with rfl|rfl|rfl
     · rw[show(0+1)%3=1 from I,show(0+2)%3=2 from I,g0,g1,g2,pA,U,O]
       exact C _ _ _ (by rw[c1];exact hP)
     · rw[show(1+1)%3=2 from I,show(1+2)%3=0 from I,g0,g1,g2,pA,U,O]
       exact C _ _ _ (by rw[c2];exact hP)
     · rw[show(2+1)%3=0 from I,show(2+2)%3=1 from I,g0,g1,g2,pA,U,O]
       exact C _ _ _ (by rw[c3];exact hP)
 · show 0<sdZ (thZ (pI x y z) (pI (x+(1+p)) y z) (pI (x+c) (y+(1+q)) z)) (pI (x+e) (y+f) (z+(1+g)))
   rw[hZ,J];refine y8.2 ?_;rw[show z+(1+(g:Int))-z=1+(g:Int) by omega];exact hG
theorem yIS{x y z:Int}{p c q e f g:Nat}(hp:p<3)(hc:c<2)(hq:q<3)(he:e<3)(hf:f<3)(hg:g<3):pyH (teL x y z p c q) (teA x y z e f g):=by
 obtain⟨h1,h2,h3⟩:=yEP (x:=x) (y:=y) (z:=z) (p:=p) (c:=c) (q:=q) (e:=e) (f:=f) (g:=g);exact⟨⟨⟨by show 3<=3;decide,by show 3<=64;decide⟩,h1⟩,⟨h2,h3⟩,(w8 (zYG hp hc hq he hf hg) (zKZ hp hc hq he hf hg).1.1).2⟩
def baF(T:List (List PI)):Prop:=T∈baT\/∃a b c:Nat,(a<3/\b<2/\c<2)/\T=trT a b c
def yCR(I:SI):Prop:=(∃p q r:Nat,(p<2/\q<2/\r<2)/\I=bxJ (1+p:Nat) (1+q:Nat) (1+r:Nat))\/(∃T h,baF T/\(h=1\/h=2)/\I=nrI (prI T h))\/
 ∃p c q e f g:Nat,(p<3/\c<2/\q<3)/\(e<3/\f<3/\g<3)/\I=nrI (teI p c q e f g)
def zIP(s:Sd):Prop:=∃v I,yCR I/\bdV v/\aH v I s
theorem yHY{T:List (List PI)}{h:Int}(hT:baF T)(hh:h=1\/h=2):nsI T=true/\zDI (prI T h)=true:=by
 have g:∀T,(nsI T&&zDI (prI T 1)&&zDI (prI T 2))=true->nsI T=true/\zDI (prI T h)=true:=λT e=>by
  rw[zbu,zbu] at e
  rcases hh with rfl|rfl
  · exact⟨e.1.1,e.1.2⟩
  · exact⟨e.1.1,e.2⟩
 rcases hT with hT|⟨a,b,c,⟨ha,hb,hc⟩,rfl⟩
 · exact g T (zob.1 yOG T hT)
 · exact g _ (zob.1 (zob.1 (zob.1 yMV a (zog.2 ha)) b (zog.2 hb)) c (zog.2 hc))
theorem yAB{I:SI}(h:zDI I=true):(chI I=true/\nmB I=true)/\chI (nrI I)=true:=by
 unfold zDI at h;rw[zbu,zbu] at h;exact h
theorem zMX{I:SI}(h:yCR I):chI I=true:=by
 rcases h with⟨p,q,r,⟨hp,hq,hr⟩,rfl⟩|⟨T,h,hT,hh,rfl⟩|⟨p,c,q,e,f,g,⟨hp,hc,hq⟩,⟨he,hf,hg⟩,rfl⟩
 · exact yL3 hp hq hr
 · exact(yAB (yHY hT hh).2).2
 · exact(zKZ hp hc hq he hf hg).2
theorem zBC{s:Sd}(h:zIP s):(jQ s/\okS s)/\smS 2 2 2 1 s:=by
 obtain⟨v,I,D,H,C⟩:=h;exact⟨w8 C (zMX D),zYS C (zMX D) H⟩
theorem nat_of{z:Int}{n:Nat}(h:0<=z/\z<n):∃m:Nat,m<n/\z=m:=⟨z.toNat,zot,zot⟩
section
variable {x y z:Int}(hx:0<=x/\x<3)(hy:0<=y/\y<3)(hz:0<=z/\z<3)
include hx hy hz
theorem zY1{p q r:Int}(hp:0<=p/\p<2)(hq:0<=q/\q<2)(hr:0<=r/\r<2):zIP (bkS (pI x y z) (pI (x+1+p) (y+1+q) (z+1+r))):=by
 obtain⟨p,H,rfl⟩:=nat_of (n:=2) hp;obtain⟨q,D,rfl⟩:=nat_of (n:=2) hq;obtain⟨r,C,rfl⟩:=nat_of (n:=2) hr;refine⟨(x,y,z),_,.inl ⟨p,q,r,⟨H,D,C⟩,I⟩,⟨by show -1000<=x/\x<=1000;omega,by show -1000<=y/\y<=1000;omega,by show -1000<=z/\z<=1000;omega⟩,?_⟩;rw[show x+1+(p:Int)=x+((1+p:Nat):Int) by omega,show y+1+(q:Int)=y+((1+q:Nat):Int) by omega,show z+1+(r:Int)=z+((1+r:Nat):Int) by omega];exact yDC zot zot zot
theorem zQS{p c q e f g:Int}(hp:0<=p/\p<3)(hc:0<=c/\c<2)(hq:0<=q/\q<3)(he:0<=e/\e<3)(hf:0<=f/\f<3)(hg:0<=g/\g<3):pyH [pI x y z,pI (x+1+p) y z,pI (x+c) (y+1+q) z] (pI (x+e) (y+f) (z+1+g))/\
 ∃v I,(∃p c q e f g:Nat,(p<3/\c<2/\q<3)/\(e<3/\f<3/\g<3)/\I=nrI (teI p c q e f g))/\bdV v/\aH v I (nrP (pyR [pI x y z,pI (x+1+p) y z,pI (x+c) (y+1+q) z] (pI (x+e) (y+f) (z+1+g))),nrF (pyR [pI x y z,pI (x+1+p) y z,pI (x+c) (y+1+q) z] (pI (x+e) (y+f) (z+1+g))),[]):=by
 obtain⟨p,D,rfl⟩:=nat_of (n:=3) hp;obtain⟨c,O,rfl⟩:=nat_of (n:=2) hc;obtain⟨q,C,rfl⟩:=nat_of (n:=3) hq;obtain⟨e,M,rfl⟩:=nat_of (n:=3) he;obtain⟨f,J,rfl⟩:=nat_of (n:=3) hf;obtain⟨g,H,rfl⟩:=nat_of (n:=3) hg;have hm:=zYG (x:=x) (y:=y) (z:=z) D O C M J H;have h0:=zKZ D O C M J H;have U:=yA4 hm h0.1.1 h0.1.2;have Z:=yIS (x:=x) (y:=y) (z:=z) D O C M J H;unfold teL teA at U Z;rw[show x+1+(p:Int)=x+(1+p) by omega,show y+1+(q:Int)=y+(1+q) by omega,show z+1+(g:Int)=z+(1+g) by omega];refine⟨Z,(x,y,z),_,⟨p,c,q,e,f,g,⟨D,O,C⟩,⟨M,J,H⟩,rfl⟩,⟨by show -1000<=x/\x<=1000;omega,by show -1000<=y/\y<=1000;omega,by show -1000<=z/\z<=1000;omega⟩,?_⟩;have e0:nrE (pyR [pI x y z,pI (x+(1+↑p)) y z,pI (x+↑c) (y+(1+↑q)) z] (pI (x+↑e) (y+↑f) (z+(1+↑g))))=[]:=by unfold nrE;split<;>rfl
 rw[e0] at U;exact U
end
def yM0(s:Sd):Prop:=∃v I,(∃p c q e f g:Nat,(p<3/\c<2/\q<3)/\(e<3/\f<3/\g<3)/\I=nrI (teI p c q e f g))/\bdV v/\aH v I s
theorem zFA{s:Sd}(h:yM0 s):zIP s:=by
 obtain⟨v,I,C,h⟩:=h;exact⟨v,I,.inr (.inr C),h⟩
def baP(L:List (List Pt)):Prop:=∃x y T,(0<=x/\x<2)/\(0<=y/\y<2)/\baF T/\L=baL x y T
theorem yGV{T:List (List PI)}(h:baF T):(1<=T.length/\T.length<=10)/\∀i,i<T.length->(T.getD i []).length<=10:=by
 have g:∀T,T∈baT->(decide (1<=T.length/\T.length<=10)&&T.all λs=>decide (s.length<=10))=true:=λT C=>zob.1 (show(baT.all λT=>decide (1<=T.length/\T.length<=10)&&T.all λs=>decide (s.length<=10))=true by decide) T C
 rcases h with h|⟨a,b,c,_,rfl⟩
 · have:=g T h
   rw[zbu,zfe] at this;exact⟨this.1,λi hi=>z4u (zob.1 this.2 _ (kJ hi))⟩
 · refine⟨⟨show 1<=1 by decide,show 1<=10 by decide⟩,λi hi=>?_⟩
   have:i=0:=by have:i<1:=hi;omega
   subst this
   show 3<=10;decide
theorem zDE{L:List (List Pt)}(h:baP L){z a:Int}(hz:0<=z/\z<2)(ha:0<=a/\a<2):((∀s,s∈L->cA s)/\prE L (z:Rat) ((z+1+a:Int):Rat)=0/\okS (prR L (z:Rat) ((z+1+a:Int):Rat)))/\zIP (prP L (z:Rat) ((z+1+a:Int):Rat),prF L (z:Rat) ((z+1+a:Int):Rat),[]):=by
 obtain⟨x,y,T,hx,hy,H,rfl⟩:=h;have hh:1+a=1\/1+a=2:=by omega
 obtain⟨h1,h2⟩:=yHY H hh;obtain⟨⟨h3,M⟩,O⟩:=yAB h2;have C:=yGV H;have D:=yFD (x:=x) (y:=y) (z:=z) C h1 zot h3;rw[show z+1+a=z+(1+a) by omega];refine⟨D,(x,y,z),_,.inr (.inl ⟨T,_,H,hh,I⟩),⟨by show -1000<=x/\x<=1000;omega,by show -1000<=y/\y<=1000;omega,by show -1000<=z/\z<=1000;omega⟩,?_⟩;have J:=yA4 (zZN (x:=x) (y:=y) (z:=z) (h:=1+a) ⟨C.1.2,C.2⟩) h3 M;have e0:nrE (prR (baL x y T) (z:Rat) ((z+(1+a):Int):Rat))=[]:=by unfold nrE;split<;>rfl
 unfold prP prF;rw[zau D.2.1,zau D.2.1];rw[e0] at J;exact J
def aD(x y:Int):List Int->List Pt
  |a::b::l=>T3.mk ((x+a:Int):Rat) ((y+b:Int):Rat) (0:Rat)::aD x y l
  |_=>[]
theorem yC5{x y:Int}{l:List Int}{u:Nat}{D:List Pt}(hD:D++aD x y (l.drop (2*u))=aD x y l)(h:2*u+1<l.length):(D++[T3.mk ((x+l.getD (2*u) 0:Int):Rat) ((y+l.getD (2*u+1) 0:Int):Rat) (0:Rat)])++aD x y (l.drop (2*(u+1)))=aD x y l:=by
 rw[<-hD,zki]
 congr 1
 rw[show l.drop (2*u)=l.getD (2*u) 0::l.getD (2*u+1) 0::l.drop (2*(u+1)) by
  rw[z4e zot,z4e zot,zoa,zoa,zoc zot,zoc zot]
  rfl]
 rfl
theorem yGQ{x y:Int}{l:List Int}{u:Nat}{D:List Pt}(hD:D++aD x y (l.drop (2*u))=aD x y l)(h:¬2*u+1<l.length):D=aD x y l:=by
 have e:aD x y (l.drop (2*u))=[]:=by
  have C:(l.drop (2*u)).length<=1:=by rw[ziu];omega
  match l.drop (2*u),C with
  |[],_=>rfl
  |[_],_=>rfl
 rw[<-hD,e,zqi]
section
variable {x y:Int}(hx:0<=x/\x<2)(hy:0<=y/\y<2)
include hx hy
theorem yDR:baP [aD x y [0,0,2,0,2,1,1,1,1,2,0,2]]:=⟨x,y,_,hx,hy,.inl (.head _),rfl⟩
theorem yDQ:baP [aD x y [0,0,3,0,3,3,0,3],aD x y [1,1,1,2,2,2,2,1]]:=⟨x,y,_,hx,hy,.inl (.tail _ (.head _)),rfl⟩
theorem yDP:baP [aD x y [0,0,3,0,3,3,0,3],aD x y [1,1,0,0,1,2]]:=⟨x,y,_,hx,hy,.inl (.tail _ (.tail _ (.head _))),rfl⟩
theorem yDO:baP [aD x y [0,0,1,0,2,0,2,2,0,1]]:=⟨x,y,_,hx,hy,.inl (.tail _ (.tail _ (.tail _ (.head _)))),rfl⟩
theorem yDN{a b c:Int}(ha:0<=a/\a<3)(hb:0<=b/\b<2)(hc:0<=c/\c<2):baP [aD x y [0,0,1+a,0,b,1+c]]:=by
 obtain⟨a,H,rfl⟩:=nat_of (n:=3) ha;obtain⟨b,D,rfl⟩:=nat_of (n:=2) hb;obtain⟨c,C,rfl⟩:=nat_of (n:=2) hc;exact⟨x,y,_,hx,hy,.inr ⟨a,b,c,⟨H,D,C⟩,I⟩,by
  unfold trT;rw[show((1+a:Nat):Int)=1+(a:Int) by omega,show((1+c:Nat):Int)=1+(c:Int) by omega]
  rfl⟩
end
end Bk
namespace Go.Proofs.YtpkaegemlpaenaaGreat
open Bk Go Tryz
attribute [local irreducible] GL GC GQ W OpV
set_option maxHeartbeats 1000000 in
theorem zRX{w0 w:World}{h0 h:Mem}{b k:Nat}{vl:Value}{xs:List Int}(hl:Is h vl xs)(hk:k<=xs.length){L:List Res}(hs:St w0 h0 (.var b 72 [vl,vI ↑k]::L) h w):
 Calls prog 57 #[vP b 0] w (lQ w0 h0 h L (λg r q'=>∃k':Nat,∃m:Sq,q'=.var b 72 [vl,vI ↑k']/\k'<=xs.length/\zIP m/\(tSd 2 2 2 1).Is g r m)):=by
 have cd:=hl.lt63;refine qK (n:=39) (e:=[(0,vP b 0)]) (vs:=[vP b 0]) func57 rfl rfl (bL rfl) hs ⟨rfl,y5i⟩ (go2 ?_);refine nA (ρ:=(tSd 1 1 1 1)) (X:=([],([],[]))) qQ (yA wC (yA wC wC)) λb2 dp br=>(go5 ?_);refine yH (A:=[_]) (vs:=[_,vI (3)]) call13 e2z (λX w hs=>wE hl zow oM oM hs) I ?_;intro v9 g9 q9 bx bt;obtain⟨k9,U,rfl,dh,rfl,bc,bd⟩:=bt;refine go1 ?_;refine yH (A:=[_]) (vs:=[_,vI (3)]) call13 e2z (λX w hs=>wE hl.up zow oM oM hs) I ?_;intro ct dm da bo bi;obtain⟨df,D,rfl,ci,rfl,aj,ap⟩:=bi;refine go1 ?_;refine yH (A:=[_]) (vs:=[_,vI (3)]) call13 e2z (λX w hs=>wE hl.up zow oM oM hs) I ?_;intro cq dl cz bn bh;obtain⟨de,C,rfl,ch,rfl,ai,ao⟩:=bh;refine uR ?_;refine cL (ev3 I I I) call12 (λw hs=>gM hs oM oM oM oM oM oM) λcp h1 bw ax=>?_;replace ax:=Rp.Is.cast (y:=(pI U D C)) ax zo5;refine go3 ?_;refine yH (A:=[_]) (vs:=[_,vI (2)]) call13 e2z (λX w hs=>wE hl.up zow oM oM hs) I ?_;intro co dk cy bm bg;obtain⟨dd,O,rfl,cg,rfl,ah,an⟩:=bg;refine go4 ?_;refine yH (A:=[_]) (vs:=[_,vI (2)]) call13 e2z (λX w hs=>wE hl.up zow oM oM hs) I ?_;intro cn dj cw bl bf;obtain⟨dc,M,rfl,cf,rfl,ae,am⟩:=bf;refine go4 ?_;refine yH (A:=[_]) (vs:=[_,vI (2)]) call13 e2z (λX w hs=>wE hl.up zow oM oM hs) I ?_;intro cm di cv bk be;obtain⟨db,J,rfl,ce,rfl,ad,ak⟩:=be;refine go1 ?_;refine cL (ev3 I I I) call12 (λw hs=>gM hs oM oM oM oM oM oM) λcl h2 bv aw=>?_;replace aw:=Rp.Is.cast (y:=(pI (U+1+O) (D+1+M) (C+1+J))) aw zo5;refine uY (vs:=[_,_]) I I I I call15 e2z (λw hs=>zJ5 hs ax.up aw dC dC (by first|omega|exactλe=>yDJ e)) ?_;intro ck h3 dq bu aa;obtain⟨cu,cb,bp,rfl,aa,rfl,cc,H⟩:=aa
 change RL (tFc (10000*2+10000*2+20000) (10000*2+10000*2+20000)) h3 bp (blF (pI U D C) (pI (U+1+O) (D+1+M) (C+1+J))) at H
 replace aa:=Rp.Is.le aa (Le.p (Le.s (Le.t (Le.q (l:=48) oM))) (Le.refl _));replace H:=(Le.p (Le.p (Le.t (Le.q (l:=60000) oM)) (Le.q (l:=60000) oM)) (Le.refl _)).rl H;refine go3 ?_;refine nA (ρ:=(rpP (tLs 1) (rpP rpV (rpS (rpP rpI (rpP rpI (rpQ 1))))))) (X:=([],((Value.slice none 0 0),[]))) qQ (yA wC (yA fD wC)) λb6 dn bq=>?_;have ay:=(Le.p (Le.s (Le.t (Le.q (l:=48) dC))) (Le.p (Le.refl _) (Le.s (Le.p (Le.refl _) (Le.p (Le.refl _) (Le.q (l:=6) dC)))))).R bq;refine zP (A:=[]) (uB sizeOf39 pH ay aa) λab Z=>(go5 ?_);refine zQ (A:=[_]) (ρ:=(tFc 60000 60000)) H ?_;intro h4 bj az;replace Z:=Z.mono bj;have bb:(tSd 48 60000 60000 6).R h4 ab (blP (pI U D C) (pI (U+1+O) (D+1+M) (C+1+J)),(blF (pI U D C) (pI (U+1+O) (D+1+M) (C+1+J)),[])):=zFZ Z az;have ba:(tSd 48 60000 60000 6).R h4 ab (bkS (pI U D C) (pI (U+1+O) (D+1+M) (C+1+J))):=Rp.castR bb zo5;have av:(tSd 2 2 2 1).R h4 ab (bkS (pI U D C) (pI (U+1+O) (D+1+M) (C+1+J))):=zBK ba (zBC (zY1 ⟨bc,bd⟩ ⟨aj,ap⟩ ⟨ai,ao⟩ ⟨ah,an⟩ ⟨ae,am⟩ ⟨ad,ak⟩)).2;refine lX (xB jP pH av) λcj bs=>?_;have aq:=(Le.p (Le.s (Le.t (Le.q (l:=2) dC))) (Le.p (Le.s (Le.p (Le.p (Le.t (Le.q (l:=2) dC)) (Le.q (l:=2) dC)) (Le.refl _))) (Le.refl _))).R br;refine zP (A:=[_]) (uB sizeOf39 pH aq bs) λbz au=>(go3 ?_);refine wG (jG (t:=2) jP mh1 I au) ?_;intro ca ac ar;refine gO (λE S=>zS I ac E S) ?_;exact⟨_,(.cons _ (.cons _ (zmi _))),(((((((((bx.trans bo).trans bn).trans bw).trans bm).trans bl).trans bk).trans bv).trans bu).trans bj),_,_,I,zot,(zY1 ⟨bc,bd⟩ ⟨aj,ap⟩ ⟨ai,ao⟩ ⟨ah,an⟩ ⟨ae,am⟩ ⟨ad,ak⟩),ar⟩
section
variable{w0:World}{h0:Mem}(hs:MLe h0 (mem w0))
include hs
theorem zGZ{k l:Nat}{va:Value}{a:Tq}(ra:(tPt k).Is h0 va a){vb:Value}{b:Tq}(rb:(tPt l).Is h0 vb b)(H0:k+l<=1000000000):y8i 14 #[va,vb] w0 h0 (λh r=>(tPt (k+l+1)).Is h r (T3.mk (a.x+b.x) (a.y+b.y) (a.z+b.z))):=by
 obtain⟨O,M,J⟩:=zNH ra;obtain⟨H,D,C⟩:=zNH rb;exact(yAH hs ra rb H0).mono (gA λh r x=>zF8 x (by have:=lH a.x b.x;show lq (a.x+b.x)<=_;omega) (by have:=lH a.y b.y;show lq (a.y+b.y)<=_;omega) (by have:=lH a.z b.z;show lq (a.z+b.z)<=_;omega))
theorem mV{k l:Nat}{va:Value}{a:Tq}(ra:(tPt k).Is h0 va a){vb:Value}{b:Tq}(rb:(tPt l).Is h0 vb b)(H0:k+l<=1000000000):y8i 22 #[va,vb] w0 h0 (λh r=>(tPt (k+l+1)).Is h r (T3.mk (a.x-b.x) (a.y-b.y) (a.z-b.z))):=by
 obtain⟨O,M,J⟩:=zNH ra;obtain⟨H,D,C⟩:=zNH rb;exact(zOL hs ra rb H0).mono (gA λh r x=>zF8 x (by have:=zHN a.x b.x;show lq (a.x-b.x)<=_;omega) (by have:=zHN a.y b.y;show lq (a.y-b.y)<=_;omega) (by have:=zHN a.z b.z;show lq (a.z-b.z)<=_;omega))
theorem pJ{l k:Nat}{vq:Value}{q:Rat}(rq:(rpQ l).Is h0 vq q){va:Value}{a:Tq}(ra:(tPt k).Is h0 va a)(H0:k+l<=1000000000):y8i 20 #[vq,va] w0 h0 (λh r=>(tPt (k+l)).Is h r (T3.mk (q*a.x) (q*a.y) (q*a.z))):=by
 obtain⟨J,H,D⟩:=zNH ra;have C:=(of_q rq).2;exact(zG4 hs rq ra H0).mono (gA λh r x=>zF8 x (by have:=zAS q a.x;show lq (q*a.x)<=_;omega) (by have:=zAS q a.y;show lq (q*a.y)<=_;omega) (by have:=zAS q a.z;show lq (q*a.z)<=_;omega))
theorem zRW{k l:Nat}{va:Value}{a:Tq}(ra:(tPt k).Is h0 va a){vb:Value}{b:Tq}(rb:(tPt l).Is h0 vb b)(H0:k+l<=10000000000):
 Calls prog 154 #[va,vb,vF 160 []] w0 (Ret w0 h0 (λh r=>(tPt (k+l+1+1)).Is h r (T3.mk (a.x+b.x) (a.y+b.y) (a.z+b.z)))):=by
 refine cb3 24 va vb (vF 160 []) func154 hs ?_;refine go2 ?_;refine nB ra λb3 bm aa=>(nB rb λb4 bl Z=>(nA (ρ:=(tPt (k+l+1+1))) (X:=zT) yK (yR (yE oM)) λb6 bk ba=>(go4 ?_)));refine nA (ρ:=(tPt (k+l+1+1))) (X:=zT) yK (yR (yE oM)) λb7 bj az=>(go9 ?_);refine fX (go2 ?_);refine gv (OpV.tr dC (yS (q:=3) I I)) I (sH ?_);refine zJ 10 _ [] (zai 0 8 [(8,.c),(9,.q),(10,.t)]) zX nX zou nX (λr hr=>hr) (go4 ?_);refine wX I (xB yC (y6e pH) aa) λay aj=>(go2 ?_);refine wX I (xB yC (y6e pH) Z) λav ae=>?_;refine w_c I (aK (cT (vs:=[_,_]) call160 I e2z) I (λw hs=>aS hs aj ae oM) ?_);intro O h1 bi H
 change (rpQ (k+l+1)).Is h1 O (a.x+b.x) at H
 refine go1 ?_;refine yG (A:=[]) I (uB sizeOf29 (y6e pH) az (H.le (Le.q (l:=k+l+1+1) oM))) λbe ap=>(go4 ?_);refine gv ((yD (q:=1) I I oM oM).cv (show _=vI (1) from I)) I (go2 ?_);refine wK (go2 ?_);refine gv (OpV.tr dC (yS (q:=3) I I)) I (sH ?_);refine zJ 10 _ [] (zai 0 8 [(8,.c),(9,.q),(10,.t)]) zX nX zou nX (λr hr=>hr) (go4 ?_);refine wX I (xB yC (y7i pH) aa) λax ai=>(go2 ?_);refine wX I (xB yC (y7i pH) Z) λau ad=>?_;refine w_c I (aK (cT (vs:=[_,_]) call160 I e2z) I (λw hs=>aS hs ai ad oM) ?_);intro M h2 bh D
 change (rpQ (k+l+1)).Is h2 M (a.y+b.y) at D
 refine go1 ?_;refine yG (A:=[]) I (uB sizeOf29 (y7i pH) ap (D.le (Le.q (l:=k+l+1+1) oM))) λbd ao=>(go4 ?_);refine gv ((yD (q:=1) I I oM oM).cv (show _=vI (2) from I)) I (go2 ?_);refine wK (go2 ?_);refine gv (OpV.tr dC (yS (q:=3) I I)) I (sH ?_);refine zJ 10 _ [] (zai 0 8 [(8,.c),(9,.q),(10,.t)]) zX nX zou nX (λr hr=>hr) (go4 ?_);refine wX I (xB yC (y7u pH) aa) λaw ah=>(go2 ?_);refine wX I (xB yC (y7u pH) Z) λar ac=>?_;refine w_c I (aK (cT (vs:=[_,_]) call160 I e2z) I (λw hs=>aS hs ah ac oM) ?_);intro J h3 bg C
 change (rpQ (k+l+1)).Is h3 J (a.z+b.z) at C
 refine go1 ?_;refine yG (A:=[]) I (uB sizeOf29 (y7u pH) ao (C.le (Le.q (l:=k+l+1+1) oM))) λbc an=>(go4 ?_);refine gv ((yD (q:=1) I I oM oM).cv (show _=vI (3) from I)) I (go2 ?_);refine wK (go2 ?_);refine gv (OpV.fa dC (yS (q:=3) I I)) I (qE ?_);refine lX (xB zK pH an) λaq ab=>(zP (A:=[_]) (uB sizeOf31 pH ba ab) λbb am=>(go3 ?_));refine wG (jG (t:=6) zK mh1 I am) ?_;intro bf ak U;refine yN (λE S=>zS I ak E S) ?_;exact U
theorem zRU{k l:Nat}{va:Value}{a:Tq}(ra:(tPt k).Is h0 va a){vb:Value}{b:Tq}(rb:(tPt l).Is h0 vb b)(H0:k+l<=10000000000):
 Calls prog 154 #[va,vb,vF 121 []] w0 (Ret w0 h0 (λh r=>(tPt (k+l+1+1)).Is h r (T3.mk (a.x-b.x) (a.y-b.y) (a.z-b.z)))):=by
 refine cb3 24 va vb (vF 121 []) func154 hs ?_;refine go2 ?_;refine nB ra λb3 bm ah=>(nB rb λb4 bl ae=>(nA (ρ:=(tPt (k+l+1+1))) (X:=zT) yK (yR (yE oM)) λb6 bk ba=>(go4 ?_)));refine nA (ρ:=(tPt (k+l+1+1))) (X:=zT) yK (yR (yE oM)) λb7 bj az=>(go9 ?_);refine fX (go2 ?_);refine gv (OpV.tr dC (yS (q:=3) I I)) I (sH ?_);refine zJ 10 _ [] (zai 0 8 [(8,.c),(9,.q),(10,.t)]) zX nX zou nX (λr hr=>hr) (go4 ?_);refine wX I (xB yC (y6e pH) ah) λay ap=>(go2 ?_);refine wX I (xB yC (y6e pH) ae) λav am=>?_;refine w_c I (aK (cT (vs:=[_,_]) call121 I e2z) I (λw hs=>fV hs ap am oM) ?_);intro U h1 bi H
 change (rpQ (k+l+1)).Is h1 U (a.x-b.x) at H
 refine go1 ?_;refine yG (A:=[]) I (uB sizeOf29 (y6e pH) az (H.le (Le.q (l:=k+l+1+1) oM))) λbe ad=>(go4 ?_);refine gv ((yD (q:=1) I I oM oM).cv (show _=vI (1) from I)) I (go2 ?_);refine wK (go2 ?_);refine gv (OpV.tr dC (yS (q:=3) I I)) I (sH ?_);refine zJ 10 _ [] (zai 0 8 [(8,.c),(9,.q),(10,.t)]) zX nX zou nX (λr hr=>hr) (go4 ?_);refine wX I (xB yC (y7i pH) ah) λax ao=>(go2 ?_);refine wX I (xB yC (y7i pH) ae) λau ak=>?_;refine w_c I (aK (cT (vs:=[_,_]) call121 I e2z) I (λw hs=>fV hs ao ak oM) ?_);intro O h2 bh D
 change (rpQ (k+l+1)).Is h2 O (a.y-b.y) at D
 refine go1 ?_;refine yG (A:=[]) I (uB sizeOf29 (y7i pH) ad (D.le (Le.q (l:=k+l+1+1) oM))) λbd ac=>(go4 ?_);refine gv ((yD (q:=1) I I oM oM).cv (show _=vI (2) from I)) I (go2 ?_);refine wK (go2 ?_);refine gv (OpV.tr dC (yS (q:=3) I I)) I (sH ?_);refine zJ 10 _ [] (zai 0 8 [(8,.c),(9,.q),(10,.t)]) zX nX zou nX (λr hr=>hr) (go4 ?_);refine wX I (xB yC (y7u pH) ah) λaw an=>(go2 ?_);refine wX I (xB yC (y7u pH) ae) λar aj=>?_;refine w_c I (aK (cT (vs:=[_,_]) call121 I e2z) I (λw hs=>fV hs an aj oM) ?_);intro M h3 bg C
 change (rpQ (k+l+1)).Is h3 M (a.z-b.z) at C
 refine go1 ?_;refine yG (A:=[]) I (uB sizeOf29 (y7u pH) ac (C.le (Le.q (l:=k+l+1+1) oM))) λbc ab=>(go4 ?_);refine gv ((yD (q:=1) I I oM oM).cv (show _=vI (3) from I)) I (go2 ?_);refine wK (go2 ?_);refine gv (OpV.fa dC (yS (q:=3) I I)) I (qE ?_);refine lX (xB zK pH ab) λaq ai=>(zP (A:=[_]) (uB sizeOf31 pH ba ai) λbb aa=>(go3 ?_));refine wG (jG (t:=6) zK mh1 I aa) ?_;intro bf J Z;refine yN (λE S=>zS I J E S) ?_;exact Z
theorem zRV{k l:Nat}{va:Value}{a:Tq}(ra:(tPt k).Is h0 va a){vb:Value}{b:Tq}(rb:(tPt l).Is h0 vb b)(H0:k+l<=10000000000):
 Calls prog 154 #[va,vb,vF 153 []] w0 (Ret w0 h0 (λh r=>(tPt (k+l+1)).Is h r (T3.mk (a.x*b.x) (a.y*b.y) (a.z*b.z)))):=by
 refine cb3 24 va vb (vF 153 []) func154 hs ?_;refine go2 ?_;refine nB ra λb3 bm an=>(nB rb λb4 bl am=>(nA (ρ:=(tPt (k+l+1))) (X:=zT) yK (yR (yE oM)) λb6 bk ba=>(go4 ?_)));refine nA (ρ:=(tPt (k+l+1))) (X:=zT) yK (yR (yE oM)) λb7 bj az=>(go9 ?_);refine fX (go2 ?_);refine gv (OpV.tr dC (yS (q:=3) I I)) I (sH ?_);refine zJ 10 _ [] (zai 0 8 [(8,.c),(9,.q),(10,.t)]) zX nX zou nX (λr hr=>hr) (go4 ?_);refine wX I (xB yC (y6e pH) an) λay ap=>(go2 ?_);refine wX I (xB yC (y6e pH) am) λax ao=>?_;refine w_c I (aK (cT (vs:=[_,_]) call153 I e2z) I (λw hs=>kO hs ap ao oM) ?_);intro ad h1 bi H
 change (rpQ (k+l)).Is h1 ad (a.x*b.x) at H
 refine go1 ?_;refine yG (A:=[]) I (uB sizeOf29 (y6e pH) az (H.le (Le.q (l:=k+l+1) oM))) λbe ak=>(go4 ?_);refine gv ((yD (q:=1) I I oM oM).cv (show _=vI (1) from I)) I (go2 ?_);refine wK (go2 ?_);refine gv (OpV.tr dC (yS (q:=3) I I)) I (sH ?_);refine zJ 10 _ [] (zai 0 8 [(8,.c),(9,.q),(10,.t)]) zX nX zou nX (λr hr=>hr) (go4 ?_);refine wX I (xB yC (y7i pH) an) λaw ab=>(go2 ?_);refine wX I (xB yC (y7i pH) am) λau Z=>?_;refine w_c I (aK (cT (vs:=[_,_]) call153 I e2z) I (λw hs=>kO hs ab Z oM) ?_);intro M h2 bh D
 change (rpQ (k+l)).Is h2 M (a.y*b.y) at D
 refine go1 ?_;refine yG (A:=[]) I (uB sizeOf29 (y7i pH) ak (D.le (Le.q (l:=k+l+1) oM))) λbd aj=>(go4 ?_);refine gv ((yD (q:=1) I I oM oM).cv (show _=vI (2) from I)) I (go2 ?_);refine wK (go2 ?_);refine gv (OpV.tr dC (yS (q:=3) I I)) I (sH ?_);refine zJ 10 _ [] (zai 0 8 [(8,.c),(9,.q),(10,.t)]) zX nX zou nX (λr hr=>hr) (go4 ?_);refine wX I (xB yC (y7u pH) an) λav aa=>(go2 ?_);refine wX I (xB yC (y7u pH) am) λar U=>?_;refine w_c I (aK (cT (vs:=[_,_]) call153 I e2z) I (λw hs=>kO hs aa U oM) ?_);intro J h3 bg C
 change (rpQ (k+l)).Is h3 J (a.z*b.z) at C
 refine go1 ?_;refine yG (A:=[]) I (uB sizeOf29 (y7u pH) aj (C.le (Le.q (l:=k+l+1) oM))) λbc ai=>(go4 ?_);refine gv ((yD (q:=1) I I oM oM).cv (show _=vI (3) from I)) I (go2 ?_);refine wK (go2 ?_);refine gv (OpV.fa dC (yS (q:=3) I I)) I (qE ?_);refine lX (xB zK pH ai) λaq O=>(zP (A:=[_]) (uB sizeOf31 pH ba O) λbb ah=>(go3 ?_));refine wG (jG (t:=6) zK mh1 I ah) ?_;intro bf ac ae;refine yN (λE S=>zS I ac E S) ?_;exact ae
theorem yFI{k l:Nat}{va:Value}{a:Tq}(ra:(tPt k).Is h0 va a){vb:Value}{b:Tq}(rb:(tPt l).Is h0 vb b)(H0:k+l<=10000000000):
 y8i 124 #[va,vb] w0 h0 (λh r=>(tPt (k+l+2)).Is h r (T3.mk (a.x+b.x) (a.y+b.y) (a.z+b.z))):=by
 refine cb2 8 va vb func124 hs ?_;refine go2 ?_;refine nB ra λb2 ae O=>(nB rb λb3 ad M=>(nA (ρ:=(tPt (k+l+2))) (X:=zT) yK (yR (yE oM)) λb4 ac J=>(go4 ?_)));refine lX (xB zK pH O) λv5 r5=>(lX (xB zK pH M) λv6 r6=>(cL (ev3 I I I) call154 (λw hs=>zRW hs r5 r6 oM) λv7 h1 ab U=>?_));replace U:=Rp.Is.le U (Le.t (Le.q (l:=k+l+2) oM));refine zP (A:=[]) (uB sizeOf31 pH J U) λZ H=>(go3 ?_);refine wG (jG (t:=4) zK mh0 I H) ?_;intro aa C D;refine yN (λE S=>zS I C E S) ?_;exact D
theorem zLO{k l:Nat}{va:Value}{a:Tq}(ra:(tPt k).Is h0 va a){vb:Value}{b:Tq}(rb:(tPt l).Is h0 vb b)(H0:k+l<=10000000000):
 y8i 115 #[va,vb] w0 h0 (λh r=>(tPt (k+l+2)).Is h r (T3.mk (a.x-b.x) (a.y-b.y) (a.z-b.z))):=by
 refine cb2 8 va vb func115 hs ?_;refine go2 ?_;refine nB ra λb2 ae O=>(nB rb λb3 ad M=>(nA (ρ:=(tPt (k+l+2))) (X:=zT) yK (yR (yE oM)) λb4 ac J=>(go4 ?_)));refine lX (xB zK pH O) λv5 r5=>(lX (xB zK pH M) λv6 r6=>(cL (ev3 I I I) call154 (λw hs=>zRU hs r5 r6 oM) λv7 h1 ab U=>?_));replace U:=Rp.Is.le U (Le.t (Le.q (l:=k+l+2) oM));refine zP (A:=[]) (uB sizeOf31 pH J U) λZ H=>(go3 ?_);refine wG (jG (t:=4) zK mh0 I H) ?_;intro aa C D;refine yN (λE S=>zS I C E S) ?_;exact D
theorem zWD{l k:Nat}{vq:Value}{q:Rat}(rq:(rpQ l).Is h0 vq q){va:Value}{a:Tq}(ra:(tPt k).Is h0 va a)(H0:k+l<=1000000000):
 y8i 125 #[vq,va] w0 h0 (λh r=>(tPt (k+l+2)).Is h r (T3.mk (q*a.x) (q*a.y) (q*a.z))):=by
 refine cb2 11 vq va func125 hs ?_;refine go2 ?_;refine nB rq λb2 ah J=>(nB ra λb3 ae U=>(nA (ρ:=(tPt (k+l+2))) (X:=zT) yK (yR (yE oM)) λb4 ad O=>(go4 ?_)));refine lX (xB yC pH J) λv5 r5=>(lX (xB yC pH J) λv6 r6=>(lX (xB yC pH J) λv7 r7=>(lX (xV (ρ:=(tPt (l+1))) (xS (ps':=[(0,_),(1,_),(2,_)]) underlying31 yK I I sizeOf29 e6 I (yR (yE oM)) (zD I (y6e (y5u _)) (r5.le (Le.q (l:=l+1) oM)) (zD I (y7i (y5u _)) (r6.le (Le.q (l:=l+1) oM)) (zD I (y7u (y5u _)) (r7.le (Le.q (l:=l+1) oM)) zN))))) λv8 r8=>(lX (xB zK pH U) λv9 r9=>(cL (ev3 I I I) call154 (λw hs=>zRV hs r8 r9 oM) λab h1 ac M=>?_)))));replace M:=Rp.Is.le M (Le.t (Le.q (l:=k+l+2) oM));refine zP (A:=[]) (uB sizeOf31 pH O M) λZ H=>(go3 ?_);refine wG (jG (t:=4) zK mh0 I H) ?_;intro aa C D;refine yN (λE S=>zS I C E S) ?_;exact D
theorem zFE{k l:Nat}{va:Value}{a:Tq}(ra:(tPt k).Is h0 va a){vb:Value}{b:Tq}(rb:(tPt l).Is h0 vb b)(H0:k+l<=1000000000):
 y8i 120 #[va,vb] w0 h0 (λh r=>(rpQ (3*k+3*l+9)).Is h r (zF a b)):=by
 refine cb2 21 va vb func120 hs ?_;refine go2 ?_;refine nB ra λb2 cf bd=>(nB rb λb3 ce bc=>(nA (ρ:=(rpQ (3*k+3*l+9))) (X:=(0:Rat)) xU (yE oM) λb4 cd bp=>(go4 ?_)));refine nA (ρ:=(rpQ 1)) (X:=(0:Rat)) xU (yE dC) λb5 cc be=>(go9 ?_);refine fX (go2 ?_);refine gv (OpV.tr dC (yS (q:=3) I I)) I (sH ?_);refine zJ 9 _ [] (zai 0 7 [(7,.c),(8,.c),(9,.t)]) zX nX zou nX (λr hr=>hr) (wX I (xB yC pH be) λbo au=>(go2 ?_));refine wX I (xB yC (y6e pH) bd) λbl ap=>(go2 ?_);refine wX I (xB yC (y6e pH) bc) λbi am=>?_;refine w_c I (sC (ev2 I I) call153 (λw hs=>kO hs ap am oM) λah h1 cb O=>?_)
 change (rpQ (k+l)).Is h1 ah (a.x*b.x) at O
 refine w_c I (sC (ev2 I I) call160 (λw hs=>aS hs au.up O oM) λac h2 ca H=>?_)
 change (rpQ (1+(k+l)+1)).Is h2 ac ((0:Rat)+(a.x*b.x)) at H
 replace H:=Rp.Is.le H (Le.q (l:=k+l+2) oM);have ay:=(Le.q (l:=k+l+2) oM).R be;refine yG (A:=[]) I (uB sizeOf29 pH ay H) λbt Z=>(go4 ?_);refine gv ((yD (q:=1) I I oM oM).cv (show _=vI (1) from I)) I (go2 ?_);refine wK (go2 ?_);refine gv (OpV.tr dC (yS (q:=3) I I)) I (sH ?_);refine zJ 9 _ [] (zai 0 7 [(7,.c),(8,.c),(9,.t)]) zX nX zou nX (λr hr=>hr) (wX I (xB yC pH Z) λbn ar=>(go2 ?_));refine wX I (xB yC (y7i pH) bd) λbk ao=>(go2 ?_);refine wX I (xB yC (y7i pH) bc) λbh ak=>?_;refine w_c I (sC (ev2 I I) call153 (λw hs=>kO hs ao ak oM) λae h3 bz M=>?_)
 change (rpQ (k+l)).Is h3 ae (a.y*b.y) at M
 refine w_c I (sC (ev2 I I) call160 (λw hs=>aS hs ar.up M oM) λab h4 bx D=>?_)
 change (rpQ ((k+l+2)+(k+l)+1)).Is h4 ab (((0:Rat)+(a.x*b.x))+(a.y*b.y)) at D
 replace D:=Rp.Is.le D (Le.q (l:=2*k+2*l+3) oM);have ax:=(Le.q (l:=2*k+2*l+3) oM).R Z;refine yG (A:=[]) I (uB sizeOf29 pH ax D) λbs U=>(go4 ?_);refine gv ((yD (q:=1) I I oM oM).cv (show _=vI (2) from I)) I (go2 ?_);refine wK (go2 ?_);refine gv (OpV.tr dC (yS (q:=3) I I)) I (sH ?_);refine zJ 9 _ [] (zai 0 7 [(7,.c),(8,.c),(9,.t)]) zX nX zou nX (λr hr=>hr) (wX I (xB yC pH U) λbm aq=>(go2 ?_));refine wX I (xB yC (y7u pH) bd) λbj an=>(go2 ?_);refine wX I (xB yC (y7u pH) bc) λbg aj=>?_;refine w_c I (sC (ev2 I I) call153 (λw hs=>kO hs an aj oM) λad h5 bw J=>?_)
 change (rpQ (k+l)).Is h5 ad (a.z*b.z) at J
 refine w_c I (sC (ev2 I I) call160 (λw hs=>aS hs aq.up J oM) λaa h6 bv C=>?_)
 change (rpQ ((2*k+2*l+3)+(k+l)+1)).Is h6 aa ((((0:Rat)+(a.x*b.x))+(a.y*b.y))+(a.z*b.z)) at C
 replace C:=Rp.Is.le C (Le.q (l:=3*k+3*l+4) oM);have aw:=(Le.q (l:=3*k+3*l+4) oM).R U;refine yG (A:=[]) I (uB sizeOf29 pH aw C) λbr bb=>(go4 ?_);refine gv ((yD (q:=1) I I oM oM).cv (show _=vI (3) from I)) I (go2 ?_);refine wK (go2 ?_);refine gv (OpV.fa dC (yS (q:=3) I I)) I (qE ?_);refine lX (xB yC pH bb) λbf ai=>(zP (A:=[_]) (uB sizeOf29 pH bp (ai.le (Le.q (l:=3*k+3*l+9) oM))) λbq ba=>(go3 ?_));refine wG (jG (t:=4) yC mh1 I ba) ?_;intro bu av az;refine yN (λE S=>zS I av E S) ?_;exact(Rp.Is.cast az (by unfold zF;grind))
theorem zJU{k l:Nat}{va:Value}{a:Tq}(ra:(tPt k).Is h0 va a){vb:Value}{b:Tq}(rb:(tPt l).Is h0 vb b)(H0:k+l<=1000000000):
 y8i 114 #[va,vb] w0 h0 (λh r=>(tPt (2*k+2*l+3)).Is h r (zO a b)):=by
 refine cb2 37 va vb func114 hs ?_;refine go2 ?_;refine nB ra λb2 ct ac=>(nB rb λb3 cq ab=>(nA (ρ:=(tPt (2*k+2*l+3))) (X:=zT) yK (yR (yE oM)) λb4 cp bz=>(go4 ?_)));refine nA (ρ:=(tPt (2*k+2*l+3))) (X:=zT) yK (yR (yE oM)) λb5 co bx=>(go9 ?_);refine fX (go2 ?_);refine gv (OpV.tr dC (yS (q:=3) I I)) I (nY ?_);refine gv ((yD (q:=1) I I oM oM).cv (show _=vI (1) from I)) I (gv ((wI (q:=3) I I oM oM).cv (show _=vI (1) from I)) I (go1 ?_));refine gv ((yD (q:=2) I I oM oM).cv (show _=vI (2) from I)) I (gv ((wI (q:=3) I I oM oM).cv (show _=vI (2) from I)) I (go4 ?_));refine zJ 17 _ [] (zai 0 7 (zai 8 6 [(7,.c),(14,.c),(15,.c),(16,.q),(17,.t)])) zX nX (wL zou) nX (λr hr=>hr) (go3 ?_);refine wX I (xB yC (y7i pH) ac) λbw bd=>(go2 ?_);refine wX I (xB yC (y7u pH) ab) λbt ba=>(go2 ?_);refine wX I (xB yC (y7u pH) ac) λbq ax=>(go2 ?_);refine wX I (xB yC (y7i pH) ab) λbn au=>?_;refine w_c I (sC (ev2 I I) call153 (λw hs=>kO hs bd ba oM) λao h1 cn aa=>?_)
 change (rpQ (k+l)).Is h1 ao (a.y*b.z) at aa
 refine w_c I (sC (ev2 I I) call153 (λw hs=>kO hs ax.up au.up oM) λak h2 cm O=>?_)
 change (rpQ (k+l)).Is h2 ak (a.z*b.y) at O
 refine w_c I (sC (ev2 I I) call121 (λw hs=>fV hs aa.up O oM) λah h3 cl H=>?_)
 change (rpQ ((k+l)+(k+l)+1)).Is h3 ah ((a.y*b.z)-(a.z*b.y)) at H
 replace H:=Rp.Is.le H (Le.q (l:=2*k+2*l+1) oM);refine go1 ?_;refine yG (A:=[]) I (uB sizeOf29 (y6e pH) bx (H.le (Le.q (l:=2*k+2*l+3) oM))) λcd bj=>(go4 ?_);refine gv ((yD (q:=1) I I oM oM).cv (show _=vI (1) from I)) I (go2 ?_);refine wK (go2 ?_);refine gv (OpV.tr dC (yS (q:=3) I I)) I (nY ?_);refine gv ((yD (q:=1) I I oM oM).cv (show _=vI (2) from I)) I (gv ((wI (q:=3) I I oM oM).cv (show _=vI (2) from I)) I (go1 ?_));refine gv ((yD (q:=2) I I oM oM).cv (show _=vI (3) from I)) I (gv ((wI (q:=3) I I oM oM).cv (show _=vI (0) from I)) I (go4 ?_));refine zJ 17 _ [] (zai 0 7 (zai 8 6 [(7,.c),(14,.c),(15,.c),(16,.q),(17,.t)])) zX nX (wL zou) nX (λr hr=>hr) (go3 ?_);refine wX I (xB yC (y7u pH) ac) λbv bc=>(go2 ?_);refine wX I (xB yC (y6e pH) ab) λbs az=>(go2 ?_);refine wX I (xB yC (y6e pH) ac) λbp aw=>(go2 ?_);refine wX I (xB yC (y7u pH) ab) λbm ar=>?_;refine w_c I (sC (ev2 I I) call153 (λw hs=>kO hs bc az oM) λan h4 ck Z=>?_)
 change (rpQ (k+l)).Is h4 an (a.z*b.x) at Z
 refine w_c I (sC (ev2 I I) call153 (λw hs=>kO hs aw.up ar.up oM) λaj h5 cj M=>?_)
 change (rpQ (k+l)).Is h5 aj (a.x*b.z) at M
 refine w_c I (sC (ev2 I I) call121 (λw hs=>fV hs Z.up M oM) λae h6 ci D=>?_)
 change (rpQ ((k+l)+(k+l)+1)).Is h6 ae ((a.z*b.x)-(a.x*b.z)) at D
 replace D:=Rp.Is.le D (Le.q (l:=2*k+2*l+1) oM);refine go1 ?_;refine yG (A:=[]) I (uB sizeOf29 (y7i pH) bj (D.le (Le.q (l:=2*k+2*l+3) oM))) λcc bi=>(go4 ?_);refine gv ((yD (q:=1) I I oM oM).cv (show _=vI (2) from I)) I (go2 ?_);refine wK (go2 ?_);refine gv (OpV.tr dC (yS (q:=3) I I)) I (nY ?_);refine gv ((yD (q:=1) I I oM oM).cv (show _=vI (3) from I)) I (gv ((wI (q:=3) I I oM oM).cv (show _=vI (0) from I)) I (go1 ?_));refine gv ((yD (q:=2) I I oM oM).cv (show _=vI (4) from I)) I (gv ((wI (q:=3) I I oM oM).cv (show _=vI (1) from I)) I (go4 ?_));refine zJ 17 _ [] (zai 0 7 (zai 8 6 [(7,.c),(14,.c),(15,.c),(16,.q),(17,.t)])) zX nX (wL zou) nX (λr hr=>hr) (go3 ?_);refine wX I (xB yC (y6e pH) ac) λbu bb=>(go2 ?_);refine wX I (xB yC (y7i pH) ab) λbr ay=>(go2 ?_);refine wX I (xB yC (y7i pH) ac) λbo av=>(go2 ?_);refine wX I (xB yC (y6e pH) ab) λbl aq=>?_;refine w_c I (sC (ev2 I I) call153 (λw hs=>kO hs bb ay oM) λam h7 ch U=>?_)
 change (rpQ (k+l)).Is h7 am (a.x*b.y) at U
 refine w_c I (sC (ev2 I I) call153 (λw hs=>kO hs av.up aq.up oM) λai h8 cg J=>?_)
 change (rpQ (k+l)).Is h8 ai (a.y*b.x) at J
 refine w_c I (sC (ev2 I I) call121 (λw hs=>fV hs U.up J oM) λad h9 cf C=>?_)
 change (rpQ ((k+l)+(k+l)+1)).Is h9 ad ((a.x*b.y)-(a.y*b.x)) at C
 replace C:=Rp.Is.le C (Le.q (l:=2*k+2*l+1) oM);refine go1 ?_;refine yG (A:=[]) I (uB sizeOf29 (y7u pH) bi (C.le (Le.q (l:=2*k+2*l+3) oM))) λcb bh=>(go4 ?_);refine gv ((yD (q:=1) I I oM oM).cv (show _=vI (3) from I)) I (go2 ?_);refine wK (go2 ?_);refine gv (OpV.fa dC (yS (q:=3) I I)) I (qE ?_);refine lX (xB zK pH bh) λbk ap=>(zP (A:=[_]) (uB sizeOf31 pH bz ap) λca bg=>(go3 ?_));refine wG (jG (t:=4) zK mh1 I bg) ?_;intro ce be bf;refine yN (λE S=>zS I be E S) ?_;exact bf
theorem zOB{k l:Nat}{va:Value}{a:Tq}(ra:(tPt k).Is h0 va a){vb:Value}{b:Tq}(rb:(tPt l).Is h0 vb b)(H0:k+l<=10000000000):
 y8i 119 #[va,vb] w0 h0 (λ_ r=>r=vB (a=b)):=by
 refine cb2 18 va vb func119 hs ?_;refine go2 ?_;refine nB ra λb2 aw ai=>(nB rb λb3 av ah=>(uR ?_));refine fX (go2 ?_);refine gv (OpV.tr dC (yS (q:=3) I I)) I (cD ?_);refine zJ 8 _ [] (zai 0 6 [(6,.c),(7,.q)]) zX nX zou nX (λr hr=>hr) (go2 ?_);refine wX I (xB yC (y6e pH) ai) λap ae=>(go2 ?_);refine wX I (xB yC (y6e pH) ah) λam ab=>?_;refine w_c I (sC (ev2 I I) call159 (λw hs=>zAL hs ae ab oM) λJ h1 au U=>?_);obtain rfl:J=vB (a.x=b.x):=U;refine gc3 (λC=>?_) λC=>?_
 ·
  refine qE ?_;refine zC I I ?_
  first|exact(xW (by rw[qZ];grind)).symm|exact(yM (by rw[qZ];grind)).symm
 refine go4 ?_;refine gv ((yD (q:=1) I I oM oM).cv (show _=vI (1) from I)) I (go2 ?_);refine wK (go2 ?_);refine gv (OpV.tr dC (yS (q:=3) I I)) I (cD ?_);refine zJ 8 _ [] (zai 0 6 [(6,.c),(7,.q)]) zX nX zou nX (λr hr=>hr) (go2 ?_);refine wX I (xB yC (y7i pH) ai) λao ad=>(go2 ?_);refine wX I (xB yC (y7i pH) ah) λak aa=>?_;refine w_c I (sC (ev2 I I) call159 (λw hs=>zAL hs ad aa oM) λH h2 ar O=>?_);obtain rfl:H=vB (a.y=b.y):=O;refine gc3 (λC=>?_) λC=>?_
 ·
  refine qE ?_;refine zC I I ?_
  first|exact(xW (by rw[qZ];grind)).symm|exact(yM (by rw[qZ];grind)).symm
 refine go4 ?_;refine gv ((yD (q:=1) I I oM oM).cv (show _=vI (2) from I)) I (go2 ?_);refine wK (go2 ?_);refine gv (OpV.tr dC (yS (q:=3) I I)) I (cD ?_);refine zJ 8 _ [] (zai 0 6 [(6,.c),(7,.q)]) zX nX zou nX (λr hr=>hr) (go2 ?_);refine wX I (xB yC (y7u pH) ai) λan ac=>(go2 ?_);refine wX I (xB yC (y7u pH) ah) λaj Z=>?_;refine w_c I (sC (ev2 I I) call159 (λw hs=>zAL hs ac Z oM) λD h3 aq M=>?_);obtain rfl:D=vB (a.z=b.z):=M;refine gc3 (λC=>?_) λC=>?_
 ·
  refine qE ?_;refine zC I I ?_
  first|exact(xW (by rw[qZ];grind)).symm|exact(yM (by rw[qZ];grind)).symm
 refine go4 ?_;refine gv ((yD (q:=1) I I oM oM).cv (show _=vI (3) from I)) I (go2 ?_);refine wK (go2 ?_);refine gv (OpV.fa dC (yS (q:=3) I I)) I (cD ?_);refine zC I I ?_
 first|exact(xW (by rw[qZ];grind)).symm|exact(yM (by rw[qZ];grind)).symm
theorem zOA{k:Nat}{va:Value}{a:Tq}(ra:(tPt k).Is h0 va a)(H0:k<=1000000000):
 y8i 78 #[va] w0 h0 (λ_ r=>r=vB (a=zT)):=by
 refine cb1 6 va func78 hs ?_;refine go2 ?_;refine nB ra λO M C=>(go5 ?_);refine lX (xB zK pH C) λv3 r3=>(lX (xV (ρ:=(tPt 1)) (xS (ps':=[]) underlying31 yK I I sizeOf29 trivial I (yR (yE dC)) zN)) λv4 r4=>(cL (ev2 I I) call119 (λw hs=>zOB hs r3 r4 oM) λD h1 J H=>?_));obtain rfl:D=vB (a=zT):=H;refine go4 ?_;refine zC I I ?_
 rfl
theorem zBV{m l k:Nat}{vs:Value}{s:Pq}(rs:(tPl m l).Is h0 vs s){vp:Value}{p:Tq}(rp:(tPt k).Is h0 vp p)(H0:k<=100000000)(H1:l<=100000000)(H2:m<=100000000):
 y8i 147 #[vs,vp] w0 h0 (λ_ r=>r=vI (sdZ s p)):=by
 refine cb2 12 vs vp func147 hs ?_;refine go2 ?_;refine nB rs λb2 ad C=>(nB rp λb3 ac H=>(go4 ?_));refine zJ 8 _ [] [(0,.q),(1,.q),(2,.q),(4,.q),(5,.q),(3,.c),(6,.c),(7,.q)] zX nX zou nX (λr hr=>hr) (go1 ?_);refine wX I (xB zK (y6i pH) C) λv6 r6=>(wX I (xB zK pH H) λv7 r7=>(go1 ?_));refine wX I (xB yC (y6u pH) C) λZ O=>?_;refine w_c I (sC (ev2 I I) call120 (λw hs=>zFE hs r6 r7 oM) λv8 h1 ab J=>?_);replace J:=Rp.Is.le J (Le.q (l:=3*k+3*m+9) oM);refine w_c I (sC (ev2 I I) call182 (λw hs=>aR hs J O.up oM) λD h2 aa M=>?_);obtain rfl:D=vI (xZ (zF s.1 p) s.2):=M;have U:=jC (zF s.1 p) s.2;refine go4 ?_;refine zC I I ?_;exact zbi vI (zYV s p)
theorem zWO{m l k:Nat}{vs:Value}{s:Pq}(rs:(tPl m l).Is h0 vs s){vp:Value}{p:Tq}(rp:(tPt k).Is h0 vp p)(H0:k<=100000000)(H1:l<=100000000)(H2:m<=100000000):
 y8i 108 #[vs,vp] w0 h0 (λ_ r=>r=vI (sdZ s p)):=by
 refine cb2 61 vs vp func108 hs ?_;refine go2 ?_;refine nB rs λb2 da D=>(nB rp λb3 cz J=>(cD ?_));refine fX (go2 ?_);refine gv (OpV.tr dC (yS (q:=3) I I)) I (yCD ?_);refine lX (xB yC (y6i (y6e pH)) D) λcl bh=>(cL (ev1 I) call146 (λw hs=>tL hs bh) λci h1 cy be=>?_);obtain rfl:=be;refine qE ?_;refine lX (xB yC (y6e pH) J) λcf bb=>(cL (ev1 I) call146 (λw hs=>tL hs bb) λcc h2 cw ay=>?_);obtain rfl:=ay;refine qC ?_;refine gU 4 36 (vB ((¬(smB s.1.x))\/(¬(smB p.x)))) ?_ ?_
 ·
  refine zY (¬(smB s.1.x)) (λH=>?_) (λH=>?_)
  ·
   refine gT H I (go4 ?_);refine gqU ?_;exact y4e (uH H)
  refine gF H I (go6 ?_);refine gqU ?_;exact y4e (uJ H)
 refine gc2 (λC=>?_) λC=>?_
 ·
  refine go2 ?_;refine lX (xB lW pH D) λbz av=>(lX (xB zK pH J) λbv aq=>(cL (ev2 I I) call147 (λw hs=>zBV hs av aq oM oM oM) λab h3 cp an=>?_));obtain rfl:ab=vI (sdZ s p):=an;have bm:=aZ s p;refine uR ?_;refine zC I I ?_
  rfl
 obtain⟨bi,bo⟩:=zK6 C;refine go6 ?_;refine gv (gK I I oM oM) I (go6 ?_);refine gv ((yD (q:=1) I I oM oM).cv (show _=vI (1) from I)) I (go2 ?_);refine wK (go2 ?_);refine gv (OpV.tr dC (yS (q:=3) I I)) I (yCD ?_);refine lX (xB yC (y6i (y7i pH)) D) λck bg=>(cL (ev1 I) call146 (λw hs=>tL hs bg) λch h3 cp bd=>?_);obtain rfl:=bd;refine qE ?_;refine lX (xB yC (y7i pH) J) λce ba=>(cL (ev1 I) call146 (λw hs=>tL hs ba) λcb h4 cu ax=>?_);obtain rfl:=ax;refine qC ?_;refine gU 4 36 (vB ((¬(smB s.1.y))\/(¬(smB p.y)))) ?_ ?_
 ·
  refine zY (¬(smB s.1.y)) (λH=>?_) (λH=>?_)
  ·
   refine gT H I (go4 ?_);refine gqU ?_;exact y4e (uH H)
  refine gF H I (go6 ?_);refine gqU ?_;exact y4e (uJ H)
 refine gc2 (λC=>?_) λC=>?_
 ·
  refine go2 ?_;refine lX (xB lW pH D) λbx au=>(lX (xB zK pH J) λbu ap=>(cL (ev2 I I) call147 (λw hs=>zBV hs au ap oM oM oM) λaa h5 co am=>?_));obtain rfl:aa=vI (sdZ s p):=am;have bl:=aZ s p;refine uR ?_;refine zC I I ?_
  rfl
 obtain⟨bi,bo⟩:=zK6 C;refine go6 ?_;refine gv (gK I I oM oM) I (go6 ?_);refine gv ((yD (q:=1) I I oM oM).cv (show _=vI (2) from I)) I (go2 ?_);refine wK (go2 ?_);refine gv (OpV.tr dC (yS (q:=3) I I)) I (yCD ?_);refine lX (xB yC (y6i (y7u pH)) D) λcj bf=>(cL (ev1 I) call146 (λw hs=>tL hs bf) λcg h5 co bc=>?_);obtain rfl:=bc;refine qE ?_;refine lX (xB yC (y7u pH) J) λcd az=>(cL (ev1 I) call146 (λw hs=>tL hs az) λca h6 ct aw=>?_);obtain rfl:=aw;refine qC ?_;refine gU 4 36 (vB ((¬(smB s.1.z))\/(¬(smB p.z)))) ?_ ?_
 ·
  refine zY (¬(smB s.1.z)) (λH=>?_) (λH=>?_)
  ·
   refine gT H I (go4 ?_);refine gqU ?_;exact y4e (uH H)
  refine gF H I (go6 ?_);refine gqU ?_;exact y4e (uJ H)
 refine gc2 (λC=>?_) λC=>?_
 ·
  refine go2 ?_;refine lX (xB lW pH D) λbw ar=>(lX (xB zK pH J) λbt ao=>(cL (ev2 I I) call147 (λw hs=>zBV hs ar ao oM oM oM) λZ h7 cn ak=>?_));obtain rfl:Z=vI (sdZ s p):=ak;have bk:=aZ s p;refine uR ?_;refine zC I I ?_
  rfl
 obtain⟨bi,bo⟩:=zK6 C;refine go6 ?_;refine gv (gK I I oM oM) I (go6 ?_);refine gv ((yD (q:=1) I I oM oM).cv (show _=vI (3) from I)) I (go2 ?_);refine wK (go2 ?_);refine gv (OpV.fa dC (yS (q:=3) I I)) I (qC ?_);refine lX (xB yC (y6u pH) D) λbs aj=>(cL (ev1 I) call146 (λw hs=>tL hs aj) λbr h7 cn ai=>?_);obtain rfl:=ai;refine sH ?_;refine cnd (λM=>?_) λM=>?_
 ·
  refine go2 ?_;refine lX (xB lW pH D) λbq ah=>(lX (xB zK pH J) λbp ae=>(cL (ev2 I I) call147 (λw hs=>zBV hs ah ae oM oM oM) λU h8 cm ad=>?_));obtain rfl:U=vI (sdZ s p):=ad;have bj:=aZ s p;refine go5 ?_;refine zC I I ?_
  rfl
 have bn:=zdi M;have cq:=rH bn;refine go7 ?_;refine cL (ev1 I) call148 (λw hs=>zJ6 hs oM oM) λO h8 cm ac=>?_;obtain rfl:O=vI (zIQ (((((0:Int)+((smZ s.1.x)*(smZ p.x)))+((smZ s.1.y)*(smZ p.y)))+((smZ s.1.z)*(smZ p.z)))-(smZ s.2))):=ac;refine go4 ?_;refine zC I I ?_;exact zbi vI (zYU zo4 zo4 zo4 bn)
theorem zJV{m l k:Nat}{vs:Value}{s:Pq}(rs:(tPl m l).Is h0 vs s){vp:Value}{p:Tq}(rp:(tPt k).Is h0 vp p)(H0:k<=100000000)(H1:l<=100000000)(H2:m<=100000000):
 y8i 23 #[vs,vp] w0 h0 (λ_ r=>r=vI (sdZ s p)):=by
 refine cb2 13 vs vp func23 hs ?_;refine go2 ?_;refine nB rs λb2 ai D=>(nB rp λb3 ah J=>(go4 ?_));refine zJ 9 _ [] [(0,.q),(1,.q),(2,.q),(4,.q),(5,.q),(3,.c),(6,.c),(7,.c),(8,.q)] zX nX zou nX (λr hr=>hr) (go1 ?_);refine wX I (xB zK (y6i pH) D) λv6 r6=>(wX I (xB zK pH J) λv7 r7=>(go1 ?_));refine wX I (xB yC (y6u pH) D) λab U=>?_;refine w_c I (sC (ev2 I I) call56 (λw hs=>tW hs r6 r7 oM) λv8 h1 ae M=>?_);replace M:=Rp.Is.le M (Le.q (l:=3*k+3*m+9) oM);refine w_c I (sC (ev2 I I) call55 (λw hs=>tJ hs M U.up oM) λaa h2 ad C=>?_);replace C:=Rp.Is.le C (Le.q (l:=3*k+l+3*m+10) oM);refine w_c I (sC (ev1 I) call48 (λw hs=>uS hs C oM) λH h3 ac O=>?_);obtain rfl:H=vI (yQ ((zF s.1 p)-s.2)):=O;have Z:=xC ((zF s.1 p)-s.2);refine go4 ?_;refine zC I I ?_
 rfl
end
end Go.Proofs.YtpkaegemlpaenaaGreat
