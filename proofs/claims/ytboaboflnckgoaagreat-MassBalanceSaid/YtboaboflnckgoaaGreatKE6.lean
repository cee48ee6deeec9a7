/- Texts that the proof needs, part 6. -/
import Derived.Test.YtboaboflnckgoaaGreatKE5
set_option linter.unusedVariables false
set_option linter.unusedSimpArgs false
set_option maxRecDepth 10000
set_option maxHeartbeats 1000000
namespace Go.Proofs.YtboaboflnckgoaaGreat
open Bk Go Tryz
attribute [local irreducible] GL GC GQ W OpV
section
variable{w0:World}{h0:Mem}(hs:MLe h0 (mem w0))
include hs
theorem zF1{k m n j l1 l2:Nat}{vs:Value}{s:Sq}(rs:(tSd k m n j).Is h0 vs s){vfs:Value}{fs:(List (Pq×((List (List Int))×(List Nat))))}(rfs:(rpS (tFc l1 l2)).Is h0 vfs fs)(hcd0:k<=10000)(hcd1:zOK s fs):
 Calls prog 77 #[vs,vfs] w0 (Ret w0 h0 (λh r=>(rpQ (20000*k+100004)).Is h r (dW (bF s fs fs.length)/((6:Int):Rat)))):=by
 have bj:=zTS rs;have cj:=hcd1.2.1;refine cb2 32 vs vfs func77 hs ?_;refine go2 ?_;refine nB rs λb2 aq ay=>(nA (ρ:=(rpQ (20000*k+100004))) (X:=(0:Rat)) yS (yE oM) λb4 ap ax=>(go4 ?_));refine nA (ρ:=(rpQ (20000*k+100000))) (X:=(0:Rat)) yS (yE oM) λb5 bn aw=>(qG ?_);refine gcL (ι:=Nat×List Value×Mem) (λ(i,G,ma)=>(MLe h0 ma/\((rpQ (20000*k+100000)).R ma G (dW (bF s fs i))/\i<=fs.length),[(2,vP b2 0),(4,vP b4 0),(5,vP b5 0),(10,vfs),(11,vI (↑(fs).length:Int)),(12,vI ↑i)],[.var b5 26 G,.var b4 26 ap,.var b2 50 aq],ma,fs.length-i)) (0,bn,h0) ?_ ?_
 · exact⟨mle,aw,oM⟩
 rintro⟨i,G,ma⟩ ⟨bq,O,J⟩
 refine yQ ?_;have cg:=J;refine gc6 (λan=>?_) λan=>?_
 ·
  have C:=hcd1.1 i oM;have ck:=zFB hcd1 (i:=i) oM;refine go6 ?_;refine lX (xI zA i underlying47 fD rfs) λce bi=>(lX (xA fD bi) λcd bh=>(nA (ρ:=(tFc 1 1)) (X:=((zT,(0:Rat)),([],([]:List Nat)))) qI (yF (yF (xE (yE dC)) (yE dC)) (yF wJ kB)) λb7 cm av=>?_));have ai:=(Le.p (Le.p (Le.t (Le.q (l:=l1+1) oM)) (Le.q (l:=l2+1) oM)) (Le.refl _)).R av;refine zV (A:=[]) (uB sizeOf83 pH ai (bh.le (Le.p (Le.p (Le.t (Le.q (l:=l1+1) oM)) (Le.q (l:=l2+1) oM)) (Le.refl _)))) λao ak=>(go4 ?_);refine lX (xB jH pH ay) λcc bg=>(lX (xB fD pH ak) λcb bf=>(cL (ev2 I I) call68 (λw hs=>pR hs (bg.le (Le.p (Le.refl _) (Le.p (Le.s (Le.p (Le.p (Le.t (Le.q (l:=l1+m+1) oM)) (Le.q (l:=l2+n+1) oM)) (Le.refl _))) (Le.refl _)))) (bf.le (Le.p (Le.p (Le.t (Le.q (l:=l1+m+1) oM)) (Le.q (l:=l2+n+1) oM)) (Le.refl _))) (by first|omega|exact C.1|exact C.2.1|exact C.2.2) (by first|omega|exact C.1|exact C.2.1|exact C.2.2) (by first|omega|exact C.1|exact C.2.1|exact C.2.2)) λar h1 bk be=>(go5 ?_)));refine gcL (ι:=Nat×List Value×Mem) (λ(q,D,mb)=>(MLe h1 mb/\((rpQ (20000*k+100000)).R mb D (dW (bF s fs i++(kZ s (fs.getD i zA).2.1 (fs.getD i zA).2.1.length).take q))/\q<=(kZ s (fs.getD i zA).2.1 (fs.getD i zA).2.1.length).length),[(2,vP b2 0),(4,vP b4 0),(5,vP b5 0),(10,vfs),(11,vI (↑(fs).length:Int)),(12,vI ↑i),(18,ar),(19,vI (↑(kZ s (fs.getD i zA).2.1 (fs.getD i zA).2.1.length).length:Int)),(20,vI ↑q)],[.var b7 83 ao,.var b5 26 D,.var b4 26 ap,.var b2 50 aq],mb,(kZ s (fs.getD i zA).2.1 (fs.getD i zA).2.1.length).length-q)) (0,G,h1) ?_ ?_
  · exact⟨mle,(Rp.castR O.up (by rw[yke,zli])),oM⟩
  rintro⟨q,D,mb⟩ ⟨bp,H,J⟩
  refine yQ ?_;have cf:=J;refine gc6 (λam=>?_) λam=>?_
  ·
   refine go6 ?_;refine lX (xI (T3.mk zT zT zT) q underlying106 oD be) λca bd=>(lX (xA oD bd) λbz bc=>(nA (ρ:=(rpT (tPt (k+1)))) (X:=(T3.mk zT zT zT)) bN (xE (xE (yE oM))) λb9 cl au=>(zV (A:=[]) (uB sizeOf108 pH au bc) λbr aj=>(go2 ?_))));refine zK 4 _ [] [(0,.q),(1,.q),(2,.c),(3,.c),(4,.t)] yC nX zot nX (λr hr=>hr) (wX I (xB yI pH H) λbx bb=>(wX I (xB oD pH aj) λbw ba=>?_));refine w_c I (sC (ev1 I) call69 (λw hs=>dF hs ba oM) λbv h2 ci ae=>?_);replace ae:=Rp.Is.le ae (Le.q (l:=20*k+60) oM);refine w_c I (sC (ev2 I I) call70 (λw hs=>rJ hs bb.up ae oM) λbu h3 ch ad=>?_);replace ad:=Rp.Is.le ad (Le.q (l:=20020*k+100061) oM);have U:=(Le.q (l:=20020*k+100061) oM).R H;refine yJ (A:=[_,_]) I (uB sizeOf26 pH U ad) λah ab=>(go7 ?_);refine uO (A:=[]) ?_;refine gqL ((q+1),ah,h3) ?_ ?_
   · exact⟨mle,(zYL ab (by rw[zGF,zii,lK (T3.mk zT zT zT) oM]) (yGG (zFP hcd1 bj oM))),oM⟩
   omega
  have bl:q=(kZ s (fs.getD i zA).2.1 (fs.getD i zA).2.1.length).length:=by omega
  refine uQ ?_;refine uO (A:=[]) ?_;refine gqL ((i+1),D,mb) ?_ ?_
  · exact⟨mle,(Rp.castR H.up (by rw[bl,zze];rfl)),oM⟩
  omega
 have ei:i=fs.length:=by omega
 refine go7 ?_;refine lX (xB yI pH O) λbt az=>(cL (vs:=[_,vI (6)]) e2z call83 (λw hs=>zAH hs az dC dC oM oM) λbs h1 bk ac=>?_);replace ac:=Rp.Is.le ac (Le.q (l:=20000*k+100004) oM);refine zV (A:=[_]) (uB sizeOf26 pH ax ac) λbm aa=>(go3 ?_);refine xW (jA (t:=4) yI mh1 I aa) ?_;intro bo M Z;refine yG (λE S=>zQ I M E S) ?_;exact(Rp.Is.cast Z (by rw[ei]))
theorem zNS{k m n j:Nat}{vs:Value}{s:Sq}(rs:(tSd k m n j).Is h0 vs s)(hcd0:k<=10000)(hcd1:nmA s)(hcd2:∀f,f<s.2.1.length->(s.2.1.getD f zA).2.1.length<=10000/\∀l,l<(s.2.1.getD f zA).2.1.length->((s.2.1.getD f zA).2.1.getD l []).length<=10000)(hcd3:zOK s s.2.1):
 Calls prog 26 #[vs] w0 (Ret w0 h0 (λh r=>(rpQ (20000*k+100004)).Is h r (zCS s/((6:Int):Rat)))):=by
 refine cb1 7 vs func26 hs ?_;refine go2 ?_;refine nB rs λb1 ad H=>(nA (ρ:=(rpQ (20000*k+100004))) (X:=(0:Rat)) yS (yE oM) λb2 ac J=>(go3 ?_));refine zK 4 _ [] [(0,.q),(1,.q),(2,.c),(3,.c),(4,.t)] yC nX zot nX (λr hr=>hr) (wX I (xB jH pH H) λv3 r3=>(wX I (xB jH pH H) λv4 r4=>?_));refine w_c I (sC (ev1 I) call67 (λw hs=>mK hs r4 (by first|omega|exact hcd1|exact hcd2|exact hcd3.2.1) (by first|omega|exact hcd1|exact hcd2|exact hcd3.2.1) (by first|omega|exact hcd1|exact hcd2|exact hcd3.2.1)) λv5 h1 ab Z=>?_);refine w_c I (sC (ev2 I I) call77 (λw hs=>zF1 hs r3.up Z oM (by first|omega|exact hcd3)) λv6 h2 aa U=>(yJ (A:=[]) I (uB sizeOf26 pH J U) λM G=>(go3 ?_)));refine xW (jA (t:=2) yI mh0 I G) ?_;intro O C D;refine yG (λE S=>zQ I C E S) ?_;exact D
theorem zNU{k m n j:Nat}{vs:Value}{s:Sq}(rs:(tSd k m n j).Is h0 vs s)(hcd0:k<=10000)(hcd1:nmA s)(hcd2:∀f,f<s.2.1.length->(s.2.1.getD f zA).2.1.length<=10000/\∀l,l<(s.2.1.getD f zA).2.1.length->((s.2.1.getD f zA).2.1.getD l []).length<=10000)(hcd3:zOK s s.2.1):
 Calls prog 25 #[vs] w0 (Ret w0 h0 (λh r=>∃u0,r=.tuple #[u0,vB (cnO s)]/\(tPt (50000*k+300000)).Is h u0 (cnS s))):=by
 have bp:=zTS rs;have fc:=hcd3.2.1;refine cb1 55 vs func25 hs ?_;refine go2 ?_;refine nB rs λb1 bu bo=>(nA (ρ:=(tPt (50000*k+300000))) (X:=zT) yM (xE (yE oM)) λb2 bt bl=>(go5 ?_));refine nA (ρ:=(tPt (20000*k+100000))) (X:=zT) yM (xE (yE oM)) λb4 dm ca=>(go4 ?_);refine nA (ρ:=(rpQ (20000*k+100000))) (X:=(0:Rat)) yS (yE oM) λb5 dl bz=>(go5 ?_);refine lX (xB jH pH bo) λew cz=>(cL (ev1 I) call67 (λw hs=>mK hs cz (by first|omega|exact hcd1|exact hcd2|exact hcd3.2.1) (by first|omega|exact hcd1|exact hcd2|exact hcd3.2.1) (by first|omega|exact hcd1|exact hcd2|exact hcd3.2.1)) λbk h1 fb cy=>(go5 ?_));refine gcL (ι:=Nat×List Value×List Value×Mem) (λ(i,M,J,ma)=>(MLe h1 ma/\((tPt (20000*k+100000)).R ma M (zHY (bF s s.2.1 i))/\(rpQ (20000*k+100000)).R ma J (dW (bF s s.2.1 i))/\i<=s.2.1.length),[(1,vP b1 0),(2,vP b2 0),(4,vP b4 0),(5,vP b5 0),(14,bk),(15,vI (↑(s.2.1).length:Int)),(16,vI ↑i)],[.var b5 26 J,.var b4 53 M,.var b2 53 bt,.var b1 50 bu],ma,s.2.1.length-i)) (0,dm,dl,h1) ?_ ?_
 · exact⟨mle,ca.up,bz.up,oM⟩
 rintro⟨i,M,J,ma⟩ ⟨dr,ad,ac,ae⟩
 refine yQ ?_;have ez:=ae;refine gc6 (λbr=>?_) λbr=>?_
 ·
  have D:=hcd3.1 i oM;have fd:=zFB hcd3 (i:=i) oM;refine go6 ?_;refine lX (xI zA i underlying47 fD cy) λev cw=>(lX (xA fD cw) λeu cv=>(nA (ρ:=(tFc 1 1)) (X:=((zT,(0:Rat)),([],([]:List Nat)))) qI (yF (yF (xE (yE dC)) (yE dC)) (yF wJ kB)) λb7 ff bx=>?_));have ao:=(Le.p (Le.p (Le.t (Le.q (l:=m+1) oM)) (Le.q (l:=n+1) oM)) (Le.refl _)).R bx;refine zV (A:=[]) (uB sizeOf83 pH ao cv) λbj ay=>(go4 ?_);refine lX (xB jH pH bo) λes cu=>(lX (xB fD pH ay) λer ct=>(cL (ev2 I I) call68 (λw hs=>pR hs (cu.le (Le.p (Le.refl _) (Le.p (Le.s (Le.p (Le.p (Le.t (Le.q (l:=m+1) oM)) (Le.q (l:=n+1) oM)) (Le.refl _))) (Le.refl _)))) ct (by first|omega|exact D.1|exact D.2.1|exact D.2.2) (by first|omega|exact D.1|exact D.2.1|exact D.2.2) (by first|omega|exact D.1|exact D.2.1|exact D.2.2)) λbv h2 de cq=>(go5 ?_)));refine gcL (ι:=Nat×List Value×List Value×Mem) (λ(q,H,G,mb)=>(MLe h2 mb/\((tPt (20000*k+100000)).R mb H (zHY (bF s s.2.1 i++(kZ s (s.2.1.getD i zA).2.1 (s.2.1.getD i zA).2.1.length).take q))/\(rpQ (20000*k+100000)).R mb G (dW (bF s s.2.1 i++(kZ s (s.2.1.getD i zA).2.1 (s.2.1.getD i zA).2.1.length).take q))/\q<=(kZ s (s.2.1.getD i zA).2.1 (s.2.1.getD i zA).2.1.length).length),[(1,vP b1 0),(2,vP b2 0),(4,vP b4 0),(5,vP b5 0),(14,bk),(15,vI (↑(s.2.1).length:Int)),(16,vI ↑i),(22,bv),(23,vI (↑(kZ s (s.2.1.getD i zA).2.1 (s.2.1.getD i zA).2.1.length).length:Int)),(24,vI ↑q)],[.var b7 83 bj,.var b5 26 G,.var b4 53 H,.var b2 53 bt,.var b1 50 bu],mb,(kZ s (s.2.1.getD i zA).2.1 (s.2.1.getD i zA).2.1.length).length-q)) (0,M,J,h2) ?_ ?_
  · exact⟨mle,(Rp.castR ad.up (by rw[yke,zli])),(Rp.castR ac.up (by rw[yke,zli])),oM⟩
  rintro⟨q,H,G,mb⟩ ⟨dq,U,O,ae⟩
  refine yQ ?_;have ey:=ae;refine gc6 (λbq=>?_) λbq=>?_
  ·
   refine go6 ?_;refine lX (xI (T3.mk zT zT zT) q underlying106 oD cq) λeq cp=>(lX (xA oD cp) λep co=>(nA (ρ:=(rpT (tPt (k+1)))) (X:=(T3.mk zT zT zT)) bN (xE (xE (yE oM))) λb9 fe bw=>(zV (A:=[]) (uB sizeOf108 pH bw co) λdk ab=>(go4 ?_))));refine lX (xB oD pH ab) λeo cn=>(cL (ev1 I) call69 (λw hs=>dF hs cn oM) λen h3 dd bf=>?_);replace bf:=Rp.Is.le bf (Le.q (l:=20*k+60) oM);refine nA (ρ:=(rpQ (20*k+40))) (X:=(0:Rat)) yS (yE oM) λfh dt bn=>?_;have an:=(Le.q (l:=20*k+60) oM).R bn;refine zV (A:=[]) (uB sizeOf26 pH an bf) λdj aa=>(go4 ?_);refine lX (xB yI pH O) λem cm=>(lX (xB yI pH aa) λel cl=>(cL (ev2 I I) call70 (λw hs=>rJ hs cm cl oM) λek h4 dc be=>?_));replace be:=Rp.Is.le be (Le.q (l:=20020*k+100061) oM);have am:=(Le.q (l:=20020*k+100061) oM).R O;refine zV (A:=[_,_,_]) (uB sizeOf26 pH am be) λbi ax=>(go2 ?_);refine zK 6 _ [] [(0,.q),(1,.q),(2,.q),(3,.c),(4,.c),(5,.c),(6,.t)] yC nX zot nX (λr hr=>hr) (wX I (xB zO pH U) λej ck=>(wX I (xB yI pH aa) λeh cj=>(wX I (xB oD pH ab) λeg ci=>?_)));refine w_c I (sC (ev1 I) call73 (λw hs=>zNT hs ci oM) λef h5 db bd=>?_);replace bd:=Rp.Is.le bd (Le.t (Le.q (l:=4*k+14) oM));refine w_c I (sC (ev2 I I) call72 (λw hs=>zBO hs cj.up bd oM) λee h6 da bc=>?_);replace bc:=Rp.Is.le bc (Le.t (Le.q (l:=24*k+76) oM));refine w_c I (sC (ev2 I I) call71 (λw hs=>zC5 hs ck.up bc oM) λed h7 fa bb=>?_);replace bb:=Rp.Is.le bb (Le.t (Le.q (l:=20024*k+100078) oM));have ak:=(Le.t (Le.q (l:=20024*k+100078) oM)).R U;refine yJ (A:=[_,_,_,_]) I (uB sizeOf53 pH ak bb) λbh aw=>(go7 ?_);refine uO (A:=[]) (uO (A:=[]) ?_);refine gqL ((q+1),bh,bi,h7) ?_ ?_
   · exact⟨mle,(zRF aw (by refine Eq.trans (zQ0 _ _) ?_;rw[zii,lK (T3.mk zT zT zT) oM]) (lq_C (zFP hcd3 bp oM))),(zYL ax.up (by rw[zGF,zii,lK (T3.mk zT zT zT) oM]) (yGG (zFP hcd3 bp oM))),oM⟩
   omega
  have bs:q=(kZ s (s.2.1.getD i zA).2.1 (s.2.1.getD i zA).2.1.length).length:=by omega
  refine uQ ?_;refine uO (A:=[]) ?_;refine gqL ((i+1),H,G,mb) ?_ ?_
  · exact⟨mle,(Rp.castR U.up (by rw[bs,zze];rfl)),(Rp.castR O.up (by rw[bs,zze];rfl)),oM⟩
  omega
 have ei:i=s.2.1.length:=by omega
 refine go6 ?_;refine zK 11 _ [(8,(11,26,[.bool false,.slice none 0 0,.slice none 0 0]))] [(2,.q),(0,.c),(1,.c),(3,.c),(4,.c),(5,.q),(6,.q),(7,.q),(8,.a),(9,.c),(10,.q)] yC (jZ.cons I I (qR yS I I) jZ.nil) zot (qU I I gM) (λr hr=>hr) (wX I (xB yI pH ac) λea cf=>?_);refine w_c I (sC (vs:=[vI (1)]) ⟨I,y1i⟩ call75 (λw hs=>iL hs dC dC) λec h2 de ch=>?_);refine w_c I (sC (vs:=[vI (4)]) ⟨I,y1i⟩ call75 (λw hs=>iL hs dC dC) λeb h3 dd cg=>?_);refine w_c I (sC (ev2 I I) call76 (λw hs=>kG hs cg cf.up oM) λdz h4 dc ba=>?_);replace ba:=Rp.Is.le ba (Le.q (l:=20000*k+100002) oM);refine w_c I (sC (ev2 I I) call74 (λw hs=>zGW hs ch.up ba oM) λdy h5 db ce=>?_);obtain⟨aj,rfl,C⟩:=ce
 change (rpQ (2+(20000*k+100002))).Is h5 aj (if((((4:Int):Int):Rat)*(dW (bF s s.2.1 i)))=0 then 0 else(((1:Int):Int):Rat)/((((4:Int):Int):Rat)*(dW (bF s s.2.1 i)))) at C
 replace C:=Rp.Is.le C (Le.q (l:=20000*k+100004) oM);refine go3 ?_;refine w_a I I (λfg=>?_);have bm:(rpQ (20000*k+100010)).R h5 [.bool false,.slice none 0 0,.slice none 0 0] (0:Rat):=(yE oM);refine w_c I (rR (A:=[]) (uB sizeOf26 pH bm (C.le (Le.q (l:=20000*k+100010) oM))) (xU zox) λdi av=>(zAV (λZ=>?_) λZ=>?_))
 ·
  have hz:((4:Int):Rat)*zCS s=0:=by rw[ei] at Z;exact zdi (λe=>Z (zae e))
  refine go2 ?_;refine lX (xV (ρ:=(tPt 1)) (wL (ps':=[]) underlying53 yM I I sizeOf26 trivial I (xE (yE dC)) zN)) λdx cd=>(zV (A:=[_,_,_]) (uB sizeOf53 pH bl (cd.le (Le.t (Le.q (l:=50000*k+300000) oM)))) λdh au=>(go5 ?_));refine xW (jA (t:=2) zO mh3 I au) ?_;intro dp ai aq;refine yG (λE S=>vO I ai (jE I) E S) ?_;refine⟨_,?_,(Rp.Is.cast aq (by exact(zau hz).symm))⟩;rw[yV (λe=>e hz)]
 have bg:¬((4:Int):Rat)*zCS s=0:=λe=>Z (by rw[ei];refine(zbi (· ≠(0:Int)) (zau e)).mpr ?_;decide);refine go4 ?_;refine lX (xB yI pH av) λdw cc=>(lX (xB zO pH ad) λdv cb=>(cL (ev2 I I) call72 (λw hs=>zBO hs cc cb oM) λdu h6 da az=>?_));replace az:=Rp.Is.le az (Le.t (Le.q (l:=40000*k+200012) oM));refine zV (A:=[_,_,_]) (uB sizeOf53 pH bl (az.le (Le.t (Le.q (l:=50000*k+300000) oM)))) λdf ar=>(go4 ?_);refine xW (jA (t:=2) zO mh3 I ar) ?_;intro dn ah ap;refine yG (λE S=>vO I ah (jE I) E S) ?_;refine⟨_,?_,(Rp.Is.cast ap (by rw[ei];unfold cnS zCS at *;rw[zae bg,zae bg];rfl))⟩;rw[xR (show cnO s from bg)]
theorem zCL{k m n j:Nat}{vs:Value}{s:Sq}(rs:(tSd k m n j).Is h0 vs s){vf:Value}{f:(Pq×((List (List Int))×(List Nat)))}(rf:(tFc m n).Is h0 vf f)(hcd0:k<=10000)(hcd1:zOM s f)(hcd2:(kZ s f.2.1 f.2.1.length).length<=1000):
 Calls prog 87 #[vs,vf] w0 (Ret w0 h0 (λh r=>(tPt (20000*k+100010)).Is h r (arV s f))):=by
 have be:=zTS rs;have C:=hcd1;have bi:=zON be C;refine cb2 34 vs vf func87 hs ?_;refine go2 ?_;refine nB rs λb2 bp ar=>(nB rf λb3 bo aq=>(nA (ρ:=(tPt (20000*k+100010))) (X:=zT) yM (xE (yE oM)) λb4 bn ap=>(go4 ?_)));refine nA (ρ:=(tPt (20000*k+100000))) (X:=zT) yM (xE (yE oM)) λb5 bm ao=>(go5 ?_);refine lX (xB jH pH ar) λv8 r8=>(lX (xB fD pH aq) λv9 r9=>(cL (ev2 I I) call68 (λw hs=>pR hs r8 r9 (by first|omega|exact C.1|exact C.2.1|exact C.2.2) (by first|omega|exact C.1|exact C.2.1|exact C.2.2) (by first|omega|exact C.1|exact C.2.1|exact C.2.2)) λam h1 ck bd=>(go5 ?_)));refine gcL (ι:=Nat×List Value×Mem) (λ(q,H,ma)=>(MLe h1 ma/\((tPt (20000*k+100000)).R ma H (j7 ((kZ s f.2.1 f.2.1.length).take q))/\q<=(kZ s f.2.1 f.2.1.length).length),[(4,vP b4 0),(5,vP b5 0),(10,am),(11,vI (↑(kZ s f.2.1 f.2.1.length).length:Int)),(12,vI ↑q)],[.var b5 53 H,.var b4 53 bn,.var b3 83 bo,.var b2 50 bp],ma,(kZ s f.2.1 f.2.1.length).length-q)) (0,bm,h1) ?_ ?_
 · exact⟨mle,ao.up,oM⟩
 rintro⟨q,H,ma⟩ ⟨br,G,aj⟩
 refine yQ ?_;have ci:=aj;refine gc6 (λak=>?_) λak=>?_
 ·
  refine go6 ?_;refine lX (xI (T3.mk zT zT zT) q underlying106 oD bd) λch bc=>(lX (xA oD bc) λcg bb=>(nA (ρ:=(rpT (tPt (k+1)))) (X:=(T3.mk zT zT zT)) bN (xE (xE (yE oM))) λb7 cl an=>(zV (A:=[]) (uB sizeOf108 pH an bb) λbl D=>(go2 ?_))));refine zK 13 _ [] (zai 0 5 (zai 6 4 [(5,.c),(10,.c),(11,.c),(12,.c),(13,.t)])) yC nX (wV zot) nX (λr hr=>hr) (wX I (xB zO pH G) λcf ba=>(go1 ?_));refine wX I (xB zO (y3i pH) D) λce az=>(go1 ?_);refine wX I (xB zO (y2e pH) D) λcd ay=>(go1 ?_);refine wX I (xB zO (y3u pH) D) λcb ax=>(go1 ?_);refine wX I (xB zO (y2e pH) D) λca aw=>?_;refine w_c I (sC (ev2 I I) call133 (λw hs=>zPM hs az ay oM) λcc h2 bh ah=>?_);replace ah:=Rp.Is.le ah (Le.t (Le.q (l:=2*k+4) oM));refine w_c I (sC (ev2 I I) call133 (λw hs=>zPM hs ax.up aw.up oM) λbz h3 bg ae=>?_);replace ae:=Rp.Is.le ae (Le.t (Le.q (l:=2*k+4) oM));refine w_c I (sC (ev2 I I) call132 (λw hs=>zGU hs ah.up ae oM) λbx h4 bf ad=>?_);replace ad:=Rp.Is.le ad (Le.t (Le.q (l:=8*k+19) oM));refine w_c I (sC (ev2 I I) call71 (λw hs=>zC5 hs ba.up ad oM) λbw h5 cj ac=>?_);replace ac:=Rp.Is.le ac (Le.t (Le.q (l:=20008*k+100021) oM));have M:=(Le.t (Le.q (l:=20008*k+100021) oM)).R G;refine yJ (A:=[_]) I (uB sizeOf53 pH M ac) λai Z=>(go7 ?_);refine uO (A:=[]) ?_;refine gqL ((q+1),ai,h5) ?_ ?_
  · exact⟨mle,(zRF Z (by refine Eq.trans (zQZ _ _) ?_;rw[lK (T3.mk zT zT zT) oM]) (lq_V ⟨by rw[zei];omega,λt ht=>bi t (zve ht)⟩)),oM⟩
  omega
 have bj:q=(kZ s f.2.1 f.2.1.length).length:=by omega
 refine go6 ?_;refine zK 4 _ [] [(2,.q),(0,.c),(1,.c),(3,.c),(4,.t)] yC nX zot nX (λr hr=>hr) (wX I (xB zO pH G) λbt au=>?_);refine w_c I (sC (vs:=[vI (1)]) ⟨I,y1i⟩ call75 (λw hs=>iL hs dC dC) λbv h2 bh av=>?_);refine w_c I (sC (vs:=[_,vI (2)]) e2z call83 (λw hs=>zAH hs av dC dC dC oM) λbu h3 bg ab=>?_);replace ab:=Rp.Is.le ab (Le.q (l:=6) oM);refine w_c I (sC (ev2 I I) call72 (λw hs=>zBO hs ab au.up oM) λbs h4 bf aa=>?_);replace aa:=Rp.Is.le aa (Le.t (Le.q (l:=20000*k+100008) oM));refine yJ (A:=[_]) I (uB sizeOf53 pH ap (aa.le (Le.t (Le.q (l:=20000*k+100010) oM)))) λbk U=>(go3 ?_);refine xW (jA (t:=4) zO mh1 I U) ?_;intro bq J O;refine yG (λE S=>zQ I J E S) ?_;exact(Rp.Is.cast O (by rw[bj,zze];rfl))
theorem zIO{k m n j:Nat}{vs:Value}{s:Sq}(rs:(tSd k m n j).Is h0 vs s){d:Int}(hd1:-9223372036854775808<=d)(hd2:d<9223372036854775808)(hcd0:k<=10000)(hcd1:nmA s)(hcd2:∀f,f<s.2.1.length->(s.2.1.getD f zA).2.1.length<=10000/\∀l,l<(s.2.1.getD f zA).2.1.length->((s.2.1.getD f zA).2.1.getD l []).length<=10000)(hcd3:zOK s s.2.1)(hcd4:yFD s)(hcd5:0<=d)(hcd6:d<=64):
 Calls prog 40 #[vs,vI d] w0 (Ret w0 h0 (λh r=>∃u0,r=.tuple #[u0,vB (True)]/\(rpP (rpQ 400000) (rpQ 400000)).Is h u0 (arS s d s.2.1.length))):=by
 have cp:=hcd3.2.1;refine cb2 42 vs (vI d) func40 hs ?_;refine go2 ?_;refine nB rs λb2 br ak=>(nA (ρ:=(rpP (rpQ 400000) (rpQ 400000))) (X:=((0:Rat),(0:Rat))) fS (yF (yE dC) (yE dC)) λb4 bq ax=>(go8 ?_));refine gU 4 17 (vB ((d<(0:Int))\/((64:Int)<d))) ?_ ?_
 ·
  refine yD (d<(0:Int)) (λhg=>?_) (λhg=>?_)
  ·
   refine gT hg I (go4 ?_);refine gqU ?_;exact y0e (vV hg)
  refine gF hg I (go6 ?_);refine gqU ?_;exact y0e (vW hg)
 refine gc2 (λO=>?_) λO=>?_
 · exact absurd O oM
 refine go4 ?_;refine nA (ρ:=(rpP (rpQ 400000) (rpQ 400000))) (X:=((0:Rat),(0:Rat))) fS (yF (yE dC) (yE dC)) λb6 bp aw=>(go5 ?_);refine lX (xB jH pH ak) λci bk=>(cL (ev1 I) call67 (λw hs=>mK hs bk (by first|omega|exact hcd1|exact hcd2|exact hcd3.2.1) (by first|omega|exact hcd1|exact hcd2|exact hcd3.2.1) (by first|omega|exact hcd1|exact hcd2|exact hcd3.2.1)) λar h1 co bj=>(go5 ?_));refine gcL (ι:=Nat×List Value×Mem) (λ(i,G,ma)=>(MLe h1 ma/\((rpP (rpQ 400000) (rpQ 400000)).R ma G (arS s d i)/\i<=s.2.1.length),[(1,vI d),(2,vP b2 0),(4,vP b4 0),(6,vP b6 0),(20,ar),(21,vI (↑(s.2.1).length:Int)),(22,vI ↑i)],[.var b6 34 G,.var b4 34 bq,.var b2 50 br],ma,s.2.1.length-i)) (0,bp,h1) ?_ ?_
 · exact⟨mle,aw.up,oM⟩
 rintro⟨i,G,ma⟩ ⟨bt,D,cj⟩
 refine yQ ?_;refine gc6 (λap=>?_) λap=>?_
 ·
  have an:=hcd3.1 i oM;have ao:=zFB hcd3 (i:=i) oM;refine go6 ?_;refine lX (xI zA i underlying47 fD bj) λch bi=>(lX (xA fD bi) λcg bh=>(nA (ρ:=(tFc 1 1)) (X:=((zT,(0:Rat)),([],([]:List Nat)))) qI (yF (yF (xE (yE dC)) (yE dC)) (yF wJ kB)) λb8 ct av=>?_));have aa:=(Le.p (Le.p (Le.t (Le.q (l:=m+1) oM)) (Le.q (l:=n+1) oM)) (Le.refl _)).R av;refine zV (A:=[]) (uB sizeOf83 pH aa bh) λbo ah=>(go4 ?_);refine lX (xB jH pH ak) λcf bg=>(lX (xB fD pH ah) λce bf=>(cL (ev2 I I) call87 (λw hs=>zCL hs (bg.le (Le.p (Le.refl _) (Le.p (Le.s (Le.p (Le.p (Le.t (Le.q (l:=m+1) oM)) (Le.q (l:=n+1) oM)) (Le.refl _))) (Le.refl _)))) bf oM (by first|omega|exact an|exact ao) (by first|omega|exact an|exact ao)) λcd h2 cn be=>(nA (ρ:=(tPt (20000*k+100010))) (X:=zT) yM (xE (yE oM)) λb9 cq au=>(zV (A:=[]) (uB sizeOf53 pH au be) λbn H=>(go4 ?_)))));refine lX (xB zO pH H) λcc bd=>(lX (xB zO pH H) λcb bc=>(cL (ev2 I I) call88 (λw hs=>zPN hs bd bc oM) λaq h3 cm J=>?_));replace J:=Rp.Is.le J (Le.q (l:=120000*k+600069) oM);replace J:(rpQ 200).Is h3 aq (vZ (arV s (s.2.1.getD i zA)) (arV s (s.2.1.getD i zA))):=(reb J I (hcd4 i oM));refine go1 ?_;refine cL (ev2 I I) call13 (λw hs=>eL hs J oM oM dC) λca h4 cl bb=>?_;obtain⟨U,rfl,C⟩:=bb
  change (rpP (rpQ (200+140)) (rpQ (200+140))).Is h4 U (eP (vZ (arV s (s.2.1.getD i zA)) (arV s (s.2.1.getD i zA))) d,eQ (vZ (arV s (s.2.1.getD i zA)) (arV s (s.2.1.getD i zA))) d) at C
  replace C:=Rp.Is.le C (Le.p (Le.q (l:=340) oM) (Le.q (l:=340) oM));refine go3 ?_;refine nA (ρ:=(rpP (rpQ 340) (rpQ 340))) (X:=((0:Rat),(0:Rat))) fS (yF (yE dC) (yE dC)) λcu bu am=>(zV (A:=[]) (uB sizeOf34 pH am C) λbm ae=>(go4 ?_));refine lX (xB zJN pH D) λbz ba=>(lX (xB zJN pH ae) λbx az=>(cL (ev2 I I) call89 (λw hs=>zNK hs ba az dC) λbw h5 ck ai=>?_));replace ai:=Rp.Is.le ai (Le.p (Le.q (l:=400341) oM) (Le.q (l:=400341) oM));have Z:=(Le.p (Le.q (l:=400341) dC) (Le.q (l:=400341) dC)).R D;refine zV (A:=[_,_,_]) (uB sizeOf34 pH Z ai) λaj ad=>(go7 ?_);refine uO (A:=[]) (uO (A:=[]) (uO (A:=[]) ?_));refine gqL ((i+1),aj,h5) ?_ ?_
  · exact⟨mle,(reb2 ad I (by have:=(zOC hcd4 d (i+1) oM).1;omega) (by have:=(zOC hcd4 d (i+1) oM).2;omega)),oM⟩
  omega
 have ei:i=s.2.1.length:=by omega
 refine go7 ?_;refine lX (xB zJN pH D) λbv ay=>(zV (A:=[_]) (uB sizeOf34 pH ax ay) λbl ac=>(go4 ?_));refine xW (jA (t:=4) zJN mh1 I ac) ?_;intro bs M ab;refine yG (λE S=>vO I M (jE I) E S) ?_;refine⟨_,?_,(Rp.Is.cast ab (by rw[ei]))⟩;rw[xR trivial]
theorem zKN{k m n j:Nat}{vs:Value}{s:Sq}(rs:(tSd k m n j).Is h0 vs s){vf:Value}{f:(Pq×((List (List Int))×(List Nat)))}(rf:(tFc m n).Is h0 vf f)(hcd0:∀u v,u<f.2.1.length->v<(f.2.1.getD u []).length->0<=(f.2.1.getD u []).getD v 0/\(f.2.1.getD u []).getD v 0<s.1.length)(hcd1:s.1.length<=100000)(hcd2:∀u,u<f.2.1.length->(f.2.1.getD u []).length<=10000)(hcd3:f.2.1.length<=10000):
 Calls prog 134 #[vs,vf] w0 (Ret w0 h0 (λ_ r=>r=vB (True))):=by
 refine cb2 33 vs vf func134 hs ?_;refine go2 ?_;refine nB rs λb2 aa ad=>(nB rf λb3 Z ac=>(go7 ?_));refine lX (xB cD (y2u (y2i pH)) ac) λD ak=>(go5 ?_);refine gcL (ι:=Nat×Mem) (λ(l,H)=>(MLe h0 H/\(l<=f.2.1.length),[(2,vP b2 0),(10,D),(11,vI (↑(f.2.1).length:Int)),(12,vI ↑l)],[.var b3 83 Z,.var b2 50 aa],H,f.2.1.length-l)) (0,h0) ?_ ?_
 · exact⟨mle,oM⟩
 rintro⟨l,H⟩ ⟨ao,J⟩
 refine yQ ?_;have ba:=J;refine gc6 (λU=>?_) λU=>?_
 ·
  refine go6 ?_;refine lX (xI [] l underlying81 fE ak) λav aj=>(lX (xA fE aj) λab ai=>(qG ?_));refine gcL (ι:=Nat×Mem) (λ(u,G)=>(MLe H G/\(u<=(f.2.1.getD l []).length),[(2,vP b2 0),(10,D),(11,vI (↑(f.2.1).length:Int)),(12,vI ↑l),(16,ab),(17,vI (↑((f.2.1.getD l [])).length:Int)),(18,vI ↑u)],[.var b3 83 Z,.var b2 50 aa],G,(f.2.1.getD l []).length-u)) (0,H) ?_ ?_
  · exact⟨mle,oM⟩
  rintro⟨u,G⟩ ⟨an,ax⟩
  refine yQ ?_;have bb:=hcd2 l oM;refine gc6 (λO=>?_) λO=>?_
  ·
   obtain⟨az,ay⟩:=hcd0 l u oM oM;refine go6 ?_;refine lX (xI (0:Int) u underlying32 ty3 ai) λau ah=>(lX (xA ty3 ah) λar ae=>?_);obtain⟨rfl,ap,am⟩:=kF ae;refine go7 ?_;refine gU 7 30 (vB ((((f.2.1.getD l []).getD u (0:Int))<(0:Int))\/((↑(s.1).length:Int)<=((f.2.1.getD l []).getD u (0:Int))))) ?_ ?_
   ·
    refine yD (((f.2.1.getD l []).getD u (0:Int))<(0:Int)) (λM=>?_) (λM=>?_)
    ·
     refine gT M I (go7 ?_);refine gqU ?_;exact y0e (vV M)
    refine gF M I (go5 ?_);refine lX (xB uS (y2i pH) ad) λaq aw=>(go6 ?_);refine gqU ?_;exact y0e (vW M)
   refine gc2 (λC=>?_) λC=>?_
   · exact absurd C oM
   refine go7 ?_;refine gqL ((u+1),G) ?_ ?_
   · exact⟨mle,oM⟩
   omega
  refine uQ ?_;refine gqL ((l+1),G) ?_ ?_
  · exact⟨mle,oM⟩
  omega
 refine qG ?_;refine zD I I ?_;exact(xR trivial).symm
theorem zFZ{k m n j:Nat}{vs:Value}{s:Sq}(rs:(tSd k m n j).Is h0 vs s){f:Nat}(hcd0:f<s.2.1.length)(hcd1:zOM s (s.2.1.getD f zA))(hcd2:s.1.length<=100000)(hcd3:s.2.1.length<=100000)(hcd4:k<=100000):
 Calls prog 90 #[vs,vI ↑f] w0 (Ret w0 h0 (λh r=>(tLL (k+3)).Is h r (zMN s.1 (s.2.1.getD f zA).2.1 (s.2.1.getD f zA).2.1.length))):=by
 have bb:=hcd1.2.2;have ax:(zMN s.1 (s.2.1.getD f zA).2.1 (s.2.1.getD f zA).2.1.length).length=(s.2.1.getD f zA).2.1.length:=xH _ _;have C:∀x,x∈(zMN s.1 (s.2.1.getD f zA).2.1 (s.2.1.getD f zA).2.1.length)->x.length<=100000:=λx hx=>by
  obtain⟨i,hi,rfl⟩:=zC9 hx;have:=hcd1.2.1 i hi
  show(zFV _ _ _).length<=_
  unfold zFV;rw[xH];omega
 refine cb2 32 vs (vI ↑f) func90 hs ?_;refine go2 ?_;refine nB rs λb2 bc G=>(go5 ?_);refine zK 19 _ [] (zai 0 16 [(16,.c),(17,.q),(18,.q)]) yC nX (wV zot) nX (λr hr=>hr) (go1 ?_);refine wK I (λ_ _=>OpV.fa oM (yL (q:=0) I I)) I (go1 ?_);refine yU I I I (λh' L' hh hR=>yY I) I (go1 ?_);refine oX I (xB gK (y2u (y2i pH)) G) λaw ai=>(yU I I I (λh' L' hh hR=>uX underlying47 I (ai.mono hh)) I (yU I I I (λh' L' hh hR=>OpV.fa oM (cM I I)) I (go2 ?_)));refine oX I (xB jH pH G) λav ah=>(go1 ?_);refine oX I (xB gK (y2u (y2i pH)) G) λau ae=>(yU I I I (λh' L' hh hR=>yY I) I (oX I (xI zA f underlying47 fD ae) λar ad=>(oX I (xA fD ad) λaq ac=>?_)));refine w_c I (bH I I (sC (ev2 I I) call134 (λw hs=>zKN hs ah ac (by first|omega|exact hcd1.1|exactλu D=>zci (hcd1.2.1 u D) dC|exact C) (by first|omega|exact hcd1.1|exactλu D=>zci (hcd1.2.1 u D) dC|exact C) (by first|omega|exact hcd1.1|exactλu D=>zci (hcd1.2.1 u D) dC|exact C) (by first|omega|exact hcd1.1|exactλu D=>zci (hcd1.2.1 u D) dC|exact C)) λJ h1 ba ab=>?_));obtain rfl:J=.bool true:=by rw[show J=vB (True) from ab,xR (by trivial)]
 refine yU I I I (λh' L' hh hR=>zKF I) I (go7 ?_);refine zK 9 _ [] (zai 0 6 [(6,.c),(7,.c),(8,.q)]) yC nX zot nX (λr hr=>hr) (wX I (xB jH pH G) λap aa=>(go1 ?_));refine wX I (xB gK (y2u (y2i pH)) G) λao Z=>(go1 ?_);refine wX I (xI zA f underlying47 fD Z) λan U=>(wX I (xA fD U) λam O=>?_);refine w_c I (sC (ev2 I I) call136 (λw hs=>zKM hs aa O (by first|omega|exact hcd1.1|exactλu D=>zci (hcd1.2.1 u D) dC|exact C) (by first|omega|exact hcd1.1|exactλu D=>zci (hcd1.2.1 u D) dC|exact C) (by first|omega|exact hcd1.1|exactλu D=>zci (hcd1.2.1 u D) dC|exact C) (by first|omega|exact hcd1.1|exactλu D=>zci (hcd1.2.1 u D) dC|exact C)) λak h2 az M=>?_);refine w_c I (sC (ev1 I) call135 (λw hs=>zKZ hs M oM (by first|omega|exact hcd1.1|exactλu D=>zci (hcd1.2.1 u D) dC|exact C) (by first|omega|exact hcd1.1|exactλu D=>zci (hcd1.2.1 u D) dC|exact C)) λaj h3 ay H=>?_);replace H:=Rp.Is.le H (Le.s (Le.s (Le.t (Le.q (l:=k+3) oM))));refine go4 ?_;refine zD I I ?_;exact H
theorem zF2{k m n j:Nat}{vs:Value}{s:Sq}(rs:(tSd k m n j).Is h0 vs s){f:Nat}(hcd0:f<s.2.1.length)(hcd1:zOM s (s.2.1.getD f zA))(hcd2:s.1.length<=100000)(hcd3:s.2.1.length<=100000)(hcd4:k<=10000)(hcd5:(kZ s (s.2.1.getD f zA).2.1 (s.2.1.getD f zA).2.1.length).length<=1000)(hcd6:0<(s.2.1.getD f zA).2.1.length):
 Calls prog 41 #[vs,vI ↑f] w0 (Ret w0 h0 (λh r=>(tPt (20000*k+100010)).Is h r (arV s (s.2.1.getD f zA)))):=by
 have am:(zMN s.1 (s.2.1.getD f zA).2.1 (s.2.1.getD f zA).2.1.length).length=(s.2.1.getD f zA).2.1.length:=xH _ _;refine cb2 18 vs (vI ↑f) func41 hs ?_;refine go2 ?_;refine nB rs λb2 aq C=>(nA (ρ:=(tPt (20000*k+100010))) (X:=zT) yM (xE (yE oM)) λb4 ap M=>(go5 ?_));refine lX (xB jH pH C) λv5 r5=>(go1 ?_);refine cL (ev2 I I) call90 (λw hs=>zFZ (f:=f) hs r5 (by first|omega|exact hcd1) (by first|omega|exact hcd1) (by first|omega|exact hcd1) (by first|omega|exact hcd1) oM) λv7 h1 ao r7=>(gc4 (λJ=>?_) λJ=>?_)
 · exact absurd J oM
 refine go3 ?_;refine zK 7 _ [] (zai 0 6 [(6,.c),(7,.t)]) yC nX zot nX (λr hr=>hr) (wX I (xB jH pH C) λak ab=>(go1 ?_));refine wX I (xB gK (y2u (y2i pH)) C) λaj aa=>(go1 ?_);refine wX I (xI zA f underlying47 fD aa) λai Z=>(wX I (xA fD Z) λah U=>?_);refine w_c I (sC (ev2 I I) call87 (λw hs=>zCL hs ab U oM (by first|omega|exact hcd1|exact hcd5) (by first|omega|exact hcd1|exact hcd5)) λae h2 an O=>(yJ (A:=[]) I (uB sizeOf53 pH M O) λac H=>(go3 ?_)));refine xW (jA (t:=4) zO mh0 I H) ?_;intro ad D G;refine yG (λE S=>zQ I D E S) ?_;exact G
theorem zUY{k l:Nat}{vp:Value}{p:Tq}(rp:(tPt k).Is h0 vp p){vq:Value}{q:Tq}(rq:(tPt l).Is h0 vq q)(hcd0:k<=100000000)(hcd1:l<=100000000):
 Calls prog 175 #[vp,vq] w0 (Ret w0 h0 (λ_ r=>r=vB (lsP p q))):=by
 refine cb2 22 vp vq func175 hs ?_;refine go2 ?_;refine nB rp λG ad M=>(nB rq λD ac J=>(uQ ?_));refine gcL (ι:=Nat×Mem) (λ(i,ma)=>(MLe h0 ma/\(i<=3/\∀u,u<i->wQ (p.at u) (q.at u)=0),[(2,vP G 0),(3,vP D 0),(5,vI ↑i)],[.var D 53 ac,.var G 53 ad],ma,3-i)) (0,h0) ?_ ?_
 · exact⟨mle,by omega,λu h=>by omega⟩
 rintro⟨i,ma⟩ ⟨ae,aj,hi2⟩
 refine yQ ?_;refine gc7 (λab=>?_) λab=>?_
 ·
  refine go5 ?_;refine zK 8 _ [] (zai 0 6 [(6,.c),(7,.q)]) yC nX zot nX (λr hr=>hr) (go1 ?_);refine wK I (λ_ _=>(wE (sz:=3) i underlying53 sizeOf26 I I I oM).cv (show _=vP G ((i*3+0)) from zbi (vP G) oM)) I (wX I (xB yI (Pc.ta pH i oM) M) λai Z=>(go1 ?_));refine wK I (λ_ _=>(wE (sz:=3) i underlying53 sizeOf26 I I I oM).cv (show _=vP D ((i*3+0)) from zbi (vP D) oM)) I (wX I (xB yI (Pc.ta pH i oM) J) λah U=>?_);refine w_c I (sC (ev2 I I) call18 (λw hs=>fQ hs Z U oM) λH h1 ak O=>?_);obtain rfl:H=vI (wQ (p.at i) (q.at i)):=O;have aa:=kR (p.at i) (q.at i);refine gc9 (λC=>?_) λC=>?_
  ·
   refine rN ?_;refine zD I I ?_;exact tB (yGE oM hi2 C)
  refine go8 ?_;refine gqL ((i+1),h1) ?_ ?_
  · exact⟨mle,by omega,qA (Q:=λu=>wQ (p.at u) (q.at u)=0) hi2 (zdi C)⟩
  omega
 have ei:i=3:=by omega
 refine qG ?_;refine zD I I ?_;exact(yV (yDT λu hu=>hi2 u oM)).symm
theorem zCK{va:Value}{a:(List Int)}(ra:(rpS rpI).Is h0 va a){vb:Value}{b:(List Int)}(rb:(rpS rpI).Is h0 vb b):
 Calls prog 178 #[va,vb] w0 (Ret w0 h0 (λ_ r=>r=vI (rZ a b))):=by
 have bd:=zYE ra;have bc:=zYE rb;refine cb2 48 va vb func178 hs ?_;refine uV ?_;refine gcL (ι:=Nat×Mem) (λ(i,O)=>(MLe h0 O/\((i<=a.length/\i<=b.length)/\∀u,u<i->a.getD u 0=b.getD u 0),[(0,va),(1,vb),(5,vI ↑i)],[],O,a.length-i)) (0,h0) ?_ ?_
 · exact⟨mle,by omega,λu h=>by omega⟩
 rintro⟨i,O⟩ ⟨an,be,hi2⟩
 refine yQ ?_;refine go7 ?_;refine gU 6 15 (vB (((↑i:Int)<(↑(a).length:Int))/\((↑i:Int)<(↑(b).length:Int)))) ?_ ?_
 ·
  refine yD ((↑i:Int)<(↑(a).length:Int)) (λG=>?_) (λG=>?_)
  ·
   refine gT G I (uQ ?_);refine gqU ?_;exact y0e (xS G)
  refine gF G I (go6 ?_);refine gqU ?_;exact y0e (xT G)
 refine gc2 (λM=>?_) λM=>?_
 ·
  refine go5 ?_;refine zK 9 _ [] (zai 0 9 []) yC nX zot nX (λr hr=>hr) (go2 ?_);refine wX I (xI (0:Int) i underlying32 ty3 ra) λbb ah=>(wX I (xA ty3 ah) λba ae=>?_);obtain⟨rfl,ar,am⟩:=kF ae;refine go2 ?_;refine wX I (xI (0:Int) i underlying32 ty3 rb) λaz ad=>(wX I (xA ty3 ad) λay ac=>?_);obtain⟨rfl,aq,ak⟩:=kF ac;refine gc3 (λC=>?_) λC=>?_
  ·
   refine go2 ?_;refine zK 9 _ [] (zai 0 9 []) yC nX zot nX (λr hr=>hr) (go2 ?_);refine wX I (xI (0:Int) i underlying32 ty3 ra) λax ab=>(wX I (xA ty3 ab) λaw aa=>?_);obtain⟨rfl,ap,aj⟩:=kF aa;refine go2 ?_;refine wX I (xI (0:Int) i underlying32 ty3 rb) λav Z=>(wX I (xA ty3 Z) λau U=>?_);obtain⟨rfl,ao,ai⟩:=kF U;refine gc3 (λD=>?_) λD=>?_
   ·
    refine uV ?_;refine zD I I ?_;refine zbi vI ?_;rw[zQK hi2 oM oM C,zau D]
   refine rN ?_;refine zD I I ?_;refine zbi vI ?_;rw[zQK hi2 oM oM C,zae D]
  refine go8 ?_;refine gqL ((i+1),O) ?_ ?_
  · exact⟨mle,by omega,qA (Q:=λu=>a.getD u 0=b.getD u 0) hi2 (zdi C)⟩
  omega
 have ei:i=min a.length b.length:=by omega
 refine oO ?_;refine cnd (λJ=>?_) λJ=>?_
 ·
  refine go8 ?_;refine zD I I ?_;refine zbi vI ?_;rw[zFH hi2 ei,zau oM]
 refine zAV (λH=>?_) λH=>?_
 ·
  refine go8 ?_;refine zD I I ?_;refine zbi vI ?_;rw[zFH hi2 ei,zae oM,zau oM]
 refine go9 ?_;refine zD I I ?_;refine zbi vI ?_;rw[zFH hi2 ei,zae oM,zae oM]
theorem zNQ{vx:Value}{x:(List Int)}(rx:(rpS rpI).Is h0 vx x)(hcd0:x.length<=100000):
 Calls prog 177 #[vx] w0 (Ret w0 h0 (λh r=>(rpS rpI).Is h r (zRB x))):=by
 refine cb1 29 vx func177 hs ?_;refine oO ?_;refine gcL (ι:=Nat×Mem) (λ(i,D)=>(MLe h0 D/\(i<=x.length),[(0,vx),(3,vI ↑(pJ x i)),(4,vI ↑i)],[],D,x.length-i)) (0,h0) ?_ ?_
 · exact⟨mle,oM⟩
 rintro⟨i,D⟩ ⟨ak,O⟩
 refine yQ ?_;have bd:=O;have bc:=yAN x i;refine gc9 (λah=>?_) λah=>?_
 ·
  refine go5 ?_;refine zK 9 _ [] (zai 0 9 []) yC nX zot nX (λr hr=>hr) (go2 ?_);refine wX I (xI (0:Int) i underlying32 ty3 rx) λaz ae=>(wX I (xA ty3 ae) λay ad=>?_);obtain⟨rfl,an,aj⟩:=kF ad;refine go2 ?_;refine wX I (xI (0:Int) (pJ x i) underlying32 ty3 rx) λax ac=>(wX I (xA ty3 ac) λaw ab=>?_);obtain⟨rfl,am,ai⟩:=kF ab;refine gc3 (λC=>?_) λC=>?_
  ·
   refine qG ?_;refine gqL ((i+1),D) ?_ ?_ (he:=⟨I,zbi (λz:Nat=>some (vI ↑z)) (mn_t C),I,y1i⟩)
   · exact⟨mle,oM⟩
   omega
  refine go8 ?_;refine gqL ((i+1),D) ?_ ?_ (he:=⟨I,zbi (λz:Nat=>some (vI ↑z)) (mn_f C),I,y1i⟩)
  · exact⟨mle,oM⟩
  omega
 have ei:i=x.length:=by omega
 refine go6 ?_;refine zK 9 _ [] [(0,.q),(1,.q),(2,.q),(4,.q),(5,.q),(6,.q),(3,.c),(7,.c),(8,.q)] yC nX zot nX (λr hr=>hr) (go2 ?_);refine lJ (F:=λU=>(rpS rpI).Is D U (x.drop (pJ x i))) I (zM5 (ρ:=rpI) (pJ x i) underlying32 sizeOf3 I I rx.up oM oM) zBT I ?_;intro av aa;refine go2 ?_;refine lJ (F:=λU=>(rpS rpI).Is D U (x.take (pJ x i))) I (zM6 (ρ:=rpI) (pJ x i) underlying32 sizeOf3 I I rx.up oM oM) zBT I ?_;intro ar Z;refine w_c I (zDW 3 1 ?_);have H:=RL.nil (ρ:=rpI) (h:=D);refine gR (A:=[]) (λX=>yA (ρ:=rpI) (bytes:=8) underlying32 jJ I I I I nP I I H aa zo5 zo5) I (xU zox) ?_
 rintro au bb ⟨ap,rfl,M⟩
 refine w_c I (gR (A:=[]) (λX=>yA (ρ:=rpI) (bytes:=8) underlying32 jJ I I I I nP I I M Z zo5 zo5) I (xU zox) ?_)
 rintro aq ba ⟨ao,rfl,J⟩
 refine go4 ?_;refine xP (A:=[]) (ρ:=rpI) J ?_;intro h1 be G;refine zD I I ?_;exact(Rp.Is.cast G (by rw[ei,zhu];rfl))
theorem zIK{m n k l:Nat}{va:Value}{a:(Pq×((List (List Int))×(List Nat)))}(ra:(tFc m n).Is h0 va a){vb:Value}{b:(Pq×((List (List Int))×(List Nat)))}(rb:(tFc k l).Is h0 vb b)(hcd0:a.2.1.length<=100000)(hcd1:b.2.1.length<=100000):
 Calls prog 129 #[va,vb] w0 (Ret w0 h0 (λ_ r=>r=vB (lsF a b))):=by
 refine cb2 53 va vb func129 hs ?_;refine go2 ?_;refine nB ra λb2 au D=>(nB rb λb3 ar C=>(go7 ?_));refine lX (xB ty9 (y2u (y2u pH)) D) λv8 r8=>?_;obtain⟨rfl,aq⟩:=jW r8;refine go1 ?_;refine lX (xB ty9 (y2u (y2u pH)) C) λbi ao=>?_;obtain⟨rfl,aa⟩:=jW ao;refine gv (zUL (pa:=a.2.2) (pb:=b.2.2) aq aa I I) I (gc2 (λH=>?_) λH=>?_)
 ·
  refine go3 ?_;refine lX (xB ty9 (y2u (y2u pH)) D) λbh an=>?_;obtain⟨rfl,Z⟩:=jW an;refine go1 ?_;refine lX (xB ty9 (y2u (y2u pH)) C) λbg am=>?_;obtain⟨rfl,U⟩:=jW am;refine gv (zUO (pa:=a.2.2) (pb:=b.2.2) Z U I I) I (go5 ?_);refine zD I I ?_;exact tB (Iff.of_eq (zae H).symm)
 have J:a.2.2=b.2.2:=zdi H;refine go9 ?_;refine gcL (ι:=Nat×Mem) (λ(i,ma)=>(MLe h0 ma/\((i<=a.2.1.length/\i<=b.2.1.length)/\∀u,u<i->rZ (a.2.1.getD u []) (b.2.1.getD u [])=0),[(2,vP b2 0),(3,vP b3 0),(5,vI ↑i)],[.var b3 83 ar,.var b2 83 au],ma,a.2.1.length-i)) (0,h0) ?_ ?_
 · exact⟨mle,by omega,λu h=>by omega⟩
 rintro⟨i,ma⟩ ⟨av,bn,hi2⟩
 refine yQ ?_;refine go5 ?_;refine lX (xB cD (y2u (y2i pH)) D) λbf bm=>(go2 ?_);refine gU 7 28 (vB (((↑i:Int)<(↑(a.2.1).length:Int))/\((↑i:Int)<(↑(b.2.1).length:Int)))) ?_ ?_
 ·
  refine yD ((↑i:Int)<(↑(a.2.1).length:Int)) (λM=>?_) (λM=>?_)
  ·
   refine gT M I (go5 ?_);refine lX (xB cD (y2u (y2i pH)) C) λbe bl=>(go6 ?_);refine gqU ?_;exact y0e (xS M)
  refine gF M I (go7 ?_);refine gqU ?_;exact y0e (xT M)
 refine gc2 (λO=>?_) λO=>?_
 ·
  refine go5 ?_;refine zK 12 _ [] (zai 0 10 [(10,.c),(11,.q)]) yC nX (wV zot) nX (λr hr=>hr) (go1 ?_);refine wX I (xB cD (y2u (y2i pH)) D) λbd ak=>(go1 ?_);refine wX I (xI [] i underlying81 fE ak) λbc aj=>(wX I (xA fE aj) λbb ai=>(go1 ?_));refine wX I (xB cD (y2u (y2i pH)) C) λba ah=>(go1 ?_);refine wX I (xI [] i underlying81 fE ah) λaz ae=>(wX I (xA fE ae) λay ad=>?_);refine w_c I (sC (ev2 I I) call178 (λw hs=>zCK hs ai ad) λab h1 bo ac=>?_);obtain rfl:ab=vI (rZ (a.2.1.getD i []) (b.2.1.getD i [])):=ac;have ap:=u6 (a.2.1.getD i []) (b.2.1.getD i []);refine gc9 (λG=>?_) λG=>?_
  ·
   refine rN ?_;refine zD I I ?_;exact tB ((zZA hi2 oM oM G).symm.trans (Iff.of_eq (zau J).symm))
  refine go8 ?_;refine gqL ((i+1),h1) ?_ ?_
  · exact⟨mle,by omega,qA (Q:=λu=>rZ (a.2.1.getD u []) (b.2.1.getD u [])=0) hi2 (zdi G)⟩
  omega
 have ei:i=min a.2.1.length b.2.1.length:=by omega
 refine go8 ?_;refine lX (xB cD (y2u (y2i pH)) D) λax bk=>(go2 ?_);refine lX (xB cD (y2u (y2i pH)) C) λaw bj=>(go6 ?_);refine zD I I ?_;exact tB (Iff.trans oM ((zVL hi2 ei).symm.trans (Iff.of_eq (zau J).symm)))
theorem zRT{m n:Nat}{vs:Value}{s:Pq}(rs:(tPl m n).Is h0 vs s)(hcd0:m<=10000000)(hcd1:n<=10000000):
 Calls prog 64 #[vs] w0 (Ret w0 h0 (λh r=>(tPl (4*m+10) (m+n+10)).Is h r (scZ s))):=by
 refine cb1 36 vs func64 hs ?_;refine go2 ?_;refine nB rs λb1 be G=>(nA (ρ:=(tPl 1 1)) (X:=(zT,(0:Rat))) sE (yF (xE (yE dC)) (yE dC)) λb2 bd ai=>(go9 ?_));refine gcL (ι:=Nat×Mem) (λ(i,ma)=>(MLe h0 ma/\(i<=3/\∀u,u<i->yW (s.1.at u)=0),[(1,vP b1 0),(2,vP b2 0),(3,vI ↑i)],[.var b2 80 bd,.var b1 80 be],ma,3-i)) (0,h0) ?_ ?_
 · exact⟨mle,by omega,λu h=>by omega⟩
 rintro⟨i,ma⟩ ⟨bg,bx,hi2⟩
 refine yQ ?_;refine gc7 (λbb=>?_) λbb=>?_
 ·
  refine go8 ?_;refine gv ((wE (sz:=3) i underlying53 sizeOf26 I I I oM).cv (show _=vP b1 ((i*3+0)) from zbi (vP b1) oM)) I (lX (xB yI (y2i (Pc.ta pH i oM)) G) λbw az=>(cL (ev1 I) call17 (λw hs=>uK hs az oM) λaj h1 ce ay=>?_));obtain rfl:aj=vI (yW (s.1.at i)):=ay;have ba:=wB (s.1.at i);refine gc3 (λD=>?_) λD=>?_
  ·
   refine go1 ?_;refine zK 13 _ [(10,(4,26,[.bool false,.slice none 0 0,.slice none 0 0]))] (zai 1 4 [(0,.c),(5,.c),(6,.c),(7,.q),(8,.q),(9,.q),(10,.a),(11,.c),(12,.q)]) yC (jZ.cons I I (qR yS I I) jZ.nil) (wV zot) (qU I I gM) (λr hr=>hr) (go2 ?_);refine wK I (λ_ _=>(wE (sz:=3) i underlying53 sizeOf26 I I I oM).cv (show _=vP b1 ((i*3+0)) from zbi (vP b1) oM)) I (wX I (xB yI (y2i (Pc.ta pH i oM)) G) λbu aw=>?_);refine w_c I (sC (vs:=[vI (1)]) ⟨I,y1i⟩ call39 (λw hs=>qP hs dC dC) λbv h2 cd ax=>?_);refine w_c I (sC (ev1 I) call29 (λw hs=>zNN hs aw.up oM) λbt h3 cc av=>?_);refine w_c I (sC (ev2 I I) call112 (λw hs=>zNM hs ax.up av oM) λbs h4 cb au=>?_);obtain⟨M,rfl,C⟩:=au
   change (rpQ (2+m)).Is h4 M (if(eZ (s.1.at i))=0 then 0 else(((1:Int):Int):Rat)/(eZ (s.1.at i))) at C
   replace C:=Rp.Is.le C (Le.q (l:=m+2) oM);refine go3 ?_;refine w_a I I (λb4=>?_);have ak:(rpQ 1).R h4 [.bool false,.slice none 0 0,.slice none 0 0] (0:Rat):=(yE dC);refine w_c I ?_;have ae:=(Le.q (l:=m+2) oM).R ak;refine rR (A:=[]) (uB sizeOf26 pH ae C) (xU zox) λbi J=>(go4 ?_);refine zK 9 _ [] [(0,.q),(1,.q),(2,.q),(4,.q),(5,.q),(6,.q),(3,.c),(7,.c),(8,.q),(9,.t)] yC nX zot nX (λr hr=>hr) (wX I (xB yI pH J) λbr ar=>(go1 ?_));refine wX I (xB zO (y2i pH) G) λbq aq=>(wX I (xB yI pH J) λbo ap=>(go1 ?_));refine wX I (xB yI (y2u pH) G) λbn ao=>?_;refine w_c I (sC (ev2 I I) call111 (λw hs=>zEG hs ar aq oM) λbp h5 ca ab=>?_);replace ab:=Rp.Is.le ab (Le.t (Le.q (l:=4*m+7) oM));refine w_c I (sC (ev2 I I) call9 (λw hs=>qO hs ap.up ao.up oM) λbm h6 bz aa=>?_);replace aa:=Rp.Is.le aa (Le.q (l:=m+n+2) oM);refine wX I (xV (ρ:=(tPl (4*m+7) (m+n+2))) (xK (ps':=[(0,_),(1,_)]) underlying80 sE I I (sJ underlying80) e4z I (yF (xE (yE oM)) (yE oM)) (zC I (y2i (y1u _)) ab.up (zC I (y2u (y1u _)) aa zN)))) λbl an=>?_;have ad:=(Le.p (Le.t (Le.q (l:=4*m+7) oM)) (Le.q (l:=m+n+2) oM)).R ai;refine yJ (A:=[_]) I (uB sizeOf80 pH ad an) λbh ah=>(go8 ?_);refine xW (jA (t:=2) iU mh1 I ah) ?_;intro bj ac U;refine yG (λE S=>zQ I ac E S) ?_;exact(Rp.Is.cast (Rp.Is.le U (Le.p (Le.t (Le.q (l:=4*m+10) oM)) (Le.q (l:=m+n+10) oM))) (by exact yFY oM hi2 D))
  refine go8 ?_;refine gqL ((i+1),h1) ?_ ?_
  · exact⟨mle,by omega,qA (Q:=λu=>yW (s.1.at u)=0) hi2 (zdi D)⟩
  omega
 have ei:i=3:=by omega
 refine go7 ?_;refine lX (xV (ρ:=(tPl 1 1)) (xK (ps':=[]) underlying80 sE I I (sJ underlying80) trivial I (yF (xE (yE dC)) (yE dC)) zN)) λbk am=>(zV (A:=[]) (uB sizeOf80 pH ai am) λbc Z=>(go3 ?_));refine xW (jA (t:=2) iU mh0 I Z) ?_;intro bf H O;refine yG (λE S=>zQ I H E S) ?_;exact(Rp.Is.cast (Rp.Is.le O (Le.p (Le.t (Le.q (l:=4*m+10) oM)) (Le.q (l:=m+n+10) oM))) (by exact yCW λu hu=>hi2 u oM))
theorem zKV{vx:Value}{x:(List Int)}(rx:(rpS rpI).Is h0 vx x)(hcd0:x.length<=100000):
 Calls prog 65 #[vx] w0 (Ret w0 h0 (λh r=>(rpS rpI).Is h r (zJ3 x x.length))):=by
 refine cb1 20 vx func65 hs ?_;refine go20 ?_;refine xC 3 1 ?_;have O:=RL.nil (ρ:=rpI) (h:=h0);refine gcL (ι:=Nat×List Int×Value×List Value×Mem) (λ(i,D,C,G,ma)=>(MLe h0 ma/\(RL rpI ma G D/\i<=x.length/\D=zJ3 x i),[(0,vx),(3,C),(4,vI (↑x.length-1-↑i))],[.gs 3 1 C D.length G],ma,x.length-i)) (0,[],(.slice none 0 0),[],h0) ?_ ?_ (he:=⟨I,I,zbi (λz=>some (vI z)) oM,y1i⟩)
 · exact⟨mle,O,by omega,I⟩
 rintro⟨i,D,C,G,ma⟩ ⟨aj,H,au,hD⟩
 refine yQ ?_;have av:D.length=i:=by rw[hD];exact xH _ _
 refine gc7 (λah=>?_) λah=>?_
 ·
  refine go8 ?_;refine lX (xI (0:Int) (x.length-1-i) underlying32 ty3 rx) λap ad=>(lX (xA ty3 ad) λao ac=>?_);obtain⟨rfl,ak,ai⟩:=kF ac;refine zF (zL (ρ:=rpI) (m:=1) (xs:=[(x.getD (x.length-1-i) (0:Int))]) (ps':=[(0,_)]) underlying32 jJ I I I wN e2z (zC I (y1e (y1u _) (0:Int) 0 dC) (wA oM oM) zN) zoj nP) I I I ?_
  rintro an ar ⟨am,rfl,Z⟩
  refine zW (A:=[]) (ρ:=rpI) Z ?_;intro h1 ae M;refine xL (A:=[]) (yA (ρ:=rpI) (bytes:=8) underlying32 jJ I I I I nP I I H.up M bO bO) I I I ?_
  rintro ab aq ⟨aa,rfl,U⟩
  refine go9 ?_;refine gqL ((i+1),(D++[(x.getD (x.length-1-i) (0:Int))]),ab,aa,h1) ?_ ?_ (he:=⟨I,I,zbi (λz=>some (vI z)) oM,y1i⟩)
  · exact⟨mle,U,by omega,by rw[hD];rfl⟩
  omega
 have ei:i=x.length:=by omega
 refine uV ?_;refine xP (A:=[]) (ρ:=rpI) H.up ?_;intro h1 ae J;refine zD I I ?_;exact(Rp.Is.cast J (by rw[hD,ei]))
theorem zRU{k m n j:Nat}{vs:Value}{s:Sq}(rs:(tSd k m n j).Is h0 vs s)(hcd0:k<=1000)(hcd1:okS s)(hcd2:nmA s):
 Calls prog 127 #[vs] w0 (Ret w0 h0 (λh r=>(rpS rpI).Is h r (bK s s.1.length))):=by
 have dx:=hcd1.1.1.1;have dw:=hcd1.1.1.2;have be:=tW s;refine cb1 80 vs func127 hs ?_;refine go2 ?_;refine nB rs λb1 ba aj=>(go6 ?_);refine lX (xB uS (y2i pH) aj) λdq dt=>(go1 ?_);refine zF (iM (ρ:=rpB) (X:=False) (by':=1) s.1.length underlying189 yAS I I I I zr_b I I zo0 zo0 bO bO) I I I ?_
 rintro bs du ⟨bn,rfl,bd⟩
 refine go5 ?_;refine lX (xB jH pH aj) λdp ci=>(cL (ev1 I) call159 (λw hs=>zG1 hs ci (by first|omega|exact hcd1.mem) (by first|omega|exact hcd1.mem)) λdn h1 eb ch=>(cL (ev1 I) call174 (λw hs=>zEE hs ch (by first|omega|exactλf hf=>(by rw[be] at hf;rw[nM hf];exact hcd1.2.1 f hf)) (by first|omega|exactλf hf=>(by rw[be] at hf;rw[nM hf];exact hcd1.2.1 f hf))) λbr h2 ea cg=>(go6 ?_)));have ec:=zZX hcd1;have hE:∀q,q<(edZ (vT s)).length->0<=((edZ (vT s)).getD q e50).1/\((edZ (vT s)).getD q e50).1<↑s.1.length:=λq hq=>zSE hcd2 hq;refine go4 ?_;refine gcL (ι:=Nat×List Prop×Value×List Value×Mem) (λ(i,U,C,O,ma)=>(MLe h2 ma/\(RL rpB ma O U/\(i<=(edZ (vT s)).length/\U.length=s.1.length)/\∀u,u<s.1.length->(U.getD u False↔zHR (edZ (vT s)) i u)),[(1,vP b1 0),(3,C),(4,br),(5,vI ↑i)],[.gs 4 1 C U.length O,.var b1 50 ba],ma,(edZ (vT s)).length-i)) (0,(List.replicate s.1.length False),bs,bn,h2) ?_ ?_
 · exact⟨mle,bd.up,⟨by omega,z4i⟩,λu h=>by rw[zRC h];exact⟨False.elim,λ⟨q,h,_⟩=>by omega⟩⟩
 rintro⟨i,U,C,O,ma⟩ ⟨cw,ak,⟨dy,bj⟩,bi⟩
 refine yQ ?_;refine gc9 (λbh=>?_) λbh=>?_
 ·
  refine go8 ?_;refine lX (xI e50 i underlying190 dB cg) λdm cf=>(lX (xF underlying193 sizeOf3 (y2i pH) cf) λdl ce=>(lX (xA ty3 ce) λdk cd=>?_));obtain⟨rfl,cz,cq⟩:=kF cd;refine gv ((yZ (((edZ (vT s)).getD i e50).1.toNat) mh0 underlying189 sizeOf4 I I (by(have:=hE i oM;omega)) (by(have:=hE i oM;omega)) nP).cv (show _=zM 1 C ((((edZ (vT s)).getD i e50).1.toNat*1+0)) from zbi (zM 1 C) zo0)) I (kM (A:=[]) (F:=λc_=>RL rpB ma c_ (U.set (((edZ (vT s)).getD i e50).1.toNat) True)) (sT sizeOf4 (y1e (y1u _) False (((edZ (vT s)).getD i e50).1.toNat) (by(have:=hE i oM;omega))) I nP I I ak (yGJ) I) ?_);intro bk bc;refine go8 ?_;refine gqL ((i+1),(U.set (((edZ (vT s)).getD i e50).1.toNat) True),C,bk,ma) ?_ ?_
  · exact⟨mle,bc,⟨by omega,by rw[lS];exact bj⟩,zSW bj bi (hE i oM).1 (hE i oM).2⟩
  omega
 have av:∀u,u<s.1.length->(U.getD u False↔zHR (edZ (vT s)) (edZ (vT s)).length u):=λu hu=>by rw[show(edZ (vT s)).length=i by omega];exact bi u hu
 refine oO ?_;refine xC 3 1 ?_;have bb:=RL.nil (ρ:=rpI) (h:=ma);refine gcL (ι:=Nat×List Int×Value×List Value×Mem) (λ(i,D,H,M,mb)=>(MLe ma mb/\(RL rpI mb M D/\i<=s.1.length/\D=bK s i),[(1,vP b1 0),(3,C),(6,H),(7,vI ↑i)],[.gs 3 1 H D.length M,.gs 4 1 C U.length O,.var b1 50 ba],mb,s.1.length-i)) (0,[],(.slice none 0 0),[],ma) ?_ ?_
 · exact⟨mle,bb,by omega,I⟩
 rintro⟨i,D,H,M,mb⟩ ⟨cu,J,hi2,hD⟩
 refine yQ ?_;have ed:D.length<=i:=by rw[hD];exact zNG s i
 refine go5 ?_;refine lX (xB uS (y2i pH) aj) λdj dr=>(gc4 (λbg=>?_) λbg=>?_)
 ·
  refine go9 ?_;refine gv ((yZ i mh1 underlying189 sizeOf4 I I I bO nP).cv (show _=zM 1 C ((i*1+0)) from zbi (zM 1 C) zo0)) I (zLK (F:=λv_=>rpB.Is mb v_ (U.getD i False)) (vH ty4 (y1e (y1u _) False i bO) I nP I ak.up I) (sL mh1) I ?_);intro di cc;obtain rfl:=of_b cc;refine gc3 (λae=>?_) λae=>?_
  ·
   refine go9 ?_;refine gqL ((i+1),D,H,M,mb) ?_ ?_
   · exact⟨mle,J,by omega,by rw[hD];exact(zae (λe=>ae ((av i oM).2 e))).symm⟩
   omega
  refine go5 ?_;refine gv (gV mh0 underlying32 I) I (go5 ?_);refine gcL (ι:=Nat×Mem) (λ(G,mk)=>(MLe mb mk/\(G<=D.length/\bS (zRM s D i) D.length=bS (zRM s D i) G),[(1,vP b1 0),(3,C),(6,H),(7,vI ↑i),(8,vI ↑G)],[.gs 3 1 H D.length M,.gs 4 1 C U.length O,.var b1 50 ba],mk,G)) (D.length,mb) ?_ ?_ (he:=e5)
  · exact⟨mle,by omega,I⟩
  rintro⟨G,mk⟩ ⟨ct,dv,ax⟩
  refine yQ ?_;refine go2 ?_;refine zK 19 _ [] (zai 0 17 [(17,.c),(18,.q)]) yC nX (wV zot) nX (λr hr=>hr) (go3 ?_);refine fL ((0:Int)<(↑G:Int)) (λac=>?_) (λac=>?_)
  ·
   rw[xR ac];refine go1 ?_;refine oX I (xB uS (y2i pH) aj) λdh cb=>(yU I I I (λh' L' hh hR=>yY I) I (oX I (xI zT i underlying46 zO cb) λdf ca=>(oX I (xA zO ca) λde bz=>(go1 ?_))));refine oX I (xB uS (y2i pH) aj) λdd bx=>(yU I I I (λh' L' hh hR=>yY I) I (yU I I I (λh' L' hh hR=>yY I) I (go1 ?_)));refine yU I I I (λh' L' hh hR=>(yZ (G-1) (hR _ mh0) underlying32 sizeOf3 I I oM oM nP).cv (show _=zM 1 H (((G-1)*1+0)) from zbi (zM 1 H) zo0)) I (aL (F:=λv_=>rpI.Is mk v_ (D.getD (G-1) (0:Int))) I I I (vH ty3 (y1e (y1u _) (0:Int) (G-1) oM) I nP I J.up I) (sL mh0) I ?_);intro dc bw;obtain⟨rfl,cy,cp⟩:=kF bw;refine aL (F:=λv_=>AtP (tPt k) mk v_ (s.1.getD ((D.getD (G-1) 0).toNat) zT)) I I I (rT zT ((D.getD (G-1) 0).toNat) underlying46 zO I I bx (by(have:=mG (s:=s) (i:=i) (k:=G-1) (by rw[<-hD];omega);rw[<-hD] at this;omega)) (by(have:=mG (s:=s) (i:=i) (k:=G-1) (by rw[<-hD];omega);rw[<-hD] at this;omega)) nP) zBT I ?_;intro db bv;refine oX I (xA zO bv) λda bu=>?_;refine w_c I (bH I I (sC (ev2 I I) call175 (λw hs=>zUY hs bz bu oM oM) λbq h3 bf bt=>?_));obtain rfl:bq=vB (lsP (s.1.getD i zT) (s.1.getD ((D.getD (G-1) 0).toNat) zT)):=bt;refine gc3 (λad=>?_) λad=>?_
   ·
    refine go9 ?_;refine gqL ((G-1),h3) ?_ ?_ (he:=⟨I,I,I,I,zbi (λz=>some (vI z)) oM,y1i⟩)
    · exact⟨mle,by omega,by rw[ax];exact zOT oM ad⟩
    omega
   refine go8 ?_;refine zF (zL (ρ:=rpI) (m:=1) (xs:=[(0:Int)]) (ps':=[(0,_)]) underlying32 jJ I I I wN e2z (zC I (y1e (y1u _) (0:Int) 0 dC) (wA dC dC) zN) zoj nP) I I I ?_
   rintro bp cl ⟨bm,rfl,ai⟩
   refine zW (A:=[]) (ρ:=rpI) ai ?_;intro h4 dz ao;refine xL (A:=[]) (yA (ρ:=rpI) (bytes:=8) underlying32 jJ I I I I nP I I J.up ao bO bO) I I I ?_
   rintro Z ck ⟨bl,rfl,ah⟩
   refine go4 ?_;refine aE (A:=[]) (by rw[lAz];exact yuu _) (λob co aa ab=>?_);refine jD (A:=[]) 8 [] (zai 0 7 [(7,.c)]) yC nX zot nX (go3 ?_);refine wK I (λ_ _=>qM (G+1) underlying32 sizeOf3 I I ⟨_,_,aa,ab⟩ oM zoz) I (go2 ?_);refine wK I (λ_ _=>qM G underlying32 sizeOf3 I I ⟨_,_,aa,ab⟩ oM zoz) I ?_;refine w_c I (gR (A:=[]) (λX=>lP (ρ:=rpI) G aa ab underlying32 sizeOf3 I I zoz ah) I (xU zox) ?_)
   rintro bo cj ⟨cn,rfl,au⟩
   refine go6 ?_;refine gv ((yZ G mh0 underlying32 sizeOf3 I I oM (by rw[gQ zoz];simp only[lAz,lC,lN];omega) nP).cv (show _=zM 1 Z ((G*1+0)) from zbi (zM 1 Z) zo0)) I (kM (A:=[]) (F:=λc_=>RL rpI h4 c_ ((tG (D++[(0:Int)]) G).set G (↑i:Int))) (sT sizeOf3 (y1e (y1u _) (0:Int) G (by rw[gQ zoz];simp only[lAz,lC,lN];omega)) I nP I I au (wA oM oM) I) ?_);intro az ar;refine go8 ?_;refine gqL ((i+1),((tG (D++[(0:Int)]) G).set G (↑i:Int)),Z,az,h4) ?_ ?_
   · exact⟨mle,ar,by omega,by rw[lL oM];have aw:bS (zRM s D i) D.length=G:=by{rw[ax];exact zFJ (λe=>by first|omega|exact ad e.2)};rw[<-aw,hD];exact(zau ((av i oM).1 (zdi ae))).symm⟩
   omega
  rw[yV ac];refine sN ?_;refine w_c I (s4 I I I I (uV ?_));refine zF (zL (ρ:=rpI) (m:=1) (xs:=[(0:Int)]) (ps':=[(0,_)]) underlying32 jJ I I I wN e2z (zC I (y1e (y1u _) (0:Int) 0 dC) (wA dC dC) zN) zoj nP) I I I ?_
  rintro bp cl ⟨bm,rfl,ai⟩
  refine zW (A:=[]) (ρ:=rpI) ai ?_;intro h3 bf an;refine xL (A:=[]) (yA (ρ:=rpI) (bytes:=8) underlying32 jJ I I I I nP I I J.up an bO bO) I I I ?_
  rintro Z ck ⟨bl,rfl,ah⟩
  refine go4 ?_;refine aE (A:=[]) (by rw[lAz];exact yuu _) (λob co aa ab=>?_);refine jD (A:=[]) 8 [] (zai 0 7 [(7,.c)]) yC nX zot nX (go3 ?_);refine wK I (λ_ _=>qM (G+1) underlying32 sizeOf3 I I ⟨_,_,aa,ab⟩ oM zoz) I (go2 ?_);refine wK I (λ_ _=>qM G underlying32 sizeOf3 I I ⟨_,_,aa,ab⟩ oM zoz) I ?_;refine w_c I (gR (A:=[]) (λX=>lP (ρ:=rpI) G aa ab underlying32 sizeOf3 I I zoz ah) I (xU zox) ?_)
  rintro bo cj ⟨cm,rfl,aq⟩
  refine go6 ?_;refine gv ((yZ G mh0 underlying32 sizeOf3 I I oM (by rw[gQ zoz];simp only[lAz,lC,lN];omega) nP).cv (show _=zM 1 Z ((G*1+0)) from zbi (zM 1 Z) zo0)) I (kM (A:=[]) (F:=λc_=>RL rpI h3 c_ ((tG (D++[(0:Int)]) G).set G (↑i:Int))) (sT sizeOf3 (y1e (y1u _) (0:Int) G (by rw[gQ zoz];simp only[lAz,lC,lN];omega)) I nP I I aq (wA oM oM) I) ?_);intro ay ap;refine go8 ?_;refine gqL ((i+1),((tG (D++[(0:Int)]) G).set G (↑i:Int)),Z,ay,h3) ?_ ?_
  · exact⟨mle,ap,by omega,by rw[lL oM];have aw:bS (zRM s D i) D.length=G:=by{rw[ax];exact zFJ (λe=>by first|omega|exact ad e.2)};rw[<-aw,hD];exact(zau ((av i oM).1 (zdi ae))).symm⟩
  omega
 have ei:i=s.1.length:=by omega
 refine uV ?_;refine xP (A:=[]) (ρ:=rpI) J.up ?_;intro h3 bf am;refine zD I I ?_;exact(Rp.Is.cast am (by rw[hD,ei]))
theorem zEH{k m n j:Nat}{vs:Value}{s:Sq}(rs:(tSd k m n j).Is h0 vs s){f:Nat}{vix:Value}{ix:(List Int)}(rix:(rpS rpI).Is h0 vix ix)(hcd0:k<=1000)(hcd1:m<=100000)(hcd2:n<=100000)(hcd3:okS s)(hcd4:f<s.2.1.length)(hcd5:nmP s f)(hcd6:ix.length=s.1.length):
 Calls prog 128 #[vs,vI ↑f,vix] w0 (Ret w0 h0 (λh r=>(tFc (4*m+11) (m+n+11)).Is h r (nfF s ix f))):=by
 have id:=hcd3.1.1.1;have ic:=hcd3.1.1.2;have eu:=zDG s f;have ik:=yEK hcd4 hcd5;have cj:=hcd3.2.1 f hcd4;have ew:=nR (s:=s) (f:=↑f) hcd3.2.1;refine cb3 121 vs (vI ↑f) vix func128 hs ?_;refine go2 ?_;refine nB rs λb3 au ak=>(nA (ρ:=(tFc 1 1)) (X:=((zT,(0:Rat)),([],([]:List Nat)))) qI (yF (yF (xE (yE dC)) (yE dC)) (yF wJ kB)) λb6 ar dc=>(go4 ?_));refine lX (xB jH pH ak) λhp eo=>(go1 ?_);refine cL (ev2 I I) call176 (λw hs=>zKX (f:=f) hs eo oM oM oM (by first|omega|exact hcd3.big) (by first|omega|exact hcd3.big) (by first|omega|exact hcd3.big) (by first|omega|exact hcd3.big)) λao h1 ij en=>(go4 ?_);refine zK 15 _ [(14,(8,83,[.bool false,.slice none 0 0,.slice none 0 0,.bool false,.slice none 0 0,.slice none 0 0,.bool false,.slice none 0 0,.slice none 0 0,.bool false,.slice none 0 0,.slice none 0 0,.slice none 0 0,.string ⟨#[]⟩]))] (zai 0 6 (zai 7 6 [(6,.c),(13,.q),(14,.a),(15,.t)])) yC (jZ.cons I I (qR qI I I) jZ.nil) (wV zot) (qU I I gM) (λr hr=>hr) (go1 ?_);refine wX I (xB gK (y2u (y2i pH)) ak) λho em=>(go1 ?_);refine wX I (xI zA f underlying47 fD em) λhn el=>(wX I (xF underlying83 sizeOf80 (y2i pH) el) λhm ek=>(wX I (xA iU ek) λhl ej=>(go1 ?_)));refine wX I (xB gK (y2u (y2i pH)) ak) λhj eg=>(go1 ?_);refine wX I (xI zA f underlying47 fD eg) λhf ef=>(wX I (xF underlying83 sizeOf9 (y2u (y2u pH)) ef) λhd ee=>(wX I (xA ty9 ee) λhc ed=>?_));obtain⟨rfl,cp⟩:=jW ed;refine w_c I (sC (ev1 I) call64 (λw hs=>zRT hs ej oM oM) λhk h2 ii eh=>(wX I (xV (ρ:=(rpP (tPl (4*m+10) (m+n+10)) (rpP rpV kD))) (xK (ps':=[(0,_),(2,_)]) underlying83 qI I I (cI underlying83) e4z I (yF (yF (xE (yE oM)) (yE oM)) (yF sR kB)) (zC I (y2i (y1u _)) eh (zC I (y2u (y2u (y1u _))) (pS cp) zN)))) λha ec=>?_));refine w_a I I (λb8=>?_);have db:(rpP (tPl 1 1) (rpP rpV kD)).R h2 [.bool false,.slice none 0 0,.slice none 0 0,.bool false,.slice none 0 0,.slice none 0 0,.bool false,.slice none 0 0,.slice none 0 0,.bool false,.slice none 0 0,.slice none 0 0,.slice none 0 0,.string ⟨#[]⟩] ((zT,(0:Rat)),((Value.slice none 0 0),([]:List Nat))):=(yF (yF (xE (yE dC)) (yE dC)) (yF sR kB));have bx:=(Le.p (Le.p (Le.t (Le.q (l:=4*m+10) oM)) (Le.q (l:=m+n+10) oM)) (Le.refl _)).R db;refine yJ (A:=[]) I (uB sizeOf83 pH bx ec) λcq cf=>(sN ?_);refine xC 32 1 ?_;have ca:=RL.nil (ρ:=rpS rpI) (h:=h2);refine xC 32 1 ?_;have bz:=RL.nil (ρ:=rpS rpI) (h:=h2);refine gcL (ι:=Nat×List (List Int)×List (List Int)×List Value×Value×List Value×Value×List Value×Mem) (λ(i,D,G,U,C,M,H,J,ma)=>(MLe h2 ma/\((rpP (tPl (4*m+11) (m+n+11)) (rpP rpV kD)).R ma U (scZ (s.2.1.getD f zA).1,(H,(s.2.1.getD f zA).2.2))/\RL (rpS rpI) ma M D/\RL (rpS rpI) ma J G/\H.oneCell'=true/\i<=(s.2.1.getD f zA).2.1.length/\D=w9 s ix f i/\G=ouL s ix f i),[(1,vI ↑f),(2,vix),(3,vP b3 0),(6,vP b6 0),(7,ao),(8,vP b8 0),(9,C),(10,vI ↑i)],[.gs 32 1 H G.length J,.gs 32 1 C D.length M,.var b8 83 U,.var b6 83 ar,.var b3 50 au],ma,(s.2.1.getD f zA).2.1.length-i)) (0,[],[],cq,(.slice none 0 0),[],(.slice none 0 0),[],h2) ?_ ?_
 · exact⟨mle,((Le.p (Le.p (Le.t (Le.q (l:=4*m+11) oM)) (Le.q (l:=m+n+11) oM)) (Le.refl _)).R cf),ca,bz,I,by omega,I,I⟩
 rintro⟨i,D,G,U,C,M,H,J,ma⟩ ⟨ft,ab,aa,ad,bp,ie,hD,hG⟩
 refine yQ ?_;have io:D.length<=i:=by rw[hD];exact zOJ s ix f i
 have il:G.length<=i:=by rw[hG];exact rQ _ _ i
 refine gc9 (λco=>?_) λco=>?_
 ·
  refine zBY ?_;refine xC 3 1 ?_;have bg:=RL.nil (ρ:=rpI) (h:=ma);refine gcL (ι:=Nat×List Int×Value×List Value×Mem) (λ(q,EL,Z,ah,mb)=>(MLe ma mb/\(RL rpI mb ah EL/\q<=((s.2.1.getD f zA).2.1.getD i []).length/\EL=nwL s ix f i q),[(1,vI ↑f),(2,vix),(3,vP b3 0),(6,vP b6 0),(7,ao),(8,vP b8 0),(9,C),(10,vI ↑i),(11,Z),(12,vI ↑q)],[.gs 3 1 Z EL.length ah,.gs 32 1 H G.length J,.gs 32 1 C D.length M,.var b8 83 U,.var b6 83 ar,.var b3 50 au],mb,((s.2.1.getD f zA).2.1.getD i []).length-q)) (0,[],(.slice none 0 0),[],ma) ?_ ?_
  · exact⟨mle,bg,by omega,I⟩
  rintro⟨q,EL,Z,ah,mb⟩ ⟨fs,aj,ia,hE⟩
  refine yQ ?_;have im:EL.length=q:=by rw[hE];exact xH _ _
  have ci:=cj.2 i oM;refine go5 ?_;refine lX (xB gK (y2u (y2i pH)) ak) λgz eb=>(go1 ?_);refine lX (xI zA f underlying47 fD eb) λgy ea=>(lX (xF underlying83 sizeOf81 (y2u (y2i pH)) ea) λgx dz=>(lX (xA cD dz) λgw dy=>(go1 ?_)));refine lX (xI [] i underlying81 fE dy) λgu dx=>(lX (xA fE dx) λgt hq=>(gc4 (λcn=>?_) λcn=>?_))
  ·
   refine go8 ?_;refine lX (xB gK (y2u (y2i pH)) ak) λgr dw=>(go1 ?_);refine lX (xI zA f underlying47 fD dw) λgq dv=>(lX (xF underlying83 sizeOf81 (y2u (y2i pH)) dv) λgo du=>(lX (xA cD du) λgn dt=>(go1 ?_)));refine lX (xI [] i underlying81 fE dt) λgm dr=>(lX (xA fE dr) λgk dq=>(go1 ?_));refine lX (xI (0:Int) q underlying32 ty3 dq) λgj dp=>(lX (xA ty3 dp) λgi dn=>?_);obtain⟨rfl,fv,fp⟩:=kF dn;refine zLK (F:=λv_=>AtP rpI mb v_ (ix.getD ((((s.2.1.getD f zA).2.1.getD i []).getD q 0).toNat) (0:Int))) (rT (0:Int) ((((s.2.1.getD f zA).2.1.getD i []).getD q 0).toNat) underlying32 ty3 I I rix.up (by(have:=hcd5 i oM q oM;omega)) (by(have:=hcd5 i oM q oM;omega)) nP) zBT I ?_;intro gh dm;refine lX (xA ty3 dm) λgg dl=>?_;obtain⟨rfl,fu,fo⟩:=kF dl;refine zF (zL (ρ:=rpI) (m:=1) (xs:=[(ix.getD ((((s.2.1.getD f zA).2.1.getD i []).getD q 0).toNat) (0:Int))]) (ps':=[(0,_)]) underlying32 jJ I I I wN e2z (zC I (y1e (y1u _) (0:Int) 0 dC) (wA oM oM) zN) zoj nP) I I I ?_
   rintro gf hw ⟨fx,rfl,ce⟩
   refine zW (A:=[]) (ρ:=rpI) ce ?_;intro h3 cm bc;refine xL (A:=[]) (uW (yA (ρ:=rpI) (bytes:=8) underlying32 jJ I I I I nP I I aj.up bc bO bO)) I I I ?_
   rintro da hv ⟨fq,cu,rfl,cd⟩
   refine go9 ?_;refine gqL ((q+1),(EL++[(ix.getD ((((s.2.1.getD f zA).2.1.getD i []).getD q 0).toNat) (0:Int))]),da,cu,h3) ?_ ?_
   · exact⟨mle,cd,by omega,by rw[hE];rfl⟩
   omega
  have eq:q=((s.2.1.getD f zA).2.1.getD i []).length:=by omega
  have ci:=cj.2 i oM;refine go8 ?_;refine zW (A:=[]) (ρ:=rpI) aj.up ?_;intro h3 cm bb;refine cL (ev1 I) call177 (λw hs=>zNQ hs bb oM) λbw h4 cl am=>?_;replace am:=Rp.Is.cast (y:=(nfL s ix f i)) am (by rw[hE,eq];rfl);refine go8 ?_;refine lX (xI [] i underlying115 uS en) λge dk=>(lX (xA uS dk) λgc dj=>(cL (ev1 I) call170 (λw hs=>rM hs dj oM (by first|omega|(have:=ew.2 i;rw[<-eu.2 i] at this;omega))) λgb h5 ih di=>(cL (ev1 I) call17 (λw hs=>uK hs di dC) λcz h6 ig dh=>?_)));obtain rfl:cz=vI (yW (uG ((tQ s f).getD i []) 0 1 ((tQ s f).getD i []).length)):=dh;have ep:=wB (uG ((tQ s f).getD i []) 0 1 ((tQ s f).getD i []).length);refine gc3 (λac=>?_) λac=>?_
  ·
   refine go3 ?_;refine lX (bY (xB cD (y2u (y2i pH)) ab)) λga df=>?_;subst df;refine go1 ?_;refine zF (zL (ρ:=(rpS rpI)) (m:=1) (xs:=[(nfL s ix f i)]) (ps':=[(0,_)]) underlying81 jC I I I wJ e2z (zC I (y1e (y1u _) [] 0 dC) am.up zN) zoj nP) I I I ?_
   rintro fz hu ⟨fw,rfl,cc⟩
   refine zW (A:=[]) (ρ:=(rpS rpI)) cc ?_;intro h7 br ba;refine xL (A:=[]) (uW (yA (ρ:=(rpS rpI)) (bytes:=24) underlying81 jC I I I I nP I I ad.up ba bO bO)) I I I ?_
   rintro cy ht ⟨av,ct,rfl,cb⟩
   refine go1 ?_;refine zV (A:=[_,_]) (uB sizeOf81 (y2u (y2i pH)) ab (zBX av)) λbu bm=>(qG ?_);refine gqL ((i+1),D,(G++[(nfL s ix f i)]),bu,C,M,cy,ct,h7) ?_ ?_
   · exact⟨mle,bm,aa.up,cb,av,by omega,by rw[hD];exact(zau ac).symm,by rw[hG];exact s1 (p:=zCU s f) ac⟩
   omega
  refine go5 ?_;refine gv (gV mh1 underlying81 I) I (go5 ?_);refine gcL (ι:=Nat×Mem) (λ(O,mk)=>(MLe h6 mk/\(O<=D.length/\bS (zV5 (nfL s ix f i) D) D.length=bS (zV5 (nfL s ix f i) D) O),[(1,vI ↑f),(2,vix),(3,vP b3 0),(6,vP b6 0),(7,ao),(8,vP b8 0),(9,C),(10,vI ↑i),(11,bw),(13,vI ↑O)],[.gs 32 1 H G.length J,.gs 32 1 C D.length M,.var b8 83 U,.var b6 83 ar,.var b3 50 au],mk,O)) (D.length,h6) ?_ ?_
  · exact⟨mle,by omega,I⟩
  rintro⟨O,mk⟩ ⟨fr,ib,ck⟩
  refine yQ ?_;refine go5 ?_;refine uZ (ι:=Mem) 10 (λm_=>MLe mk m_) (λ_=>[(97,vB (((0:Int)<(↑O:Int))/\((rZ (nfL s ix f i) (D.getD (O-1) []))<(0:Int)))),(1,vI ↑f),(2,vix),(3,vP b3 0),(6,vP b6 0),(7,ao),(8,vP b8 0),(9,C),(10,vI ↑i),(11,bw),(13,vI ↑O)]) (λ_=>[.gs 32 1 H G.length J,.gs 32 1 C D.length M,.var b8 83 U,.var b6 83 ar,.var b3 50 au]) (λm_=>m_) ?_ ?_
  ·
   refine yD ((0:Int)<(↑O:Int)) (λhg=>?_) (λhg=>?_)
   ·
    refine gT hg I (go9 ?_);refine gv ((yZ (O-1) mh1 underlying81 sizeOf32 I I oM oM nP).cv (show _=zM 1 C (((O-1)*1+0)) from zbi (zM 1 C) zo0)) I (go1 ?_);refine zLK (F:=λv_=>(rpS rpI).Is mk v_ (D.getD (O-1) [])) (vH fE (y1e (y1u _) [] (O-1) oM) I nP I aa.up I) (sL mh1) I ?_;intro fy de;refine go1 ?_;refine cL (ev2 I I) call178 (λw hs=>zCK hs am.up de) λcw h7 br dd=>?_;obtain rfl:cw=vI (rZ (nfL s ix f i) (D.getD (O-1) [])):=dd;have ev:=u6 (nfL s ix f i) (D.getD (O-1) []);refine go4 ?_;refine zS h7 br ⟨?_,I,I,I,I,I,I,I,I,I,I,y1i⟩ I I;exact y0e (xS hg)
   refine gF hg I (uQ ?_);refine zS mk (MLe.refl _) ⟨?_,I,I,I,I,I,I,I,I,I,I,y1i⟩ I I;exact y0e (xT hg)
  intro ap bv;refine sD ?_;refine gc2 (λan=>?_) λan=>?_
  ·
   refine go9 ?_;refine gqL ((O-1),ap) ?_ ?_ (he:=⟨I,I,I,I,I,I,I,I,I,zbi (λz=>some (vI z)) oM,y1i⟩)
   · exact⟨mle,by omega,by rw[ck];exact zOT oM an.2⟩
   omega
  refine go8 ?_;refine zF (zL (ρ:=(rpS rpI)) (m:=1) (xs:=[[]]) (ps':=[(0,_)]) underlying81 jC I I I wJ e2z (zC I (y1e (y1u _) [] 0 dC) (aC _) zN) zoj nP) I I I ?_
  rintro fi fm ⟨fc,rfl,bj⟩
  refine zW (A:=[]) (ρ:=(rpS rpI)) bj ?_;intro h7 br az;refine xL (A:=[_]) (uW (yA (ρ:=(rpS rpI)) (bytes:=24) underlying81 jC I I I I nP I I aa.up az bO bO)) I I I ?_
  rintro ai fl ⟨er,fb,rfl,bi⟩
  refine go4 ?_;refine aE (A:=[_]) (by rw[lAz];exact yuu _) (λob ip bn bo=>?_);refine jD (A:=[_]) 8 [] (zai 0 7 [(7,.c)]) yC nX zot nX (go3 ?_);refine wK I (λ_ _=>qM (O+1) underlying81 sizeOf32 I I ⟨_,_,bn,bo⟩ oM zoz) I (go2 ?_);refine wK I (λ_ _=>qM O underlying81 sizeOf32 I I ⟨_,_,bn,bo⟩ oM zoz) I ?_;refine w_c I (gR (A:=[_]) (λX=>lP (ρ:=(rpS rpI)) O bn bo underlying81 sizeOf32 I I zoz bi) I (xU zox) ?_)
  rintro fh fk ⟨ez,rfl,bf⟩
  refine go6 ?_;refine gv ((yZ O mh1 underlying81 sizeOf32 I I oM (by rw[gQ zoz];simp only[lAz,lC,lN];omega) nP).cv (show _=zM 1 ai ((O*1+0)) from zbi (zM 1 ai) zo0)) I (kM (A:=[_]) (F:=λc_=>RL (rpS rpI) h7 c_ ((tG (D++[[]]) O).set O (nfL s ix f i))) (sT sizeOf32 (y1e (y1u _) [] O (by rw[gQ zoz];simp only[lAz,lC,lN];omega)) I nP I I bf am.up I) ?_);intro bt be;refine go8 ?_;refine gqL ((i+1),((tG (D++[[]]) O).set O (nfL s ix f i)),G,U,ai,bt,H,J,h7) ?_ ?_
  · exact⟨mle,ab.up,be,ad.up,bp,by omega,by rw[lL oM];have es:bS (zV5 (nfL s ix f i) D) D.length=O:=by{rw[ck];exact zFJ (λe=>an ⟨by omega,e.2⟩)};rw[<-es,hD];exact(zae ac).symm,by rw[hG];exact s2 (p:=zCU s f) ac⟩
  omega
 have ei:i=(s.2.1.getD f zA).2.1.length:=by omega
 refine go8 ?_;refine lX (bY (xB cD (y2u (y2i pH)) ab)) λfg ch=>?_;subst ch;refine go1 ?_;refine zW (A:=[_]) (ρ:=(rpS rpI)) aa.up ?_;intro h3 cm ay;refine xL (A:=[]) (uW (yA (ρ:=(rpS rpI)) (bytes:=24) underlying81 jC I I I I nP I I ad.up ay bO bO)) I I I ?_
 rintro ff fj ⟨bq,fa,rfl,bh⟩
 refine go1 ?_;refine zV (A:=[_]) (uB sizeOf81 (y2u (y2i pH)) ab (zBX bq)) λbs ae=>(go4 ?_);refine zW (A:=[]) (ρ:=(rpS rpI)) bh ?_;intro h4 cl ax;replace ae:=ae.mono cl;have bl:(tFc (4*m+11) (m+n+11)).R h4 bs ((scZ (s.2.1.getD f zA).1,(H,(s.2.1.getD f zA).2.2)).1,((G++D),((scZ (s.2.1.getD f zA).1,(H,(s.2.1.getD f zA).2.2)).2).2)):=zFS ae ax;refine lX (xB fD pH bl) λfe cg=>?_;have aw:=(Le.p (Le.p (Le.t (Le.q (l:=4*m+11) oM)) (Le.q (l:=m+n+11) oM)) (Le.refl _)).R dc;refine zV (A:=[_]) (uB sizeOf83 pH aw cg) λey bk=>(go3 ?_);refine xW (jA (t:=6) fD mh1 I bk) ?_;intro fd aq bd;refine yG (λE S=>zQ I aq E S) ?_;exact(Rp.Is.cast bd (by rw[hD,hG,ei];rfl))
theorem zRS{k m n j:Nat}{vs:Value}{s:Sq}(rs:(tSd k m n j).Is h0 vs s)(hcd0:s.2.1.length<=100000):
 Calls prog 154 #[vs] w0 (Ret w0 h0 (λh r=>(rpS tE5).Is h r (szZ s))):=by
 refine cb1 52 vs func154 hs ?_;refine go2 ?_;refine nB rs λb1 au M=>(iV ?_);refine xC 200 5 ?_;have ai:=RL.nil (ρ:=rpP rpI (rpP rpI (rpP rpI (rpP rpI rpI)))) (h:=h0);refine gcL (ι:=Nat×List (Int×Int×Int×Int×Int)×Value×List Value×Mem) (λ(f,D,G,H,mf)=>(MLe h0 mf/\(RL tE5 mf H D/\f<=s.2.1.length/\D=yCB s f),[(1,vP b1 0),(3,G),(4,vI ↑f)],[.gs 200 5 G D.length H,.var b1 50 au],mf,s.2.1.length-f)) (0,[],(.slice none 0 0),[],h0) ?_ ?_
 · exact⟨mle,ai,by omega,I⟩
 rintro⟨f,D,G,H,mf⟩ ⟨bj,J,ci,hD⟩
 refine yQ ?_;have cj:D.length<=f:=by rw[hD];exact rQ _ _ f
 refine go5 ?_;refine lX (xB gK (y2u (y2i pH)) M) λv7 r7=>(gc4 (λbi=>?_) λbi=>?_)
 ·
  refine go7 ?_;refine lX (xB gK (y2u (y2i pH)) M) λca bg=>(go1 ?_);refine lX (xI zA f underlying47 fD bg) λbz bf=>(lX (xF underlying83 sizeOf81 (y2u (y2i pH)) bf) λbx be=>(lX (xA cD be) λbw bd=>(cL (ev1 I) call186 (λw hs=>eH hs bd) λax h1 ap bc=>?_)));obtain rfl:ax=vB (vfP (((s.2.1.getD f zA).2).1)):=bc;refine go1 ?_;refine uZ (ι:=Mem) 6 (λm_=>MLe h1 m_) (λ_=>[(25,vB ((¬(vfP (((s.2.1.getD f zA).2).1)))\/(¬(nmP s (↑f:Int).toNat)))),(1,vP b1 0),(3,G),(4,vI ↑f)]) (λ_=>[.gs 200 5 G D.length H,.var b1 50 au]) (λm_=>m_) ?_ ?_
  ·
   refine yD (¬(vfP (((s.2.1.getD f zA).2).1))) (λC=>?_) (λC=>?_)
   ·
    refine gT C I (go6 ?_);refine zS h1 (MLe.refl _) ⟨?_,I,I,I,y1i⟩ I I;exact y0e (vV C)
   refine gF C I (go1 ?_);refine lX (xB jH pH M) λbv bb=>(go3 ?_);refine cL (ev2 I I) call187 (λw hs=>zG0 hs bb oM oM oM (by first|omega|exact zci (zdi C).1.2 dC|exactλl hl=>zci ((zdi C).2 l hl).1.2 dC) (by first|omega|exact zci (zdi C).1.2 dC|exactλl hl=>zci ((zdi C).2 l hl).1.2 dC) (by first|omega|exact zci (zdi C).1.2 dC|exactλl hl=>zci ((zdi C).2 l hl).1.2 dC)) λaw h2 aa ba=>?_;obtain rfl:aw=vB (nmP s (↑f:Int).toNat):=ba;refine go4 ?_;refine zS h2 aa ⟨?_,I,I,I,y1i⟩ I I;exact y0e (vW C)
  intro U ao;refine sD ?_;refine gc2 (λO=>?_) λO=>?_
  ·
   have Z:szP s f:=O;refine go3 ?_;refine cL (vs:=[vI (1),_,vI (-1),vI (-1)]) e4z call188 (λw hs=>x0 hs dC dC oM oM dC dC dC dC) λbu h2 aa az=>(zF (zL (ρ:=tE5) (m:=1) (xs:=[dg (1:Int) (↑f:Int) (-1:Int) (-1:Int)]) (ps':=[(0,_)]) underlying137 jG I I I (yF wN (yF wN (yF wN (yF wN wN)))) e2z (zC I (y1e (y1u _) e50 0 dC) az zN) zoi nP) I I I ?_)
   rintro bt ch ⟨bm,rfl,an⟩
   refine zW (A:=[]) (ρ:=tE5) an ?_;intro h3 bh ah;refine xL (A:=[]) (yA (ρ:=tE5) (bytes:=40) underlying137 jG I I I I nP I I J.up ah bO bO) I I I ?_
   rintro av cg ⟨ar,rfl,am⟩
   refine go9 ?_;refine gqL ((f+1),(D++[dg (1:Int) (↑f:Int) (-1:Int) (-1:Int)]),av,ar,h3) ?_ ?_
   · exact⟨mle,am,by omega,by rw[hD];exact s1 Z⟩
   omega
  have Z:¬szP s f:=O;refine go8 ?_;refine gqL ((f+1),D,G,H,U) ?_ ?_
  · exact⟨mle,J.up,by omega,by rw[hD];exact s2 Z⟩
  omega
 have ef:f=s.2.1.length:=by omega
 refine go9 ?_;refine lX (xB uS (y2i pH) M) λbs cd=>(go2 ?_);refine gU 6 40 (vB (((512:Int)<(↑(s.1).length:Int))\/((256:Int)<(↑(s.2.1).length:Int)))) ?_ ?_
 ·
  refine yD ((512:Int)<(↑(s.1).length:Int)) (λC=>?_) (λC=>?_)
  ·
   refine gT C I (go6 ?_);refine gqU ?_;exact y0e (vV C)
  refine gF C I (go3 ?_);refine lX (xB gK (y2u (y2i pH)) M) λbr cc=>(go6 ?_);refine gqU ?_;exact y0e (vW C)
 refine gU 6 46 (vB ((((512:Int)<(↑(s.1).length:Int))\/((256:Int)<(↑(s.2.1).length:Int)))\/((1024:Int)<(↑(s.2.2).length:Int)))) ?_ ?_
 ·
  refine yD (((512:Int)<(↑(s.1).length:Int))\/((256:Int)<(↑(s.2.1).length:Int))) (λC=>?_) (λC=>?_)
  ·
   refine gT C I (go6 ?_);refine gqU ?_;exact y0e (vV C)
  refine gF C I (go3 ?_);refine lX (xB yFO (y2u (y2u pH)) M) λbq cb=>(go6 ?_);refine gqU ?_;exact y0e (vW C)
 refine gc2 (λaq=>?_) λaq=>?_
 ·
  have ab:zOW s:=by unfold zOW;omega
  refine go2 ?_;refine cL (vs:=[vI (2),vI (-1),vI (-1),vI (-1)]) e4z call188 (λw hs=>x0 hs dC dC dC dC dC dC dC dC) λbp h1 ap ay=>(zF (zL (ρ:=tE5) (m:=1) (xs:=[dg (2:Int) (-1:Int) (-1:Int) (-1:Int)]) (ps':=[(0,_)]) underlying137 jG I I I (yF wN (yF wN (yF wN (yF wN wN)))) e2z (zC I (y1e (y1u _) e50 0 dC) ay zN) zoi nP) I I I ?_)
  rintro bo cf ⟨bl,rfl,ak⟩
  refine zW (A:=[]) (ρ:=tE5) ak ?_;intro h2 aa ae;refine xL (A:=[]) (yA (ρ:=tE5) (bytes:=40) underlying137 jG I I I I nP I I J.up ae bO bO) I I I ?_
  rintro bn ce ⟨bk,rfl,aj⟩
  refine uQ ?_;refine xP (A:=[]) (ρ:=tE5) aj ?_;intro h3 bh ad;refine zD I I ?_;exact(Rp.Is.cast ad (by rw[hD,ef];exact(zau ab).symm))
 have ab:¬zOW s:=by unfold zOW;omega
 refine go9 ?_;refine xP (A:=[]) (ρ:=tE5) J.up ?_;intro h1 ap ac;refine zD I I ?_;exact(Rp.Is.cast ac (by rw[hD,ef];exact(zae ab).symm))
theorem zRQ{k m n j:Nat}{vs:Value}{s:Sq}(rs:(tSd k m n j).Is h0 vs s)(hcd0:s.1.length<=100000)(hcd1:k<=100000000):
 Calls prog 155 #[vs] w0 (Ret w0 h0 (λh r=>(rpS tE5).Is h r (zQV s s.1.length))):=by
 refine cb1 35 vs func155 hs ?_;refine go2 ?_;refine nB rs λb1 aj U=>(iV ?_);refine xC 200 5 ?_;have aa:=RL.nil (ρ:=rpP rpI (rpP rpI (rpP rpI (rpP rpI rpI)))) (h:=h0);refine gcL (ι:=Nat×List (Int×Int×Int×Int×Int)×Value×List Value×Mem) (λ(f,D,C,G,mf)=>(MLe h0 mf/\(RL tE5 mf G D/\f<=s.1.length/\D=zQV s f),[(1,vP b1 0),(3,C),(4,vI ↑f)],[.gs 200 5 C D.length G,.var b1 50 aj],mf,s.1.length-f)) (0,[],(.slice none 0 0),[],h0) ?_ ?_
 · exact⟨mle,aa,by omega,I⟩
 rintro⟨f,D,C,G,mf⟩ ⟨ay,H,bo,hD⟩
 refine yQ ?_;have bp:D.length<=f:=by rw[hD];exact rQ _ _ f
 refine go5 ?_;refine lX (xB uS (y2i pH) U) λv8 r8=>(gc4 (λah=>?_) λah=>?_)
 ·
  refine uQ ?_;refine gcL (ι:=Nat×Mem) (λ(q,mb)=>(MLe mf mb/\(q<=f/\∀u,u<q->¬gp s.1 f=gp s.1 u),[(1,vP b1 0),(3,C),(4,vI ↑f),(5,vI ↑q)],[.gs 200 5 C D.length G,.var b1 50 aj],mb,f-q)) (0,mf) ?_ ?_
  · exact⟨mle,by omega,λu h=>by omega⟩
  rintro⟨q,mb⟩ ⟨az,bl,ad⟩
  refine yQ ?_;refine gc8 (λae=>?_) λae=>?_
  ·
   refine go5 ?_;refine zK 11 _ [] (zai 0 10 [(10,.c)]) yC nX zot nX (λr hr=>hr) (go1 ?_);refine wX I (xB uS (y2i pH) U) λbi aw=>(go1 ?_);refine wX I (xI zT f underlying46 zO aw) λbh av=>(wX I (xA zO av) λbg au=>(go1 ?_));refine wX I (xB uS (y2i pH) U) λbf ar=>(go1 ?_);refine wX I (xI zT q underlying46 zO ar) λbe aq=>(wX I (xA zO aq) λbd ap=>?_);refine w_c I (sC (ev2 I I) call27 (λw hs=>zBP hs au ap oM) λam h1 ax ao=>?_);obtain rfl:am=vB ((s.1.getD f zT)=(s.1.getD q zT)):=ao;refine gc2 (λJ=>?_) λJ=>?_
   ·
    have Z:twP s f:=⟨q,by omega,J⟩;refine go4 ?_;refine cL (vs:=[vI (37),vI (-1),vI (-1),_]) e4z call188 (λw hs=>x0 hs dC dC dC dC dC dC oM oM) λbc h2 bn an=>(zF (zL (ρ:=tE5) (m:=1) (xs:=[dg (37:Int) (-1:Int) (-1:Int) (↑f:Int)]) (ps':=[(0,_)]) underlying137 jG I I I (yF wN (yF wN (yF wN (yF wN wN)))) e2z (zC I (y1e (y1u _) e50 0 dC) an zN) zoi nP) I I I ?_)
    rintro bb bk ⟨ba,rfl,ac⟩
    refine zW (A:=[]) (ρ:=tE5) ac ?_;intro h3 bm O;refine xL (A:=[]) (yA (ρ:=tE5) (bytes:=40) underlying137 jG I I I I nP I I H.up O bO bO) I I I ?_
    rintro ak bj ⟨ai,rfl,ab⟩
    refine iV ?_;refine gqL ((f+1),(D++[dg (37:Int) (-1:Int) (-1:Int) (↑f:Int)]),ak,ai,h3) ?_ ?_
    · exact⟨mle,ab,by omega,by rw[hD];exact s1 Z⟩
    omega
   refine go8 ?_;refine gqL ((q+1),h1) ?_ ?_
   · exact⟨mle,by omega,qA (Q:=λu=>¬gp s.1 f=gp s.1 u) ad J⟩
   omega
  have Z:¬twP s f:=λ⟨u,h1,h2⟩=>ad u oM h2;refine qG ?_;refine gqL ((f+1),D,C,G,mb) ?_ ?_
  · exact⟨mle,H.up,by omega,by rw[hD];exact s2 Z⟩
  omega
 have ef:f=s.1.length:=by omega
 refine uV ?_;refine xP (A:=[]) (ρ:=tE5) H.up ?_;intro h1 ax M;refine zD I I ?_;exact(Rp.Is.cast M (by rw[hD,ef]))
theorem zNR{k m n j:Nat}{vs:Value}{s:Sq}(rs:(tSd k m n j).Is h0 vs s)(hcd0:k<=1000)(hcd1:m<=100000)(hcd2:n<=100000)(hcd3:s.1.length<=100000)(hcd4:∀f,f<s.2.1.length->(s.2.1.getD f zA).2.1.length<=10000/\∀l,l<(s.2.1.getD f zA).2.1.length->((s.2.1.getD f zA).2.1.getD l []).length<=10000)(hcd5:s.2.1.length<=1000)(hcd6:s.1.length<=100000)(hcd7:∀f,f<s.2.1.length->(s.2.1.getD f zA).2.1.length<=16/\∀l,l<(s.2.1.getD f zA).2.1.length->((s.2.1.getD f zA).2.1.getD l []).length<=64):
 Calls prog 156 #[vs] w0 (Ret w0 h0 (λh r=>(rpS tE5).Is h r (plZ s))):=by
 refine cb1 74 vs func156 hs ?_;refine go2 ?_;refine nB rs λb1 aq an=>(zBY ?_);refine xC 200 5 ?_;have az:=RL.nil (ρ:=rpP rpI (rpP rpI (rpP rpI (rpP rpI rpI)))) (h:=h0);refine xC 200 5 ?_;have ay:=RL.nil (ρ:=rpP rpI (rpP rpI (rpP rpI (rpP rpI rpI)))) (h:=h0);refine gcL (ι:=Nat×List (Int×Int×Int×Int×Int)×List (Int×Int×Int×Int×Int)×Value×List Value×Value×List Value×Mem) (λ(f,D,G,ab,ac,J,aa,ma)=>(MLe h0 ma/\(RL tE5 ma ac D/\RL tE5 ma aa G/\f<=s.2.1.length/\D=zSR s f/\G=zNJ s f),[(1,vP b1 0),(3,ab),(4,J),(5,vI ↑f)],[.gs 200 5 J G.length aa,.gs 200 5 ab D.length ac,.var b1 50 aq],ma,s.2.1.length-f)) (0,[],[],(.slice none 0 0),[],(.slice none 0 0),[],h0) ?_ ?_
 · exact⟨mle,az,ay,by omega,I,I⟩
 rintro⟨f,D,G,ab,ac,J,aa,ma⟩ ⟨cv,ae,ai,em,hD,hG⟩
 refine yQ ?_;have eo:D.length<=f:=by rw[hD];exact rQ _ _ f
 have en:G.length<=1024*f:=by rw[hG];exact zUU hcd7 f oM
 have bi:=nR (s:=s) (f:=↑f) hcd7;refine go5 ?_;refine lX (xB gK (y2u (y2i pH)) an) λdz eb=>(gc4 (λbm=>?_) λbm=>?_)
 ·
  refine go4 ?_;refine qK (ι:=List (Int×Int×Int×Int×Int)×Value×List Value×Mem) (λ(ZR,C,H,mz)=>MLe ma mz/\(RL tE5 mz H ZR/\ZR=zSR s (f+1))) (λ(ZR,C,H,mz)=>[(1,vP b1 0),(3,C),(4,J),(5,vI ↑f)]) (λ(ZR,C,H,mz)=>[.gs 200 5 J G.length aa,.gs 200 5 C ZR.length H,.var b1 50 aq]) (λ(ZR,C,H,mz)=>mz) ?_ ?_
  ·
   refine go3 ?_;refine lX (xB gK (y2u (y2i pH)) an) λdy cm=>(go1 ?_);refine lX (xI zA f underlying47 fD cm) λdx cl=>(lX (xF underlying83 sizeOf80 (y2i pH) cl) λdw ck=>(lX (xF underlying80 sizeOf53 (y2i pH) ck) λdv cj=>(lX (xA zO cj) λdu ci=>(cL (ev1 I) call42 (λw hs=>nH hs ci oM) λbs h1 aj ch=>?_))));obtain rfl:bs=vB ((((s.2.1.getD f zA).1).1)=zT):=ch;refine gc2 (λam=>?_) λam=>?_
   ·
    refine go3 ?_;refine cL (vs:=[vI (9),_,vI (-1),vI (-1)]) e4z call188 (λw hs=>x0 hs dC dC oM oM dC dC dC dC) λdt h2 bh cg=>(zF (zL (ρ:=tE5) (m:=1) (xs:=[dg (9:Int) (↑f:Int) (-1:Int) (-1:Int)]) (ps':=[(0,_)]) underlying137 jG I I I (yF wN (yF wN (yF wN (yF wN wN)))) e2z (zC I (y1e (y1u _) e50 0 dC) cg zN) zoi nP) I I I ?_)
    rintro dr eg ⟨db,rfl,be⟩
    refine zW (A:=[]) (ρ:=tE5) be ?_;intro h3 bg aw;refine xL (A:=[_]) (yA (ρ:=tE5) (bytes:=40) underlying137 jG I I I I nP I I ae.up aw bO bO) I I I ?_
    rintro br ee ⟨bo,rfl,bd⟩
    refine go2 ?_;refine zS ((D++[dg (9:Int) (↑f:Int) (-1:Int) (-1:Int)]),br,bo,h3) ?_ e4z I I;refine⟨((aj.trans bh).trans bg),?_⟩;refine⟨bd,?_⟩;exact(by rw[hD];exact s1 am)
   refine go1 ?_;refine zS (D,ab,ac,h1) ?_ e4z I I;refine⟨aj,?_⟩;refine⟨ae.up,?_⟩;exact(by rw[hD];exact s2 am)
  rintro⟨ZR,C,H,mz⟩ ⟨cq,hZ⟩
  refine yQ ?_;obtain⟨ax,hZ⟩:=hZ;refine go2 ?_;refine lX (xB jH pH an) λdq cf=>(go1 ?_);refine cL (ev2 I I) call189 (λw hs=>zCJ hs cf oM oM (by first|omega|exact hcd4) (by first|omega|exact hcd4)) λba h1 aj bf=>(go9 ?_);refine gcL (ι:=Nat×List (Int×Int×Int×Int×Int)×Value×List Value×Mem) (λ(l,G1,O,Z,mb)=>(MLe h1 mb/\(RL tE5 mb Z G1/\l<=(gB s ↑f).length/\G1=zNJ s f++ofL s f l),[(1,vP b1 0),(3,C),(4,O),(5,vI ↑f),(6,ba),(7,vI ↑l)],[.gs 200 5 O G1.length Z,.gs 200 5 C ZR.length H,.var b1 50 aq],mb,(gB s ↑f).length-l)) (0,G,J,aa,h1) ?_ ?_
  · exact⟨mle,ai.up,by omega,by rw[hG];exact(zli _).symm⟩
  rintro⟨l,G1,O,Z,mb⟩ ⟨cu,ah,eh,ap⟩
  refine yQ ?_;have cp:=zEB (s:=s) hcd7 f l;have cz:G1.length<=1024*f+1024:=by rw[ap,lAz,<-hG];have:=bi.1;omega
  refine gc9 (λbl=>?_) λbl=>?_
  ·
   refine uQ ?_;refine gcL (ι:=Nat×List (Int×Int×Int×Int×Int)×Value×List Value×Mem) (λ(i,G2,M,U,mc)=>(MLe mb mc/\(RL tE5 mc U G2/\i<=((gB s ↑f).getD l []).length/\G2=zNJ s f++ofL s f l++ofX s f l i),[(1,vP b1 0),(3,C),(4,M),(5,vI ↑f),(6,ba),(7,vI ↑l),(8,vI ↑i)],[.gs 200 5 M G2.length U,.gs 200 5 C ZR.length H,.var b1 50 aq],mc,((gB s ↑f).getD l []).length-i)) (0,G1,O,Z,mb) ?_ ?_
   · exact⟨mle,ah,by omega,by rw[ap];exact(zli _).symm⟩
   rintro⟨i,G2,M,U,mc⟩ ⟨ct,ad,ej,ao⟩
   refine yQ ?_;have cw:=bi.2 l;have co:(ofX s f l i).length<=i:=rQ _ _ i;have cy:G2.length<=1024*f+2048:=by rw[ao,lAz,<-ap];omega
   refine go6 ?_;refine lX (xI [] l underlying115 uS bf) λdp ce=>(lX (xA uS ce) λdn ea=>(gc4 (λbk=>?_) λbk=>?_))
   ·
    refine go5 ?_;refine zK 15 _ [] (zai 0 13 [(13,.c),(14,.q)]) yC nX (wV zot) nX (λr hr=>hr) (go1 ?_);refine wX I (xB gK (y2u (y2i pH)) an) λdm cd=>(go1 ?_);refine wX I (xI zA f underlying47 fD cd) λdl cc=>(wX I (xF underlying83 sizeOf80 (y2i pH) cc) λdk cb=>(wX I (xA iU cb) λdj ca=>(go2 ?_)));refine wX I (xI [] l underlying115 uS bf) λdi bz=>(wX I (xA uS bz) λdh bx=>(go1 ?_));refine wX I (xI zT i underlying46 zO bx) λdf bw=>(wX I (xA zO bw) λde bv=>?_);refine w_c I (sC (ev2 I I) call153 (λw hs=>zRP hs ca bv oM oM oM) λbq h2 bh bu=>?_);obtain rfl:bq=vI (yW (vZ ((s.2.1.getD f zA).1).1 (((gB s (↑f:Int)).getD l []).getD i zT)-((s.2.1.getD f zA).1).2)):=bu;have cn:=wB (vZ ((s.2.1.getD f zA).1).1 (((gB s (↑f:Int)).getD l []).getD i zT)-((s.2.1.getD f zA).1).2);refine gc3 (λak=>?_) λak=>?_
    ·
     refine go5 ?_;refine cL (vs:=[vI (31),_,_,_]) e4z call188 (λw hs=>x0 hs dC dC oM oM oM oM oM oM) λdd h3 bg bt=>(zF (zL (ρ:=tE5) (m:=1) (xs:=[dg (31:Int) (↑f:Int) (↑l:Int) (↑i:Int)]) (ps':=[(0,_)]) underlying137 jG I I I (yF wN (yF wN (yF wN (yF wN wN)))) e2z (zC I (y1e (y1u _) e50 0 dC) bt zN) zoi nP) I I I ?_)
     rintro dc ed ⟨da,rfl,bc⟩
     refine zW (A:=[]) (ρ:=tE5) bc ?_;intro h4 ek av;refine xL (A:=[]) (yA (ρ:=tE5) (bytes:=40) underlying137 jG I I I I nP I I ad.up av bO bO) I I I ?_
     rintro bp ec ⟨bn,rfl,bb⟩
     refine go9 ?_;refine gqL ((i+1),(G2++[dg (31:Int) (↑f:Int) (↑l:Int) (↑i:Int)]),bp,bn,h4) ?_ ?_
     · exact⟨mle,bb,by omega,by rw[ao,zii,show ofX s f l i++_=_ from s1 (p:=ofP s f l) ak];rfl⟩
     omega
    refine go8 ?_;refine gqL ((i+1),G2,M,U,h2) ?_ ?_
    · exact⟨mle,ad.up,by omega,by rw[ao,show ofX s f l i=_ from s2 (p:=ofP s f l) ak];rfl⟩
    omega
   have ei:i=((gB s ↑f).getD l []).length:=by omega
   refine qG ?_;refine gqL ((l+1),G2,M,U,mc) ?_ ?_
   · exact⟨mle,ad.up,by omega,by rw[ao,ei,zii];rfl⟩
   omega
  have el:l=(gB s ↑f).length:=by omega
  refine qG ?_;refine gqL ((f+1),ZR,G1,C,H,O,Z,mb) ?_ ?_
  · exact⟨mle,ax.up,ah,by omega,hZ,by rw[ap,el];rfl⟩
  omega
 have ef:f=s.2.1.length:=by omega
 refine go9 ?_;refine gv (gV mh1 underlying137 I) I (gc3 (λbj=>?_) λbj=>?_)
 ·
  refine go8 ?_;refine xP (A:=[_]) (ρ:=tE5) ae.up ?_;intro h1 aj au;refine zD I I ?_;exact(Rp.Is.cast au (by rw[hD,ef];exact(zau (by rw[<-ef,<-hD];omega)).symm))
 refine go9 ?_;refine xP (A:=[]) (ρ:=tE5) ai.up ?_;intro h1 aj ar;refine zD I I ?_;exact(Rp.Is.cast ar (by rw[hG,ef];exact(zae (by rw[<-ef,<-hD];omega)).symm))
theorem zGZ{k:Nat}{vL:Value}{L:(List (List Tq))}(rL:(tLL k).Is h0 vL L)(hcd0:k<=100000)(hcd1:∀l,l<L.length->(L.getD l []).length<=1000)(hcd2:L.length<=100000):
 Calls prog 124 #[vL] w0 (Ret w0 h0 (λ_ r=>r=vI (ouZ L))):=by
 refine cb1 21 vL func124 hs ?_;refine oO ?_;refine gcL (ι:=Nat×Mem) (λ(m,O)=>(MLe h0 O/\(m<=L.length),[(0,vL),(3,vI (y6 L m)),(4,vI ↑m)],[],O,L.length-m)) (0,h0) ?_ ?_
 · exact⟨mle,oM⟩
 rintro⟨m,O⟩ ⟨aa,ae⟩
 refine yQ ?_;have hor:=zAA L m;have ah:=hcd1 m;refine gc9 (λZ=>?_) λZ=>?_
 ·
  refine go8 ?_;refine lX (xI [] m underlying115 uS rL) λad M=>(lX (xA uS M) λac J=>(cL (ev1 I) call170 (λw hs=>rM hs J oM oM) λab h1 aj H=>(cL (ev1 I) call17 (λw hs=>uK hs H dC) λD h2 ai G=>?_)));obtain rfl:D=vI (yW (uG (L.getD m []) 0 1 (L.getD m []).length)):=G;have U:=wB (uG (L.getD m []) 0 1 (L.getD m []).length);refine gc3 (λC=>?_) λC=>?_
  ·
   refine uV ?_;refine gqL ((m+1),h2) ?_ ?_ (he:=⟨I,zbi (λz=>some (vI z)) (ou_t C),I,y1i⟩)
   · exact⟨mle,oM⟩
   omega
  refine go8 ?_;refine gqL ((m+1),h2) ?_ ?_ (he:=⟨I,zbi (λz=>some (vI z)) (ou_f C),I,y1i⟩)
  · exact⟨mle,oM⟩
  omega
 refine uV ?_;refine zD I I ?_;have em:m=L.length:=by omega
 subst em
 rfl
theorem zRV{k m n j:Nat}{vs:Value}{s:Sq}(rs:(tSd k m n j).Is h0 vs s)(hcd0:k<=1000)(hcd1:m<=100000)(hcd2:n<=100000)(hcd3:okS s):
 Calls prog 157 #[vs] w0 (Ret w0 h0 (λh r=>(rpS tE5).Is h r (neZ s))):=by
 have cl:=hcd3.1.1.1;have ck:=hcd3.1.1.2;refine cb1 45 vs func157 hs ?_;refine go2 ?_;refine nB rs λb1 bh aw=>(zBY ?_);refine xC 200 5 ?_;have ap:=RL.nil (ρ:=rpP rpI (rpP rpI (rpP rpI (rpP rpI rpI)))) (h:=h0);refine xC 200 5 ?_;have ao:=RL.nil (ρ:=rpP rpI (rpP rpI (rpP rpI (rpP rpI rpI)))) (h:=h0);refine gcL (ι:=Nat×List (Int×Int×Int×Int×Int)×List (Int×Int×Int×Int×Int)×Value×List Value×Value×List Value×Mem) (λ(f,D,G,O,U,J,M,ma)=>(MLe h0 ma/\(RL tE5 ma U D/\RL tE5 ma M G/\f<=s.2.1.length/\D=zW3 s f/\G=yDJ s f),[(1,vP b1 0),(3,O),(4,J),(5,vI ↑f)],[.gs 200 5 J G.length M,.gs 200 5 O D.length U,.var b1 50 bh],ma,s.2.1.length-f)) (0,[],[],(.slice none 0 0),[],(.slice none 0 0),[],h0) ?_ ?_
 · exact⟨mle,ap,ao,by omega,I,I⟩
 rintro⟨f,D,G,O,U,J,M,ma⟩ ⟨bt,aa,Z,cm,hD,hG⟩
 refine yQ ?_;have co:D.length<=f:=by rw[hD];exact rQ _ _ f
 have cn:G.length<=f:=by rw[hG];exact rQ _ _ f
 have bb:=zDG s f;have bc:=nR (s:=s) (f:=↑f) hcd3.2.1;have cj:=zK4 (tQ s f) 0 1;refine go5 ?_;refine lX (xB gK (y2u (y2i pH)) aw) λcd ce=>(gc4 (λbe=>?_) λbe=>?_)
 ·
  refine go6 ?_;refine lX (xB jH pH aw) λcc bq=>(go1 ?_);refine cL (ev2 I I) call176 (λw hs=>zKX (f:=f) hs bq oM oM oM (by first|omega|exact hcd3.big) (by first|omega|exact hcd3.big) (by first|omega|exact hcd3.big) (by first|omega|exact hcd3.big)) λbl h1 ba ax=>(go3 ?_);refine qK (ι:=List (Int×Int×Int×Int×Int)×Value×List Value×Mem) (λ(ZR,H,C,mz)=>MLe h1 mz/\(RL tE5 mz C ZR/\ZR=zW3 s (f+1))) (λ(ZR,H,C,mz)=>[(1,vP b1 0),(3,H),(4,J),(5,vI ↑f),(6,bl)]) (λ(ZR,H,C,mz)=>[.gs 200 5 J G.length M,.gs 200 5 H ZR.length C,.var b1 50 bh]) (λ(ZR,H,C,mz)=>mz) ?_ ?_
  ·
   refine go3 ?_;refine cL (ev1 I) call123 (λw hs=>zGX hs ax oM (by first|omega|exact hcd3.2.2 f oM)) λcb h2 an bp=>?_;obtain⟨ae,rfl,am⟩:=bp
   change (rpS rpI).Is h2 ae (tK (tQ s f) 0 1) at am
   refine rN ?_;refine cnd (λad=>?_) λad=>?_
   ·
    refine go4 ?_;refine cL (vs:=[_,_,vI (-1),vI (-1)]) e4z call188 (λw hs=>x0 hs oM oM oM oM dC dC dC dC) λca h3 az bo=>(zF (zL (ρ:=tE5) (m:=1) (xs:=[dg (vS (tQ s f) 0 1) (↑f:Int) (-1:Int) (-1:Int)]) (ps':=[(0,_)]) underlying137 jG I I I (yF wN (yF wN (yF wN (yF wN wN)))) e2z (zC I (y1e (y1u _) e50 0 dC) bo zN) zoi nP) I I I ?_)
    rintro bz ci ⟨bv,rfl,av⟩
    refine zW (A:=[]) (ρ:=tE5) av ?_;intro h4 ay ak;refine xL (A:=[_]) (yA (ρ:=tE5) (bytes:=40) underlying137 jG I I I I nP I I aa.up ak bO bO) I I I ?_
    rintro bk ch ⟨bg,rfl,au⟩
    refine go2 ?_;refine zS ((D++[dg (vS (tQ s f) 0 1) (↑f:Int) (-1:Int) (-1:Int)]),bk,bg,h4) ?_ e5 I I;refine⟨((an.trans az).trans ay),?_⟩;refine⟨au,?_⟩;exact(by rw[hD];exact s1 ad)
   refine go1 ?_;refine zS (D,O,U,h2) ?_ e5 I I;refine⟨an,?_⟩;refine⟨aa.up,?_⟩;exact(by rw[hD];exact s2 ad)
  rintro⟨ZR,H,C,mz⟩ ⟨bs,hZ⟩
  refine yQ ?_;obtain⟨ab,hZ⟩:=hZ;refine go3 ?_;refine cL (ev1 I) call124 (λw hs=>zGZ hs ax.up oM (by first|omega|exactλl hl=>(by rw[bb.2 l];exact zci (bc.2 l) dC)) (by first|omega|exactλl hl=>(by rw[bb.2 l];exact zci (bc.2 l) dC))) λbj h2 an bn=>?_;obtain rfl:bj=vI (ouZ (tQ s f)):=bn;have br:=zAA (tQ s f) (tQ s f).length;refine gc3 (λac=>?_) λac=>?_
  ·
   refine go3 ?_;refine cL (vs:=[vI (33),_,vI (-1),vI (-1)]) e4z call188 (λw hs=>x0 hs dC dC oM oM dC dC dC dC) λbx h3 az bm=>(zF (zL (ρ:=tE5) (m:=1) (xs:=[dg (33:Int) (↑f:Int) (-1:Int) (-1:Int)]) (ps':=[(0,_)]) underlying137 jG I I I (yF wN (yF wN (yF wN (yF wN wN)))) e2z (zC I (y1e (y1u _) e50 0 dC) bm zN) zoi nP) I I I ?_)
   rintro bw cg ⟨bu,rfl,ar⟩
   refine zW (A:=[]) (ρ:=tE5) ar ?_;intro h4 ay aj;refine xL (A:=[]) (yA (ρ:=tE5) (bytes:=40) underlying137 jG I I I I nP I I Z.up aj bO bO) I I I ?_
   rintro bi cf ⟨bf,rfl,aq⟩
   refine go9 ?_;refine gqL ((f+1),ZR,(G++[dg (33:Int) (↑f:Int) (-1:Int) (-1:Int)]),H,C,bi,bf,h4) ?_ ?_
   · exact⟨mle,ab.up,aq,by omega,hZ,by rw[hG];exact s1 ac⟩
   omega
  refine go8 ?_;refine gqL ((f+1),ZR,G,H,C,J,M,h2) ?_ ?_
  · exact⟨mle,ab.up,Z.up,by omega,hZ,by rw[hG];exact s2 ac⟩
  omega
 have ef:f=s.2.1.length:=by omega
 refine go9 ?_;refine gv (gV mh1 underlying137 I) I (gc3 (λbd=>?_) λbd=>?_)
 ·
  refine go8 ?_;refine xP (A:=[_]) (ρ:=tE5) aa.up ?_;intro h1 ba ai;refine zD I I ?_;exact(Rp.Is.cast ai (by rw[hD,ef];exact(zau (by rw[<-ef,<-hD];omega)).symm))
 refine go9 ?_;refine xP (A:=[]) (ρ:=tE5) Z.up ?_;intro h1 ba ah;refine zD I I ?_;exact(Rp.Is.cast ah (by rw[hG,ef];exact(zae (by rw[<-ef,<-hD];omega)).symm))
theorem zRW{k m n j:Nat}{vs:Value}{s:Sq}(rs:(tSd k m n j).Is h0 vs s)(hcd0:k<=1000)(hcd1:m<=100000)(hcd2:n<=100000)(hcd3:okS s):
 Calls prog 107 #[vs] w0 (Ret w0 h0 (λh r=>(rpS tE5).Is h r (zZ3 s))):=by
 have au:=hcd3.1.1.1;have ar:=hcd3.1.1.2;refine cb1 34 vs func107 hs ?_;refine go2 ?_;refine nB rs λb1 bb C=>(go6 ?_);refine lX (xB jH pH C) λv7 r7=>(cL (ev1 I) call154 (λw hs=>zRS hs r7 (by first|omega|exact hcd3|exact hcd3.big|exact hcd3.mem|exact hcd3.2.1)) λv8 h1 ba r8=>(zAV (λJ=>?_) λJ=>?_))
 ·
  refine go8 ?_;refine zD I I ?_;exact(Rp.Is.cast r8 (by exact(zau oM).symm))
 refine go5 ?_;refine lX (xB jH pH C) λaq ae=>(cL (ev1 I) call155 (λw hs=>zRQ hs ae (by first|omega|exact hcd3|exact hcd3.big|exact hcd3.mem|exact hcd3.2.1) oM) λap h2 az ad=>(zAV (λH=>?_) λH=>?_))
 ·
  refine go8 ?_;refine zD I I ?_;exact(Rp.Is.cast ad (by exact((zae oM).trans (zau oM)).symm))
 refine go5 ?_;refine lX (xB jH pH C) λao ac=>(cL (ev1 I) call156 (λw hs=>zNR hs ac oM oM oM (by first|omega|exact hcd3|exact hcd3.big|exact hcd3.mem|exact hcd3.2.1) (by first|omega|exact hcd3|exact hcd3.big|exact hcd3.mem|exact hcd3.2.1) (by first|omega|exact hcd3|exact hcd3.big|exact hcd3.mem|exact hcd3.2.1) (by first|omega|exact hcd3|exact hcd3.big|exact hcd3.mem|exact hcd3.2.1) (by first|omega|exact hcd3|exact hcd3.big|exact hcd3.mem|exact hcd3.2.1)) λan h3 ay ab=>(zAV (λG=>?_) λG=>?_))
 ·
  refine go8 ?_;refine zD I I ?_;exact(Rp.Is.cast ab (by exact((zae oM).trans ((zae oM).trans (zau oM))).symm))
 refine go5 ?_;refine lX (xB jH pH C) λam aa=>(cL (ev1 I) call157 (λw hs=>zRV hs aa oM oM oM (by first|omega|exact hcd3|exact hcd3.big|exact hcd3.mem|exact hcd3.2.1)) λak h4 ax Z=>(zAV (λD=>?_) λD=>?_))
 ·
  refine go8 ?_;refine zD I I ?_;exact(Rp.Is.cast Z (by exact((zae oM).trans ((zae oM).trans ((zae oM).trans (zau oM)))).symm))
 refine go4 ?_;refine lX (xB jH pH C) λaj U=>(cL (ev1 I) call159 (λw hs=>zG1 hs U (by first|omega|exact hcd3|exact hcd3.big|exact hcd3.mem|exact hcd3.2.1) (by first|omega|exact hcd3|exact hcd3.big|exact hcd3.mem|exact hcd3.2.1)) λai h5 aw O=>(cL (ev1 I) call158 (λw hs=>zKO hs O) λah h6 av M=>(go4 ?_)));refine zD I I ?_;exact(Rp.Is.cast M (by exact((zae oM).trans ((zae oM).trans ((zae oM).trans (zae oM)))).symm))
theorem zRR{k m n j:Nat}{vs:Value}{s:Sq}(rs:(tSd k m n j).Is h0 vs s)(hcd0:k<=1000)(hcd1:m<=100000)(hcd2:n<=100000)(hcd3:okS s):
 Calls prog 61 #[vs] w0 (Ret w0 h0 (λ_ r=>r=vB (oU s))):=by
 refine cb1 7 vs func61 hs ?_;refine go2 ?_;refine nB rs λH G C=>(go5 ?_);refine lX (xB jH pH C) λv3 r3=>(cL (ev1 I) call107 (λw hs=>zRW hs r3 oM oM oM (by first|omega|exact hcd3)) λv4 h1 D r4=>(go6 ?_));refine zD I I ?_;exact tB (by unfold oU;omega)
theorem y9{k m n j:Nat}{vs:Value}{s:Sq}(rs:(tSd k m n j).Is h0 vs s)(hcd0:k<=1000)(hcd1:m<=100000)(hcd2:n<=100000)(hcd3:okS s):
 Calls prog 82 #[vs] w0 (rG w0 h0 (λh r L_=>∃vF cs,(rpP (tLs (k+1)) (rpP rpV (rpS (rpP rpI (rpP rpI (rpQ (j+1))))))).Is h r (nrP s,(vF,nrE s))/\L_=[.gs 83 14 vF (nrF s).length cs]/\vF.oneCell'=true/\RL (tFc (4*m+12) (m+n+12)) h cs (nrF s))):=by
 have ie:=hcd3.1.1.1;have id:=hcd3.1.1.2;have ic:=hcd3.1.2;refine cb1 100 vs func82 hs ?_;refine go2 ?_;refine nB rs λb1 cu an=>(nA (ρ:=(rpP (tLs 1) (rpP rpV (rpS (rpP rpI (rpP rpI (rpQ 1))))))) (X:=([],((Value.slice none 0 0),[]))) jM (yF wJ (yF sR wJ)) λb2 ct di=>(go5 ?_));refine lX (xB jH pH an) λho fh=>(cL (ev1 I) call61 (λw hs=>zRR hs fh oM oM oM (by first|omega|exact hcd3)) λeg h1 im fg=>?_);obtain rfl:eg=vB (oU s):=fg;refine gc3 (λai=>?_) λai=>?_
 ·
  refine go2 ?_;refine lX (xV (ρ:=(rpP (tLs 1) (rpP rpV (rpS (rpP rpI (rpP rpI (rpQ 1))))))) (xK (ps':=[]) underlying50 jM I I (rS underlying50) trivial I (yF wJ (yF sR wJ)) zN)) λhn ff=>(zV (A:=[]) (uB sizeOf50 pH di ff) λgf dh=>(go4 ?_));rw[show nrF s=[] from zae ai];refine bV 83 14 ?_;have db:=RL.nil (ρ:=rpP (tPl (4*m+12) (m+n+12)) (rpP tII kD)) (h:=h1);refine xW (jA (t:=2) jH mh1 I dh) ?_;intro gi cf cz;refine gG (.cons_cons _ (zse _)) (λE S=>zQ I cf E S) ?_;exact⟨_,_,(Rp.Is.cast (Rp.Is.le cz (Le.p (Le.s (Le.t (Le.q (l:=k+1) oM))) (Le.p (Le.refl _) (Le.s (Le.p (Le.refl _) (Le.p (Le.refl _) (Le.q (l:=j+1) oM))))))) (by rw[show nrP s=[] from zae ai,show nrE s=[] from zae ai])),I,I,db⟩
 refine go4 ?_;refine lX (xB jH pH an) λhm fe=>?_;have bd:oU s:=zdi ai;have aw:=yCD bd;have ia:(gX s).length<=s.1.length:=zNG s s.1.length;refine cL (ev1 I) call127 (λw hs=>zRU hs fe oM (by first|omega|exact hcd3|exact aw) (by first|omega|exact hcd3|exact aw)) λee h2 il bb=>?_;replace bb:=Rp.Is.cast (y:=(gX s)) bb zo0;refine go6 ?_;refine lX (xB uS (y2i pH) an) λhl hq=>(go1 ?_);refine zF (iM (ρ:=rpI) (X:=(0:Int)) (by':=8) s.1.length underlying32 jJ I I I I wN I I zo0 zo0 bO bO) I I I ?_
 rintro ed hw ⟨dr,rfl,df⟩
 refine go6 ?_;refine lX (xB yFO (y2u (y2u pH)) an) λhk fd=>(zHD 233 5 ?_);have da:=RL.nil (ρ:=rpP rpI (rpP rpI (rpQ j))) (h:=h2);refine xL (A:=[]) (uW (yA (ρ:=(rpP rpI (rpP rpI (rpQ j)))) (bytes:=72) underlying48 zZM I I I I nP I I da fd bO bO)) I I I ?_
 rintro hj hv ⟨fy,gh,rfl,de⟩
 refine zW (A:=[]) (ρ:=(rpP rpI (rpP rpI (rpQ j)))) de ?_;intro h3 ik cy;refine lX (xV (ρ:=(rpP rpV (rpP rpV (rpS (rpP rpI (rpP rpI (rpQ (j+1)))))))) (xK (ps':=[(2,_)]) underlying50 jM I I (rS underlying50) e2z I (yF sR (yF sR wJ)) (zC I (y2u (y2u (y1u _))) (cy.le (Le.s (Le.p (Le.refl _) (Le.p (Le.refl _) (Le.q (l:=j+1) oM))))) zN))) λhg fc=>(nA (ρ:=(rpP rpV (rpP rpV (rpS (rpP rpI (rpP rpI (rpQ 1))))))) (X:=((Value.slice none 0 0),((Value.slice none 0 0),[]))) jM (yF sR (yF sR wJ)) λb5 iu ej=>?_);have cw:=(Le.p (Le.refl _) (Le.p (Le.refl _) (Le.s (Le.p (Le.refl _) (Le.p (Le.refl _) (Le.q (l:=j+1) oM)))))).R ej;refine zV (A:=[]) (uB sizeOf50 pH cw fc) λdm bx=>(go9 ?_);refine xC 53 9 ?_;have bt:=RL.nil (ρ:=rpT (rpQ (k+1))) (h:=h3);refine gcL (ι:=Nat×List Int×List Tq×List Value×Value×List Value×Value×List Value×Mem) (λ(i,IX,PS,U,G,au,O,ar,ma)=>(MLe h3 ma/\((rpP rpV (rpP rpV (rpS (rpP rpI (rpP rpI (rpQ (j+1))))))).R ma U (O,(Value.slice none 0 0,s.2.2))/\RL rpI ma au IX/\RL (tPt (k+1)) ma ar PS/\O.oneCell'=true/\i<=(gX s).length/\IX=zF6 s i/\PS=zU2 s i),[(1,vP b1 0),(2,vP b2 0),(3,ee),(4,G),(5,vP b5 0),(6,vI ↑i)],[.gs 53 9 O PS.length ar,.var b5 50 U,.gs 3 1 G IX.length au,.var b2 50 ct,.var b1 50 cu],ma,(gX s).length-i)) (0,(List.replicate s.1.length (0:Int)),[],dm,ed,dr,(.slice none 0 0),[],h3) ?_ ?_
 · exact⟨mle,bx,df.up,bt,I,by omega,I,I⟩
 rintro⟨i,IX,PS,U,G,au,O,ar,ma⟩ ⟨gb,J,ay,ax,fl,ig,hI,hP⟩
 refine yQ ?_;have ip:IX.length=s.1.length:=by rw[hI];exact zBW s i
 have io:PS.length=i:=by rw[hP];exact xH _ _
 refine gc9 (λdk=>?_) λdk=>?_
 ·
  refine go9 ?_;refine lX (xI (0:Int) i underlying32 ty3 bb) λhf fb=>(lX (xA ty3 fb) λhd fa=>?_);obtain⟨rfl,ge,fx⟩:=kF fa;refine go1 ?_;refine gv ((yZ (((gX s).getD i 0).toNat) mh2 underlying32 sizeOf3 I I (by(have:=mG (s:=s) (i:=s.1.length) (k:=i) (show i<(bK s s.1.length).length by show i<(gX s).length;omega);show _;have h2:0<=(gX s).getD i 0/\(gX s).getD i 0<↑s.1.length:=this;omega)) (by(have:=mG (s:=s) (i:=s.1.length) (k:=i) (show i<(bK s s.1.length).length by show i<(gX s).length;omega);show _;have h2:0<=(gX s).getD i 0/\(gX s).getD i 0<↑s.1.length:=this;omega)) nP).cv (show _=zM 1 G ((((gX s).getD i 0).toNat*1+0)) from zbi (zM 1 G) zo0)) I (kM (A:=[_,_]) (F:=λc_=>RL rpI ma c_ (IX.set (((gX s).getD i 0).toNat) (↑i:Int))) (sT sizeOf3 (y1e (y1u _) (0:Int) (((gX s).getD i 0).toNat) (by(have:=mG (s:=s) (i:=s.1.length) (k:=i) (show i<(bK s s.1.length).length by show i<(gX s).length;omega);show _;have h2:0<=(gX s).getD i 0/\(gX s).getD i 0<↑s.1.length:=this;omega))) I nP I I ay (wA oM oM) I) ?_);intro cq bs;refine go2 ?_;refine jD (A:=[]) 13 [] (zai 0 10 [(10,.c),(11,.c),(12,.q),(13,.t)]) yC nX (wV zot) nX (go1 ?_);refine wX I (bY (xB uS (y2i pH) J)) λhc ez=>?_;subst ez;refine go1 ?_;refine wX I (xB uS (y2i pH) an) λha ey=>(go2 ?_);refine wX I (xI (0:Int) i underlying32 ty3 bb) λgz ew=>(wX I (xA ty3 ew) λgy ev=>?_);obtain⟨rfl,gc,fw⟩:=kF ev;refine lJ (F:=λv_=>AtP (tPt k) ma v_ (s.1.getD (((gX s).getD i 0).toNat) zT)) I (rT zT (((gX s).getD i 0).toNat) underlying46 zO I I ey (by(have:=mG (s:=s) (i:=s.1.length) (k:=i) (show i<(bK s s.1.length).length by show i<(gX s).length;omega);show _;have h2:0<=(gX s).getD i 0/\(gX s).getD i 0<↑s.1.length:=this;omega)) (by(have:=mG (s:=s) (i:=s.1.length) (k:=i) (show i<(bK s s.1.length).length by show i<(gX s).length;omega);show _;have h2:0<=(gX s).getD i 0/\(gX s).getD i 0<↑s.1.length:=this;omega)) nP) zBT I ?_;intro gx eu;refine wX I (xA zO eu) λgw es=>?_;refine w_c I (qX (λX=>zL (ρ:=(tPt (k+1))) (m:=1) (xs:=[(s.1.getD (((gX s).getD i 0).toNat) zT)]) (ps':=[(0,_)]) underlying46 yM I I I (xE (yE oM)) e2z (zC I (y1e (y1u _) zT 0 dC) (es.le (Le.t (Le.q (l:=k+1) oM))) zN) zok nP) I ?_)
  rintro gu hu ⟨gg,rfl,dd⟩
  refine w_c I (xJ (A:=[]) (ρ:=(tPt (k+1))) dd dK ?_);intro h4 cj bl;refine gR (A:=[]) (λX=>uW (yA (ρ:=(tPt (k+1))) (bytes:=168) underlying46 yM I I I I nP I I ax.up bl bO bO)) I (xU zox) ?_
  rintro ec ht ⟨be,dq,rfl,dc⟩
  refine go1 ?_;replace J:=J.mono cj;refine yJ (A:=[_]) I (uB sizeOf46 (y2i pH) J (zBX be)) λcp bw=>(go8 ?_);refine gqL ((i+1),(IX.set (((gX s).getD i 0).toNat) (↑i:Int)),(PS++[(s.1.getD (((gX s).getD i 0).toNat) zT)]),cp,G,cq,ec,dq,h4) ?_ ?_
  · exact⟨mle,bw,bs.up,dc,be,by omega,by rw[hI];rfl,by rw[hP];rfl⟩
  omega
 have ei:i=(gX s).length:=by omega
 refine go8 ?_;refine zW (A:=[]) (ρ:=(tPt (k+1))) ax.up ?_;intro h4 cj bk;replace J:=J.mono cj;have bv:(rpP (tLs (k+1)) (rpP rpV (rpS (rpP rpI (rpP rpI (rpQ (j+1))))))).R h4 U (PS,(O,(Value.slice none 0 0,s.2.2)).2):=yFM J bk;refine go4 ?_;refine xC 83 14 ?_;have br:=RL.nil (ρ:=rpP (tPl (4*m+12) (m+n+12)) (rpP tII kD)) (h:=h4);refine zE8 (A:=[_,_]) (ρ:=rpI) ay.up ?_;intro h5 ij bj;refine gcL (ι:=Nat×List Fc×Value×List Value×Value×List Value×Mem) (λ(f,Z,M,ae,D,ad,mb)=>(MLe h5 mb/\((rpS rpI).Is mb M (ixZ s)/\(rpP (tLs (k+1)) (rpP rpV (rpS (rpP rpI (rpP rpI (rpQ (j+1))))))).R mb ae (PS,(D,s.2.2))/\RL (tFc (4*m+12) (m+n+12)) mb ad Z/\D.oneCell'=true/\f<=s.2.1.length/\Z=w3 s f),[(1,vP b1 0),(2,vP b2 0),(4,M),(5,vP b5 0),(7,vI ↑f)],[.gs 83 14 D Z.length ad,.var b5 50 ae,.var b2 50 ct,.var b1 50 cu],mb,s.2.1.length-f)) (0,[],G,U,(.slice none 0 0),[],h5) ?_ ?_
 · exact⟨mle,(Rp.Is.cast bj (by rw[hI,ei];rfl)),bv.up,br.up,I,by omega,I⟩
 rintro⟨f,Z,M,ae,D,ad,mb⟩ ⟨ga,ak,H,aa,cg,fo,hF⟩
 refine yQ ?_;have iq:Z.length=f:=by rw[hF];exact zNZ s f
 have dl:=zUZ hcd3 f fo;refine go5 ?_;refine lX (xB gK (y2u (y2i pH)) an) λgt hp=>(gc4 (λdj=>?_) λdj=>?_)
 ·
  refine go6 ?_;refine lX (xB jH pH an) λgr er=>(go2 ?_);refine cL (ev3 I I I) call128 (λw hs=>zEH (f:=f) hs er ak oM oM oM (by first|omega|exact hcd3|exact aw f oM|exact zBW s _) (by first|omega|exact hcd3|exact aw f oM|exact zBW s _) (by first|omega|exact hcd3|exact aw f oM|exact zBW s _) (by first|omega|exact hcd3|exact aw f oM|exact zBW s _)) λgq h6 ii eq=>(nA (ρ:=(tFc 1 1)) (X:=((zT,(0:Rat)),([],([]:List Nat)))) qI (yF (yF (xE (yE dC)) (yE dC)) (yF wJ kB)) λb8 ir eh=>?_);have bg:=(Le.p (Le.p (Le.t (Le.q (l:=4*m+11) oM)) (Le.q (l:=m+n+11) oM)) (Le.refl _)).R eh;refine zV (A:=[]) (uB sizeOf83 pH bg eq) λco am=>(go5 ?_);refine lX (bY (xB gK (y2u (y2i pH)) H)) λgo ep=>?_;subst ep;refine gv (gV mh1 underlying47 I) I (go5 ?_);refine gcL (ι:=Nat×Mem) (λ(C,mk)=>(MLe h6 mk/\(C<=Z.length/\bS (zN9 (nfF s (ixZ s) f) Z) Z.length=bS (zN9 (nfF s (ixZ s) f) Z) C),[(1,vP b1 0),(2,vP b2 0),(4,M),(5,vP b5 0),(7,vI ↑f),(8,vP b8 0),(9,vI ↑C)],[.var b8 83 co,.gs 83 14 D Z.length ad,.var b5 50 ae,.var b2 50 ct,.var b1 50 cu],mk,C)) (Z.length,h6) ?_ ?_
  · exact⟨mle,by omega,I⟩
  rintro⟨C,mk⟩ ⟨fz,ib,ci⟩
  refine yQ ?_;refine go2 ?_;refine zK 12 _ [] (zai 0 10 [(10,.c),(11,.q)]) yC nX (wV zot) nX (λr hr=>hr) (go3 ?_);refine fL ((0:Int)<(↑C:Int)) (λaq=>?_) (λaq=>?_)
  ·
   rw[xR aq];refine oX I (xB fD pH am) λgn eo=>(go1 ?_);refine oX I (bY (xB gK (y2u (y2i pH)) H)) λgm en=>?_;subst en;refine yU I I I (λh' L' hh hR=>yY I) I (go1 ?_);refine yU I I I (λh' L' hh hR=>(yZ (C-1) (hR _ mh1) underlying47 sizeOf83 I I oM oM nP).cv (show _=zM 1 D (((C-1)*14+0)) from zbi (zM 1 D) zo0)) I (aL (F:=λv_=>(tFc (4*m+12) (m+n+12)).Is mk v_ (Z.getD (C-1) zA)) I I I (vH fD (y1e (y1u _) zA (C-1) oM) I nP I aa.up I) (sL mh1) I ?_);intro gk em;refine w_c I (bH I I (sC (ev2 I I) call129 (λw hs=>zIK hs eo em (by first|omega|exact zci (zEM hcd3 oM) dC|exact zci (dl _ (by rw[hF];exact kO (by rw[<-hF];omega))) dC) (by first|omega|exact zci (zEM hcd3 oM) dC|exact zci (dl _ (by rw[hF];exact kO (by rw[<-hF];omega))) dC)) λeb h7 fm el=>?_));obtain rfl:eb=vB (lsF (nfF s (ixZ s) f) (Z.getD (C-1) zA)):=el;refine gc3 (λav=>?_) λav=>?_
   ·
    refine go9 ?_;refine gqL ((C-1),h7) ?_ ?_ (he:=⟨I,I,I,I,I,I,zbi (λz=>some (vI z)) oM,y1i⟩)
    · exact⟨mle,by omega,by rw[ci];exact zOT oM av⟩
    omega
   refine go8 ?_;refine lX (bY (xB gK (y2u (y2i pH)) H)) λea ce=>?_;subst ce;refine lX (xV (ρ:=(tFc 1 1)) (xK (ps':=[]) underlying83 qI I I (cI underlying83) trivial I (yF (yF (xE (yE dC)) (yE dC)) (yF wJ kB)) zN)) λdz cd=>(zF (zL (ρ:=(tFc 1 1)) (m:=1) (xs:=[((zT,(0:Rat)),([],([]:List Nat)))]) (ps':=[(0,_)]) underlying47 qI I I I (yF (yF (xE (yE dC)) (yE dC)) (yF wJ kB)) e2z (zC I (y1e (y1u _) zA 0 dC) cd zN) zon nP) I I I ?_)
   rintro dy fk ⟨dp,rfl,ba⟩
   refine zW (A:=[]) (ρ:=(tFc 1 1)) ba ?_;intro h8 ih bi;refine xL (A:=[_]) (uW (yA (ρ:=(tFc (4*m+12) (m+n+12))) (bytes:=264) underlying47 qI I I I I nP I I aa.up (bi.le (Le.s (Le.p (Le.p (Le.t (Le.q (l:=4*m+12) oM)) (Le.q (l:=m+n+12) oM)) (Le.refl _)))) bO bO)) I I I ?_
   rintro aj fj ⟨ah,dn,rfl,az⟩
   refine go1 ?_;refine zV (A:=[_,_]) (uB sizeOf47 (y2u (y2i pH)) H (zBX ah)) λcn ac=>(go3 ?_);refine aE (A:=[_]) (by rw[lAz];exact yuu _) (λob fu ao ap=>?_);refine jD (A:=[_]) 10 [] (zai 0 9 [(9,.c)]) yC nX zot nX (go1 ?_);refine wX I (bY (xB gK (y2u (y2i pH)) ac)) λdx cc=>?_;subst cc;refine go2 ?_;refine wK I (λ_ _=>qM (C+1) underlying47 sizeOf83 I I ⟨_,_,ao,ap⟩ oM zoz) I (go1 ?_);refine wX I (bY (xB gK (y2u (y2i pH)) ac)) λdw cb=>?_;subst cb;refine go1 ?_;refine wK I (λ_ _=>qM C underlying47 sizeOf83 I I ⟨_,_,ao,ap⟩ oM zoz) I ?_;refine w_c I (gR (A:=[_]) (λX=>lP (ρ:=(tFc (4*m+12) (m+n+12))) C ao ap underlying47 sizeOf83 I I zoz az) I (xU zox) ?_)
   rintro dv fi ⟨ft,rfl,bq⟩
   refine go4 ?_;refine lX (bY (xB gK (y2u (y2i pH)) ac)) λdu ca=>?_;subst ca;refine go1 ?_;refine lX (xB fD pH am) λdt bz=>(gv ((yZ C mh1 underlying47 sizeOf83 I I oM (by rw[gQ zoz];simp only[lAz,lC,lN];omega) nP).cv (show _=zM 1 aj ((C*14+0)) from zbi (zM 1 aj) zo0)) I (kM (A:=[_]) (F:=λc_=>RL (tFc (4*m+12) (m+n+12)) h8 c_ ((tG (Z++[((zT,(0:Rat)),([],([]:List Nat)))]) C).set C (nfF s (ixZ s) f))) (sT sizeOf83 (y1e (y1u _) zA C (by rw[gQ zoz];simp only[lAz,lC,lN];omega)) I nP I I bq (bz.le (Le.p (Le.p (Le.t (Le.q (l:=4*m+12) oM)) (Le.q (l:=m+n+12) oM)) (Le.refl _))) I) ?_));intro cm bp;refine go8 ?_;refine uO (A:=[]) ?_;refine gqL ((f+1),((tG (Z++[((zT,(0:Rat)),([],([]:List Nat)))]) C).set C (nfF s (ixZ s) f)),M,cn,aj,cm,h8) ?_ ?_
   · exact⟨mle,ak.up,ac,bp,ah,by omega,by rw[lL oM];have ch:bS (zN9 (nfF s (ixZ s) f) Z) Z.length=C:=by{rw[ci];exact zFJ (λe=>by first|omega|exact av e.2)};rw[<-ch,hF];rfl⟩
   omega
  rw[yV aq];refine go7 ?_;refine w_c I (s4 I I I I (uV ?_));refine lX (bY (xB gK (y2u (y2i pH)) H)) λea ce=>?_;subst ce;refine lX (xV (ρ:=(tFc 1 1)) (xK (ps':=[]) underlying83 qI I I (cI underlying83) trivial I (yF (yF (xE (yE dC)) (yE dC)) (yF wJ kB)) zN)) λdz cd=>(zF (zL (ρ:=(tFc 1 1)) (m:=1) (xs:=[((zT,(0:Rat)),([],([]:List Nat)))]) (ps':=[(0,_)]) underlying47 qI I I I (yF (yF (xE (yE dC)) (yE dC)) (yF wJ kB)) e2z (zC I (y1e (y1u _) zA 0 dC) cd zN) zon nP) I I I ?_)
  rintro dy fk ⟨dp,rfl,ba⟩
  refine zW (A:=[]) (ρ:=(tFc 1 1)) ba ?_;intro h7 fm bh;refine xL (A:=[_]) (uW (yA (ρ:=(tFc (4*m+12) (m+n+12))) (bytes:=264) underlying47 qI I I I I nP I I aa.up (bh.le (Le.s (Le.p (Le.p (Le.t (Le.q (l:=4*m+12) oM)) (Le.q (l:=m+n+12) oM)) (Le.refl _)))) bO bO)) I I I ?_
  rintro aj fj ⟨ah,dn,rfl,az⟩
  refine go1 ?_;refine zV (A:=[_,_]) (uB sizeOf47 (y2u (y2i pH)) H (zBX ah)) λcl ab=>(go3 ?_);refine aE (A:=[_]) (by rw[lAz];exact yuu _) (λob fu ao ap=>?_);refine jD (A:=[_]) 10 [] (zai 0 9 [(9,.c)]) yC nX zot nX (go1 ?_);refine wX I (bY (xB gK (y2u (y2i pH)) ab)) λdx cc=>?_;subst cc;refine go2 ?_;refine wK I (λ_ _=>qM (C+1) underlying47 sizeOf83 I I ⟨_,_,ao,ap⟩ oM zoz) I (go1 ?_);refine wX I (bY (xB gK (y2u (y2i pH)) ab)) λdw cb=>?_;subst cb;refine go1 ?_;refine wK I (λ_ _=>qM C underlying47 sizeOf83 I I ⟨_,_,ao,ap⟩ oM zoz) I ?_;refine w_c I (gR (A:=[_]) (λX=>lP (ρ:=(tFc (4*m+12) (m+n+12))) C ao ap underlying47 sizeOf83 I I zoz az) I (xU zox) ?_)
  rintro dv fi ⟨fs,rfl,bo⟩
  refine go4 ?_;refine lX (bY (xB gK (y2u (y2i pH)) ab)) λdu ca=>?_;subst ca;refine go1 ?_;refine lX (xB fD pH am) λdt bz=>(gv ((yZ C mh1 underlying47 sizeOf83 I I oM (by rw[gQ zoz];simp only[lAz,lC,lN];omega) nP).cv (show _=zM 1 aj ((C*14+0)) from zbi (zM 1 aj) zo0)) I (kM (A:=[_]) (F:=λc_=>RL (tFc (4*m+12) (m+n+12)) h7 c_ ((tG (Z++[((zT,(0:Rat)),([],([]:List Nat)))]) C).set C (nfF s (ixZ s) f))) (sT sizeOf83 (y1e (y1u _) zA C (by rw[gQ zoz];simp only[lAz,lC,lN];omega)) I nP I I bo (bz.le (Le.p (Le.p (Le.t (Le.q (l:=4*m+12) oM)) (Le.q (l:=m+n+12) oM)) (Le.refl _))) I) ?_));intro ck bn;refine go8 ?_;refine uO (A:=[]) ?_;refine gqL ((f+1),((tG (Z++[((zT,(0:Rat)),([],([]:List Nat)))]) C).set C (nfF s (ixZ s) f)),M,cl,aj,ck,h7) ?_ ?_
  · exact⟨mle,ak.up,ab,bn,ah,by omega,by rw[lL oM];have ch:bS (zN9 (nfF s (ixZ s) f) Z) Z.length=C:=by{rw[ci];exact zFJ (λe=>by first|omega|exact av e.2)};rw[<-ch,hF];rfl⟩
  omega
 have ef:f=s.2.1.length:=by omega
 refine go7 ?_;refine lX (xB jH pH H) λgj ek=>?_;have bf:=(Le.p (Le.s (Le.t (Le.q (l:=k+1) oM))) (Le.p (Le.refl _) (Le.s (Le.p (Le.refl _) (Le.p (Le.refl _) (Le.q (l:=j+1) oM)))))).R di;refine zV (A:=[_,_]) (uB sizeOf50 pH bf ek) λfr bu=>(go3 ?_);have fq:Z=nrF s:=by rw[hF,ef];exact(zau bd).symm
 have fp:PS=nrP s:=by rw[hP,ei];exact(zau bd).symm
 subst fq;subst fp;refine xW (jA (t:=2) jH mh2 I bu) ?_;intro fv bc bm;refine gG (.cons_cons _ (zse _)) (λE S=>zQ I bc E S) ?_;exact⟨_,_,(Rp.Is.cast bm (by rw[show nrE s=s.2.2 from zau bd])),I,cg,aa.up⟩
end
end Go.Proofs.YtboaboflnckgoaaGreat
namespace Bk
open Go Go.RowKit
section
variable {P:Program}{n:Nat}{w0:World}{h0:Mem}{e:List (Nat×Value)}{L:List Res}{h:Mem}{Q:Exit->Act->World->Prop}{ds:Option Tmp}{ty:TypeId}{ps:String}{af:Array Edge}{gd:Option (Nat×Bool)}{α β:Type}
variable {E:TypeId}{cs:List Value}{v:Value}{ρ:Rp α}{σ:Rp β}{g:List α->β}{s:List α->β->List α}{xs:List α}{off k:Nat}
theorem zIF{w:World}{h':Mem}(hm:.gs E ρ.n v xs.length cs∈L)(pc:Pc (rpA xs.length ρ) off σ g s)(hp:0<σ.n)(r:RL ρ h cs xs)(S:St w0 h0 L h' w):
 ∃b o',∀d,zM 1 v (off+d)=vP b (o'+off+d):=by
 have G:off+σ.n<=xs.length*ρ.n:=pc.fits;have D:=r.len;obtain⟨b,o',H,C,_⟩:=zJT (l:=1) (zIA hm S) zov (show off+1<=cs.length by omega);refine⟨b,o',λd=>?_⟩;rw[C];simp[zM,jL,z3i]
theorem sW{x:Operand}(pc:Pc (rpA xs.length ρ) off σ g s)(hk:k=off)(hp:0<σ.n)(r:RL ρ h cs xs)(hm:.gs E ρ.n v xs.length cs∈L)(hx:zJ e x=some (zM 1 v k)):
 OpV P n w0 h0 ⟨ds,.nilCheck x,ty,ps,af,gd⟩ e L h (zM 1 v k):=by
 subst hk;intro a w D S;obtain⟨b,o',H⟩:=zIF hm pc hp r S;have C:=H 0;rw[zmi,zmi] at C;rw[C] at hx ⊢;exact tH hx a w D S
theorem fN{t:TypeId}{x:Operand}{f:Nat}{fs:Array Field}{fl:Field}{m:Nat}(pc:Pc (rpA xs.length ρ) off σ g s)(hk:k=off)(hp:0<σ.n)(r:RL ρ h cs xs)(hm:.gs E ρ.n v xs.length cs∈L)(ht:P.underlying t=some (.struct fs))(hf:fs[f]?=some fl)(hsz:∀w,(Go.sizeOf fl.type).run P w=.ok (m+1) w)(hx:zJ e x=some (zM 1 v k)):
 OpV P n w0 h0 ⟨ds,.fieldAddr t x f,ty,ps,af,gd⟩ e L h (zM 1 v (k+fl.offset)):=by
 subst hk;intro a w D S;obtain⟨b,o',H⟩:=zIF hm pc hp r S;have C:=H 0;rw[zmi,zmi] at C;rw[H];rw[C] at hx;exact wD ht hf hsz hx a w D S
theorem tV{t E':TypeId}{x y:Operand}{m sz:Nat}{q:Int}(i:Nat)(pc:Pc (rpA xs.length ρ) off σ g s)(hk:k=off)(hp:0<σ.n)(r:RL ρ h cs xs)(hm:.gs E ρ.n v xs.length cs∈L)(ht:P.underlying t=some (.array m E'))(hsz:∀w,(Go.sizeOf E').run P w=.ok sz w)(hx:zJ e x=some (zM 1 v k))(hy:zJ e y=some (vI q))(hq:q=(i:Int))(hi:i<m):
 OpV P n w0 h0 ⟨ds,.indexAddr t x y,ty,ps,af,gd⟩ e L h (zM 1 v (k+i*sz)):=by
 subst hk;intro a w D S;obtain⟨b,o',H⟩:=zIF hm pc hp r S;have C:=H 0;rw[zmi,zmi] at C;rw[H];rw[C] at hx;exact wE i ht hsz hx hy hq hi a w D S
end
end Bk
namespace Go.Proofs.YtboaboflnckgoaaGreat
open Bk Go Tryz
attribute [local irreducible] GL GC GQ W OpV
theorem wZ{w0:World}{h0:Mem}(hs:MLe h0 (mem w0)){n:Int}(hn1:-9223372036854775808<=n)(hn2:n<9223372036854775808):
 Calls prog 126 #[vI n] w0 (Ret w0 h0 (λh r=>kD.Is h r (qF ((n:Int):Rat)))):=by
 refine cb1 6 (vI n) func126 hs ?_;refine zP (zG (asg I I (zX (zI (zP (zG (mv I I (cL (ev1 I) call39 (λw hs=>qP hs oM oM) λv4 h1 aa r4=>?_))))))));obtain⟨J,M,C,D,G,H⟩:=qN r4;subst C;refine cL (ev1 I) call173 (λw hs=>zQ7 hs D G oM) λv5 h2 Z O=>?_;subst O;have U:=j3 ((n:Int):Rat);refine asg I I (zX (zI (aD (zD I I ?_))));exact(pS (zWX ((n:Int):Rat)))
set_option maxHeartbeats 1000000 in
theorem zGY{w0:World}{h0:Mem}(hs:MLe h0 (mem w0)){k l1 l2:Nat}{vL:Value}{L:(List (List Tq))}(rL:(tLL k).Is h0 vL L){vlo:Value}{lo:Rat}(rlo:(rpQ l1).Is h0 vlo lo){vhi:Value}{hi:Rat}(rhi:(rpQ l2).Is h0 vhi hi)(hcd0:k<=20)(hcd1:l1<=20)(hcd2:l2<=20)(hcd3:∀x,x∈L->pK x)(hcd4:prE L lo hi=0->okS (prR L lo hi)):
 Calls prog 81 #[vL,vlo,vhi] w0 (rG w0 h0 (λh r L_=>∃u0 vF cs,r=.tuple #[u0,vI (prE L lo hi)]/\(rpP (tLs (k+l1+l2+20)) (rpP rpV (rpS (rpP rpI (rpP rpI (rpQ 5)))))).Is h u0 (prP L lo hi,(vF,[]))/\L_=[.gs 83 14 vF (prF L lo hi).length cs]/\vF.oneCell'=true/\RL (tFc (1000*k+1000*l1+1000*l2+2000) (1000*k+1000*l1+1000*l2+2000)) h cs (prF L lo hi))):=by
 refine cb3 341 vL vlo vhi func81 hs ?_;refine zP (zG (nB rlo λb4 ea dc=>(nB rhi λb5 dz db=>(nA (ρ:=(rpP (tLs 1) (rpP rpV (rpS (rpP rpI (rpP rpI (rpQ 1))))))) (X:=([],((Value.slice none 0 0),[]))) jM (yF wJ (yF sR wJ)) λb6 dy bi=>(asg (v:=vI (0)) I I (zX (zI (zP (zP (zG (mv I I (cL (ev1 I) call123 (λw hs=>zGX hs rL oM (by first|omega|exact hcd3)) λzx h1 dv ss=>?_))))))))))));obtain⟨jl,rfl,lm⟩:=ss
 change (rpS rpI).Is h1 jl (tK L 0 1) at lm
 refine mv I I (gv (gC (vs:=[_,_]) I I) I (gv (gC (vs:=[_,_]) I I) I (asg I I (asg I I (zX (zI (zP (zG (mv I I (gv (lZ (q:=0) I I) I (zX (vD (e':=[(0,_),(4,_),(5,_),(6,_),(9,_),(40,_)]) e6 (zI ?_)))))))))))));refine cnd (λgk=>?_) λgk=>?_
 ·
  refine zP (zG (lX (xV (ρ:=(rpP (tLs 1) (rpP rpV (rpS (rpP rpI (rpP rpI (rpQ 1))))))) (xK (ps':=[]) underlying50 jM I I (rS underlying50) trivial I (yF wJ (yF sR wJ)) zN)) λzw sr=>(mv I I ?_)));replace bi:=bi.mono dv;refine zV (A:=[]) (uB sizeOf50 pH bi sr) λyy nw=>(asg I I (zX (zI (aD (aV ?_)))));obtain⟨e1,e2,e3⟩:=pr_1 (lo:=lo) (hi:=hi) gk;rw[e1,e2,e3];refine bV 83 14 ?_;have nu:=RL.nil (ρ:=rpP (tPl (1000*k+1000*l1+1000*l2+2000) (1000*k+1000*l1+1000*l2+2000)) (rpP tII kD)) (h:=h1);refine xW (jA (t:=6) jH mh1 I nw) ?_;intro ze ln ns;refine gG (.cons_cons _ (zse _)) (λE S=>vO I ln (jE I) E S) ?_;exact⟨_,_,_,I,(Rp.Is.le ns (Le.p (Le.s (Le.t (Le.q (l:=k+l1+l2+20) oM))) (Le.p (Le.refl _) (Le.s (Le.p (Le.refl _) (Le.p (Le.refl _) (Le.q (l:=5) dC))))))),I,I,nu⟩
 refine uR (zI (zP (zP (zG (mv I I ?_)))));have gg:vS L 0 1=0:=zdi gk;have dt:=zY3 gg;have lw:=zWL dt.2;replace rL:=rL.mono dv;refine cL (ev1 I) call124 (λw hs=>zGZ hs rL oM (by first|omega|exactλl hl=>zci (dt.2 l hl) dC) (by first|omega|exactλl hl=>zci (dt.2 l hl) dC)) λrt h2 eh sq=>?_;obtain rfl:rt=vI (ouZ L):=sq;have tb:=zAA L L.length;refine gv (lZ (q:=1) I I) I (zX (zI ?_));refine cnd (λdx=>?_) λdx=>?_
 ·
  refine zP (zG (lX (xV (ρ:=(rpP (tLs 1) (rpP rpV (rpS (rpP rpI (rpP rpI (rpQ 1))))))) (xK (ps':=[]) underlying50 jM I I (rS underlying50) trivial I (yF wJ (yF sR wJ)) zN)) λzv sp=>?_));replace bi:=bi.mono (dv.trans eh);refine zV (A:=[]) (uB sizeOf50 pH bi sp) λyx nv=>(asg (v:=vI (33)) I I (zX (zI (aD (aV ?_)))));obtain⟨e1,e2,e3⟩:=yF2 (lo:=lo) (hi:=hi) gg dx;rw[e1,e2,e3];refine bV 83 14 ?_;have nt:=RL.nil (ρ:=rpP (tPl (1000*k+1000*l1+1000*l2+2000) (1000*k+1000*l1+1000*l2+2000)) (rpP tII kD)) (h:=h2);refine xW (jA (t:=6) jH mh1 I nv) ?_;intro uw ir ka;refine gG (.cons_cons _ (zse _)) (λE S=>vO I ir (jE I) E S) ?_;exact⟨_,_,_,I,(Rp.Is.le ka (Le.p (Le.s (Le.t (Le.q (l:=k+l1+l2+20) oM))) (Le.p (Le.refl _) (Le.s (Le.p (Le.refl _) (Le.p (Le.refl _) (Le.q (l:=5) dC))))))),I,I,nt⟩
 refine uR (zI (zP (zP (zG ?_))));replace dc:=dc.mono (dv.trans eh);refine lX (xB yI pH dc) λzu so=>?_;replace db:=db.mono (dv.trans eh);refine lX (xB yI pH db) λzt sn=>(cL (ev2 I I) call18 (λw hs=>fQ hs so sn oM) λrs h3 du sm=>?_);obtain rfl:rs=vI (wQ lo hi):=sm;have tq:=kR lo hi;refine gv (cM (q:=0) I I) I (zX (zI ?_));refine cnd (λfc=>?_) λfc=>?_
 ·
  refine zI9 (e':=[(6,_)]) ⟨I,y1i⟩ (zP (zG (lX (xV (ρ:=(rpP (tLs 1) (rpP rpV (rpS (rpP rpI (rpP rpI (rpQ 1))))))) (xK (ps':=[]) underlying50 jM I I (rS underlying50) trivial I (yF wJ (yF sR wJ)) zN)) λzs sl=>?_)));replace bi:=bi.mono ((dv.trans eh).trans du);refine zV (A:=[]) (uB sizeOf50 pH bi sl) λuh ll=>(asg (v:=vI (9)) I I (zX (zI (aD (aV ?_)))));obtain⟨e1,e2,e3⟩:=pr_9 gg (zdi dx) fc;rw[e1,e2,e3];refine bV 83 14 ?_;have kl:=RL.nil (ρ:=rpP (tPl (1000*k+1000*l1+1000*l2+2000) (1000*k+1000*l1+1000*l2+2000)) (rpP tII kD)) (h:=h3);refine xW (jA (t:=6) jH mh1 I ll) ?_;intro uv iq jz;refine gG (.cons_cons _ (zse _)) (λE S=>vO I iq (jE I) E S) ?_;exact⟨_,_,_,I,(Rp.Is.le jz (Le.p (Le.s (Le.t (Le.q (l:=k+l1+l2+20) oM))) (Le.p (Le.refl _) (Le.s (Le.p (Le.refl _) (Le.p (Le.refl _) (Le.q (l:=5) dC))))))),I,I,kl⟩
 refine uR (zI (zP (zG (nA (ρ:=(rpP rpV (rpP rpV (rpS (rpP rpI (rpP rpI (rpQ 1))))))) (X:=((Value.slice none 0 0),((Value.slice none 0 0),[]))) jM (yF sR (yF sR wJ)) λaa eb oe=>(zX (zI (zP (zG (asg I I (zX (zI (zP (zG ?_)))))))))))));refine asg I I (zX (zI (zP (zG (asg I I (zX (zI (zP (zP (zG (asg (v:=vI (0)) I I (zX (zI ?_)))))))))))));refine vG (xC 116 2 ?_);have kk:=RL.nil (ρ:=rpA 2 rpI) (h:=h3);refine xC 53 9 ?_;have kj:=RL.nil (ρ:=rpT (rpQ (k+1))) (h:=h3);refine xC 32 1 ?_;have ki:=RL.nil (ρ:=rpS rpI) (h:=h3);refine gcL (ι:=Nat×List (List Int)×List Tq×List (List Int)×Value×List Value×Value×List Value×Value×List Value×Mem) (λ(i,ED,J,II,ad,au,D,bc,C,aw,ma)=>(MLe h3 ma/\(RL (rpA 2 rpI) ma au ED/\RL (tPt (k+1)) ma bc J/\RL (rpS rpI) ma aw II/\i<=L.length/\ED.length=oP L i/\J=ptB L i/\II=ptN L i),[(0,vL),(4,vP b4 0),(5,vP b5 0),(6,vP b6 0),(10,vP aa 0),(11,ad),(12,D),(13,C),(14,vI ↑i)],[.gs 32 1 C II.length aw,.gs 53 9 D J.length bc,.gs 116 2 ad ED.length au,.var aa 50 eb,.var b6 50 dy,.var b5 26 dz,.var b4 26 ea],ma,L.length-i)) (0,[],[],[],(.slice none 0 0),[],(.slice none 0 0),[],(.slice none 0 0),[],h3) ?_ ?_
 · exact⟨mle,kk,kj,ki,by omega,I,I,I⟩
 rintro⟨i,ED,J,II,ad,au,D,bc,C,aw,ma⟩ ⟨cf,kh,aj,ac,tn,ri,bj,ch⟩
 refine yQ ?_;have tr:=zH5 L i;have rc:=lw i tn;have hIl:II.length=i:=by rw[ch];exact xH _ _
 rw[<-bj] at tr;refine zP (zP (zG (mv I I (mv I I ?_))));replace rL:=rL.mono ((eh.trans du).trans cf);refine gv (uX underlying115 I rL) I (gv (yL I I) I (zX (zI ?_)));refine cnd (λrh=>?_) λrh=>?_
 ·
  refine uR (zI (zP (vG (zP (zG (asg I I (zX (zI (zP (zP (zG (asg (v:=vI (0)) I I (zX ?_)))))))))))));refine zI (vG (xC 3 1 ?_));have kg:=RL.nil (ρ:=rpI) (h:=ma);refine gcL (ι:=Nat×List Tq×List Int×Value×List Value×Value×List Value×Mem) (λ(q,B2,LN,M,bk,bd,dk,mb)=>(MLe ma mb/\(RL (tPt (k+1)) mb bk B2/\RL rpI mb dk LN/\q<=(L.getD i []).length/\B2=plB (ptB L i) (L.getD i []) q/\LN=plN (ptB L i) (L.getD i []) q),[(0,vL),(4,vP b4 0),(5,vP b5 0),(6,vP b6 0),(10,vP aa 0),(11,ad),(12,M),(13,C),(14,vI ↑i),(15,bd),(16,vI ↑q)],[.gs 3 1 bd LN.length dk,.gs 32 1 C II.length aw,.gs 53 9 M B2.length bk,.gs 116 2 ad ED.length au,.var aa 50 eb,.var b6 50 dy,.var b5 26 dz,.var b4 26 ea],mb,(L.getD i []).length-q)) (0,J,[],D,bc,(.slice none 0 0),[],ma) ?_ ?_
  · exact⟨mle,aj,kg,by omega,by rw[bj];rfl,I⟩
  rintro⟨q,B2,LN,M,bk,bd,dk,mb⟩ ⟨ji,ai,bg,hq1,ff,iy⟩
  refine yQ ?_;have ts:=zH7 (ptB L i) (L.getD i []) q;rw[<-ff,<-bj] at ts;have tt:LN.length=q:=by rw[iy];exact xH _ _
  have io:=dt.2 i oM;refine zP (zP (zG (mv I I (mv I I (mv I I ?_)))));replace rL:=rL.mono ji;refine lX (xI [] i underlying115 uS rL) λzr sk=>(lX (xA uS sk) λzq sj=>(gv (uX underlying46 I sj) I (gv (yL I I) I (zX (zI ?_)))));refine cnd (λrg=>?_) λrg=>?_
  ·
   refine uR (zI (zP (vG (zP (zG (asg (v:=vI (-1)) I I (zX (zI (zP (zP (zG (asg (v:=vI (0)) I I (zX ?_)))))))))))));refine zI (vG ?_);refine gcL (ι:=Nat×Mem) (λ(j,mj)=>(MLe mb mj/\(j<=B2.length),[(0,vL),(4,vP b4 0),(5,vP b5 0),(6,vP b6 0),(10,vP aa 0),(11,ad),(12,M),(13,C),(14,vI ↑i),(15,bd),(16,vI ↑q),(17,vI (iW B2 ((L.getD i []).getD q zT) j)),(18,vI ↑j)],[.gs 3 1 bd LN.length dk,.gs 32 1 C II.length aw,.gs 53 9 M B2.length bk,.gs 116 2 ad ED.length au,.var aa 50 eb,.var b6 50 dy,.var b5 26 dz,.var b4 26 ea],mj,B2.length-j)) (0,mb) ?_ ?_
   · exact⟨mle,oM⟩
   rintro⟨j,mj⟩ ⟨cp,rb⟩
   refine yQ ?_;have hj1:=rb;have hfr:=zFA B2 ((L.getD i []).getD q zT) j;refine zP (zP (zG (mv I I (mv I I (gv (gV mh2 underlying46 I) I (gv (yL I I) I (zX (zI ?_))))))));refine cnd (λrf=>?_) λrf=>?_
   ·
    refine uR (zI (zP (vG (zP ?_))));refine zK 30 _ [] (zai 0 13 ((13,.c)::zai 14 14 [(28,.c),(29,.q)])) yC nX (wV zot) nX (λr hr=>hr) (qH I I I (qH I I I (w_q I (λh' L' hh hR=>(yZ j (hR _ mh2) underlying46 sizeOf53 I I I bO nP).cv (show _=zM 1 M ((j*9+0)) from zbi (zM 1 M) zo0)) I ?_)));replace ai:=ai.mono cp;refine w_q I (λh' L' hh hR=>(tV (sz:=3) (q:=0) 0 (y1e (y1u _) zT j bO) I nP (ai.mono hh) (hR _ mh2) underlying53 sizeOf26 I I I dC).cv (show _=zM 1 M ((j*9+0)) from zbi (zM 1 M) (by show(j*9+0)+0*3=(j*9+0);omega))) I (lJ (F:=λv_=>(rpQ (k+1)).Is mj v_ ((B2.getD j zT).x)) I (vH yI (y1e (y2e (y1u _)) zT j bO) I nP I ai I) (sL mh2) I ?_);intro zp si;refine qH I I I (qH I I I ?_);replace rL:=rL.mono cp;refine wX I (xI [] i underlying115 uS rL) λzo sh=>(wX I (xA uS sh) λzn sf=>(qH I I I (wX I (xI zT q underlying46 zO sf) λzm se=>(lJ (F:=λv_=>AtP (rpQ k) mj v_ (((L.getD i []).getD q zT).x)) I (zGR (q:=0) 0 underlying53 sizeOf26 (y2e (y1u _)) I I I se I dC I) zBT I ?_))));intro zl sd;refine wX I (xA yI sd) λzk sc=>?_;refine w_c I (sC (ev2 I I) call15 (λw hs=>qT hs si sc oM) λrr h4 aq sb=>?_);obtain rfl:rr=vB (((B2.getD j zT).x)=(((L.getD i []).getD q zT).x)):=sb;refine qH I I I ?_;refine fL (((B2.getD j zT).x)=(((L.getD i []).getD q zT).x)) (λel=>?_) (λel=>?_)
    ·
     rw[xR el];refine yU I I I (λh' L' hh hR=>yY I) I (yU I I I (λh' L' hh hR=>yY I) I (yU I I I (λh' L' hh hR=>(yZ j (hR _ mh2) underlying46 sizeOf53 I I I bO nP).cv (show _=zM 1 M ((j*9+0)) from zbi (zM 1 M) zo0)) I ?_));replace ai:=ai.mono aq;refine yU I I I (λh' L' hh hR=>(tV (sz:=3) (q:=1) 1 (y1e (y1u _) zT j bO) I nP (ai.mono hh) (hR _ mh2) underlying53 sizeOf26 I I I dC).cv (show _=zM 1 M ((j*9+3)) from zbi (zM 1 M) (by show(j*9+0)+1*3=(j*9+3);omega))) I (aL (F:=λv_=>(rpQ (k+1)).Is h4 v_ ((B2.getD j zT).y)) I I I (vH yI (y1e (y3i (y1u _)) zT j bO) I nP I ai I) (sL mh2) I ?_);intro zj sa;refine yU I I I (λh' L' hh hR=>yY I) I (yU I I I (λh' L' hh hR=>yY I) I ?_);replace rL:=rL.mono aq;refine oX I (xI [] i underlying115 uS rL) λzi ry=>(oX I (xA uS ry) λzh rx=>(yU I I I (λh' L' hh hR=>yY I) I (oX I (xI zT q underlying46 zO rx) λzg rv=>(aL (F:=λv_=>AtP (rpQ k) h4 v_ (((L.getD i []).getD q zT).y)) I I I (zGR (q:=1) 1 underlying53 sizeOf26 (y3i (y1u _)) I I I rv I dC I) zBT I ?_))));intro zf ru;refine oX I (xA yI ru) λyd qu=>?_;refine w_c I (bH I I (sC (ev2 I I) call15 (λw hs=>qT hs sa qu oM) λnr h5 cm qt=>?_));obtain rfl:nr=vB (((B2.getD j zT).y)=(((L.getD i []).getD q zT).y)):=qt;refine wK I (λ_ _=>pM I I) I (pF (vD (e':=[(0,_),(4,_),(5,_),(6,_),(10,_),(11,_),(12,_),(13,_),(14,_),(15,_),(16,_),(17,_),(18,_),(102,_)]) ⟨I,I,I,I,I,I,I,I,I,I,I,I,I,I,y1i⟩ (zI ?_)));refine cnd (λeo=>?_) λeo=>?_
     ·
      refine zG (mv I I (asg I I (zX (sM (zI (zG (mv I I (gv (zY (q:=1) I I oM oM) I (asg I I (zX ?_))))))))));refine gqL ((j+1),h5) ?_ ?_ (he:=⟨I,I,I,I,I,I,I,I,I,I,I,zbi (λz=>some (vI z)) (fd_t ⟨by assumption,eo⟩),I,y1i⟩)
      · exact⟨mle,oM⟩
      omega
     refine uR (sM (zI (zG (mv I I (gv (zY (q:=1) I I oM oM) I (asg I I (zX ?_)))))));refine gqL ((j+1),h5) ?_ ?_ (he:=⟨I,I,I,I,I,I,I,I,I,I,I,zbi (λz=>some (vI z)) (yEL (λe=>eo e.2)),I,y1i⟩)
     · exact⟨mle,oM⟩
     omega
    rw[yV el];refine vM I I I I I (vM I I I I I (vM I I I I I (vM I I I I I (vM I I I I I (vM I I I I I (vM I I I I I (vM I I I I I (vM I I I I I (vM I I I I I (vM I I I I I (vM I I I I I (vM I I I I I ?_))))))))))));refine w_c I (s4 I I I I (wK I (λ_ _=>pO I I) I (pF (vD (e':=[(0,_),(4,_),(5,_),(6,_),(10,_),(11,_),(12,_),(13,_),(14,_),(15,_),(16,_),(17,_),(18,_),(102,_)]) ⟨I,I,I,I,I,I,I,I,I,I,I,I,I,I,y1i⟩ (zI (zHF I (uR (sM (zI (zG (mv I I (gv (zY (q:=1) I I oM oM) I (asg I I ?_)))))))))))));refine zX ?_;refine gqL ((j+1),h4) ?_ ?_ (he:=⟨I,I,I,I,I,I,I,I,I,I,I,zbi (λz=>some (vI z)) (yEL (λe=>absurd e.1 zo3)),I,y1i⟩)
    · exact⟨mle,oM⟩
    omega
   refine gO (uN (uN (gN (zI (zP (zP (zG (mv I I (gv (yL (q:=0) I I) I (zX (zI ?_)))))))))));refine cnd (λen=>?_) λen=>?_
   ·
    have ej:j=B2.length:=by omega
    have dw:fdZ B2 ((L.getD i []).getD q zT)<0:=by unfold fdZ;rw[<-ej];exact en
    refine zP (zG (mv I I (gv (gV mh2 underlying46 I) I (asg I I (zX (zI (zG (mv I I (mv I I (mv I I ?_))))))))));replace rL:=rL.mono cp;refine lX (xI [] i underlying115 uS rL) λyc qs=>(lX (xA uS qs) λyb qr=>(mv I I (lX (xI zT q underlying46 zO qr) λya qq=>(lX (xA zO qq) λxz qp=>(zF (zL (ρ:=(tPt (k+1))) (m:=1) (xs:=[((L.getD i []).getD q zT)]) (ps':=[(0,_)]) underlying46 yM I I I (xE (yE oM)) e2z (zC I (y1e (y1u _) zT 0 dC) (qp.le (Le.t (Le.q (l:=k+1) oM))) zN) zok nP) I I I ?_)))))
    rintro xy yt ⟨ur,rfl,lc⟩
    refine zW (A:=[]) (ρ:=(tPt (k+1))) lc ?_;intro h4 aq jx;replace ai:=ai.mono (cp.trans aq);refine xL (A:=[_,_]) (uW (yA (ρ:=(tPt (k+1))) (bytes:=168) underlying46 yM I I I I nP I I ai jx bO bO)) I I I ?_
    rintro nq ys ⟨th,ne,rfl,lb⟩
    refine asg I I (zX (vD (e':=[(0,_),(4,_),(5,_),(6,_),(10,_),(11,_),(13,_),(14,_),(15,_),(16,_),(17,_),(12,_)]) e12 (zI (zG (mv I I (mv I I (zF (zL (ρ:=rpI) (m:=1) (xs:=[(↑B2.length:Int)]) (ps':=[(0,_)]) underlying32 jJ I I I wN e2z (zC I (y1e (y1u _) (0:Int) 0 dC) (wA oM oM) zN) zoj nP) I I I ?_)))))))
    rintro np qy ⟨nd,rfl,eg⟩
    refine zW (A:=[]) (ρ:=rpI) eg ?_;intro h5 cm jw;replace bg:=bg.mono ((cp.trans aq).trans cm);refine xL (A:=[]) (uW (yA (ρ:=rpI) (bytes:=8) underlying32 jJ I I I I nP I I bg jw bO bO)) I I I ?_
    rintro fk qx ⟨lv,ew,rfl,ee⟩
    refine asg I I (zX (sM (zI (zG (mv I I (gv (zY (q:=1) I I oM oM) I (asg I I (zX ?_))))))));refine gqL ((q+1),(B2++[((L.getD i []).getD q zT)]),(LN++[(↑B2.length:Int)]),nq,ne,fk,ew,h5) ?_ ?_
    · exact⟨mle,lb.up,ee,by omega,by rw[ff] at dw ⊢;exact(zau dw).symm,by rw[iy,show(↑B2.length:Int)=adN (plB (ptB L i) (L.getD i []) q) ((L.getD i []).getD q zT) from by rw[ff] at dw ⊢;exact(zau dw).symm];rfl⟩
    omega
   have ej:j=B2.length:=by omega
   have dw:¬fdZ B2 ((L.getD i []).getD q zT)<0:=by unfold fdZ;rw[<-ej];exact en
   refine uR (zI (zG (mv I I (mv I I (zF (zL (ρ:=rpI) (m:=1) (xs:=[(iW B2 ((L.getD i []).getD q zT) j)]) (ps':=[(0,_)]) underlying32 jJ I I I wN e2z (zC I (y1e (y1u _) (0:Int) 0 dC) (wA oM oM) zN) zoj nP) I I I ?_)))))
   rintro np qy ⟨nd,rfl,eg⟩
   refine zW (A:=[]) (ρ:=rpI) eg ?_;intro h4 aq jv;replace bg:=bg.mono (cp.trans aq);refine xL (A:=[]) (uW (yA (ρ:=rpI) (bytes:=8) underlying32 jJ I I I I nP I I bg jv bO bO)) I I I ?_
   rintro fk qx ⟨lv,ew,rfl,ee⟩
   refine asg I I (zX (sM (vD (e':=[(0,_),(4,_),(5,_),(6,_),(10,_),(11,_),(12,_),(13,_),(14,_),(16,_),(15,_)]) ⟨I,I,I,I,I,I,I,I,I,I,I,y1i⟩ (zI (zG (mv I I (gv (zY (q:=1) I I oM oM) I (asg I I (zX ?_)))))))));refine gqL ((q+1),B2,(LN++[(iW B2 ((L.getD i []).getD q zT) j)]),M,bk,fk,ew,h4) ?_ ?_
   · exact⟨mle,ai.up,ee,by omega,by rw[ff] at dw ⊢;exact(zae dw).symm,by rw[iy,show iW B2 ((L.getD i []).getD q zT) j=adN (plB (ptB L i) (L.getD i []) q) ((L.getD i []).getD q zT) from by rw[ej,ff] at *;exact(zae dw).symm];rfl⟩
   omega
  have ek:q=(L.getD i []).length:=by omega
  refine gO (uN (uN (gN (zI (zP (zG (mv I I (mv I I (zW (A:=[]) (ρ:=rpI) bg ?_)))))))));intro h4 aq be;refine zF (zL (ρ:=(rpS rpI)) (m:=1) (xs:=[LN]) (ps':=[(0,_)]) underlying81 jC I I I wJ e2z (zC I (y1e (y1u _) [] 0 dC) be zN) zoj nP) I I I ?_
  rintro xx yr ⟨uq,rfl,la⟩
  refine zW (A:=[]) (ρ:=(rpS rpI)) la ?_;intro h5 cm ju;replace ac:=ac.mono ((ji.trans aq).trans cm);refine xL (A:=[]) (uW (yA (ρ:=(rpS rpI)) (bytes:=24) underlying81 jC I I I I nP I I ac ju bO bO)) I I I ?_
  rintro fj yq ⟨tg,gr,rfl,kz⟩
  refine asg I I (zX (vD (e':=[(0,_),(4,_),(5,_),(6,_),(10,_),(11,_),(12,_),(14,_),(15,_),(13,_)]) e10 (zI (zP (zG (asg (v:=vI (0)) I I (zX (zI (vG ?_)))))))));refine gcL (ι:=Nat×List (List Int)×Value×List Value×Mem) (λ(e,E2,bu,dj,me)=>(MLe h5 me/\(RL (rpA 2 rpI) me dj E2/\e<=LN.length/\E2.length=oP L i+e),[(0,vL),(4,vP b4 0),(5,vP b5 0),(6,vP b6 0),(10,vP aa 0),(11,bu),(12,M),(13,fj),(14,vI ↑i),(15,bd),(19,vI ↑e)],[.gs 32 1 fj (II++[LN]).length gr,.gs 53 9 M B2.length bk,.gs 116 2 bu E2.length dj,.var aa 50 eb,.var b6 50 dy,.var b5 26 dz,.var b4 26 ea],me,LN.length-e)) (0,ED,ad,au,h5) ?_ ?_
  · exact⟨mle,kh.up,by omega,ri⟩
  rintro⟨e,E2,bu,dj,me⟩ ⟨ra,cw,rd,tv⟩
  refine yQ ?_;have io:=dt.2 i oM;refine zP (zP (zG (mv I I (mv I I ?_))));replace be:=be.mono (cm.trans ra);refine gv (uX underlying32 I be) I (gv (yL I I) I (zX (zI ?_)));refine cnd (λmi=>?_) λmi=>?_
  ·
   refine uR (zI (zP (vG ?_)));refine jD (A:=[_,_]) 17 [] (zai 0 14 [(14,.c),(15,.c),(16,.q)]) yC nX (wV zot) nX (qH I I I (qH I I I (qH I I I (wX I (xI (0:Int) e underlying32 ty3 be) λxw qo=>(wX I (xA ty3 qo) λxv qn=>?_)))));obtain⟨rfl,tm,sy⟩:=kF qn;refine qH I I I (qH I I I (wK I (λ_ _=>zY (q:=1) I I oM oM) I (qH I I I (w_q I (λh' L' hh hR=>uX underlying32 I (be.mono hh)) I (wK I (λ_ _=>wO I I oM oM) I (wX I (xI (0:Int) ((e+1)%LN.length) underlying32 ty3 be (hi:=by exact zcu _ oM)) λxu qm=>(wX I (xA ty3 qm) λxt ql=>?_)))))));obtain⟨rfl,tl,sx⟩:=kF ql;refine wX I (xV (ρ:=(rpA 2 rpI)) (wL (ps':=[(0,_),(1,_)]) underlying116 zDF I I sizeOf3 e4z I (yBB 2 wN) (zC I (y1e (y1u _) (0:Int) 0 dC) (wA oM oM) (zC I (y1e (y1u _) (0:Int) 1 dC) (wA oM oM) zN)))) λxr qk=>?_;refine w_c I (qX (λX=>zL (ρ:=(rpA 2 rpI)) (m:=1) (xs:=[[(LN.getD e (0:Int)),(LN.getD ((e+1)%LN.length) (0:Int))]]) (ps':=[(0,_)]) underlying153 zDF I I I (yBB 2 wN) e2z (zC I (y1e (y1u _) (List.replicate 2 (0:Int)) 0 dC) qk zN) (show 1*2<=16777216 from by decide) nP) I ?_)
   rintro xq yp ⟨uo,rfl,ky⟩
   refine w_c I (xJ (A:=[]) (ρ:=(rpA 2 rpI)) ky dK ?_);intro h6 dd jt;replace cw:=cw.mono dd;refine gR (A:=[_,_]) (λX=>uW (yA (ρ:=(rpA 2 rpI)) (bytes:=16) underlying153 zDF I I I I nP I I cw jt bO bO)) I (xU zox) ?_
   rintro no yo ⟨tf,nc,rfl,kx⟩
   refine zFR I I I (pF (sM (vD (e':=[(0,_),(4,_),(5,_),(6,_),(10,_),(12,_),(13,_),(14,_),(15,_),(19,_),(11,_)]) ⟨I,I,I,I,I,I,I,I,I,I,I,y1i⟩ (zI (zG (mv I I (gv (zY (q:=1) I I oM oM) I (asg I I (zX ?_)))))))));refine gqL ((e+1),(E2++[[(LN.getD e (0:Int)),(LN.getD ((e+1)%LN.length) (0:Int))]]),no,nc,h6) ?_ ?_
   · exact⟨mle,kx,by omega,by rw[lAz,tv];rfl⟩
   omega
  have tu:E2.length=oP L i+LN.length:=by omega
  refine gO (uN (uN (gN (sM (zI (zG (mv I I (gv (zY (q:=1) I I oM oM) I (asg I I (zX ?_))))))))));refine gqL ((i+1),E2,B2,(II++[LN]),bu,dj,M,bk,fj,gr,me) ?_ ?_
  · exact⟨mle,cw,ai.up,kz.up,by omega,by rw[tu,tt,ek];rfl,by rw[ff,ek];rfl,by rw[ch,iy,ek];rfl⟩
  omega
 have ei:i=L.length:=by omega
 have to:=lw L.length oM;rw[ei] at ri bj ch;have hI1:II.length=L.length:=by rw[ch];exact xH _ _
 have mm:∀i,i<L.length->(II.getD i []).length=(L.getD i []).length:=λi hi=>by rw[ch];exact zJE hi
 have gb:∀i q,i<L.length->q<(II.getD i []).length->0<=(II.getD i []).getD q 0/\(II.getD i []).getD q 0<↑J.length:=λi q hi hq=>by rw[ch] at hq ⊢;rw[bj];exact zL3 hi hq
 refine gO (uN (uN (gN (zI (zP (zG (mv I I (gv (gV mh1 underlying46 I) I (asg I I (zX (zI (zP (zP ?_)))))))))))));refine zG (mv I I (gv (aA (p:=2) I I oM oM) I (gv (nF (q:=512) I I) I ?_)));refine gU 6 158 (vB (((512:Int)<((2:Int)*(↑J.length:Int)))\/((256:Int)<((↑ED.length:Int)+(2:Int))))) ?_ ?_
 ·
  refine yD ((512:Int)<((2:Int)*(↑J.length:Int))) (λhg=>?_) (λhg=>?_)
  ·
   refine gT hg I (lG I I I I I I (lG I I I I I I (lG I I I I I I (lG I I I I I I (gv (pM I I) I (zX (gqU ?_)))))));exact y0e (vV hg)
  refine gF hg I (dM I I I (mv I I (dM I I I (gv (gV mh2 underlying153 I) I (dM I I I (gv (zY (q:=2) I I oM oM) I (dM I I I (gv (nF (q:=256) I I) I (gv (pO I I) I (zX (gqU ?_)))))))))));exact y0e (vW hg)
 refine zX (zI ?_);refine cnd (λmh=>?_) λmh=>?_
 ·
  have ls:prB L:=by unfold prB;show 512<2*(ptB L L.length).length\/_;rw[<-bj];omega
  refine zP (zG (lX (xV (ρ:=(rpP (tLs 1) (rpP rpV (rpS (rpP rpI (rpP rpI (rpQ 1))))))) (xK (ps':=[]) underlying50 jM I I (rS underlying50) trivial I (yF wJ (yF sR wJ)) zN)) λxp qj=>?_));replace bi:=bi.mono (((dv.trans eh).trans du).trans cf);refine zV (A:=[_,_,_,_]) (uB sizeOf50 pH bi qj) λug lk=>(asg (v:=vI (2)) I I (zX (zI (aD (aV ?_)))));obtain⟨e1,e2,e3⟩:=pr_2 gg (zdi dx) fc ls;rw[e1,e2,e3];refine bV 83 14 ?_;have kf:=RL.nil (ρ:=rpP (tPl (1000*k+1000*l1+1000*l2+2000) (1000*k+1000*l1+1000*l2+2000)) (rpP tII kD)) (h:=ma);refine xW (jA (t:=6) jH mh5 I lk) ?_;intro ut ip jy;refine gG (.cons_cons _ (zse _)) (λE S=>vO I ip (jE I) E S) ?_;exact⟨_,_,_,I,(Rp.Is.le jy (Le.p (Le.s (Le.t (Le.q (l:=k+l1+l2+20) oM))) (Le.p (Le.refl _) (Le.s (Le.p (Le.refl _) (Le.p (Le.refl _) (Le.q (l:=5) dC))))))),I,I,kf⟩
 have ls:¬prB L:=by unfold prB;show ¬(512<2*(ptB L L.length).length\/_);rw[<-bj];omega
 obtain⟨re,rd,tp⟩:=yF3 gg (zdi dx) fc ls;refine uR (zI (zP (zP (zG (asg (v:=vI (0)) I I (zX (zI (vG (xC 53 9 ?_)))))))));have ke:=RL.nil (ρ:=rpT (rpQ (k+l1+l2+5))) (h:=ma);refine gcL (ι:=Nat×List Tq×List Value×Value×List Value×Mem) (λ(i,PP,cl,cb,er,mp)=>(MLe ma mp/\((rpP rpV (rpP rpV (rpS (rpP rpI (rpP rpI (rpQ 1)))))).R mp cl (cb,(Value.slice none 0 0,[]))/\RL (tPt (k+l1+l2+5)) mp er PP/\cb.oneCell'=true/\i<=2*J.length/\PP=zRG L lo hi i),[(4,vP b4 0),(5,vP b5 0),(6,vP b6 0),(10,vP aa 0),(12,D),(13,C),(20,vI (↑J.length:Int)),(21,vI ↑i)],[.gs 53 9 cb PP.length er,.gs 32 1 C II.length aw,.gs 53 9 D J.length bc,.gs 116 2 ad ED.length au,.var aa 50 cl,.var b6 50 dy,.var b5 26 dz,.var b4 26 ea],mp,2*J.length-i)) (0,[],eb,(.slice none 0 0),[],ma) ?_ ?_
 · exact⟨mle,oe.up,ke,I,by omega,I⟩
 rintro⟨i,PP,cl,cb,er,mp⟩ ⟨bs,ao,bf,td,hi2,ix⟩
 refine yQ ?_;have hPl:PP.length=i:=by rw[ix];exact xH _ _
 refine zP (zP (zG (mv I I (mv I I (gv (aA (p:=2) I I oM oM) I (gv (yL I I) I (zX (zI ?_))))))));refine cnd (λmg=>?_) λmg=>?_
 ·
  refine uR (zI (zP (vG (zP (zG ?_)))));replace dc:=dc.mono ((du.trans cf).trans bs);refine lX (xB yI pH dc) λxo qi=>(nA (ρ:=(rpQ 1)) (X:=(0:Rat)) yS (yE dC) λb22 zc od=>?_);have jp:=(Le.q (l:=l1+1) oM).R od;refine zV (A:=[]) (uB sizeOf26 pH jp (qi.le (Le.q (l:=l1+1) oM))) λuf fl=>(zX (zI (zP (zP (zG (mv I I (mv I I (gv (cM I I) I (zX (zI ?_))))))))));refine cnd (λem=>?_) λem=>?_
  ·
   refine zG ?_;replace db:=db.mono ((du.trans cf).trans bs);refine lX (xB yI pH db) λxn qh=>?_;have jo:=(Le.q (l:=l1+l2+1) oM).R fl;refine zV (A:=[]) (uB sizeOf26 pH jo (qh.le (Le.q (l:=l1+l2+1) oM))) λue lj=>(zX (zI ?_));refine jD (A:=[_]) 21 [] (zai 0 18 [(18,.c),(19,.c),(20,.q),(21,.t)]) yC nX (wV zot) nX (wK I (λ_ _=>(wD underlying50 I sizeOf46 I).cv (show _=vP aa 0 from zbi (vP aa) zo0)) I (wX I (bY (xB uS (y2i pH) ao)) λnn fy=>?_));subst fy;refine qH I I I (qH I I I (qH I I I (wK I (λ_ _=>wO I I oM oM) I (w_q I (λh' L' hh hR=>(yZ (i%J.length) (hR _ mh2) underlying46 sizeOf53 I I rP (by exact zcu _ oM) nP).cv (show _=zM 1 D (((i%J.length)*9+0)) from zbi (zM 1 D) zo0)) I ?_))));replace aj:=aj.mono bs;refine w_q I (λh' L' hh hR=>(tV (sz:=3) (q:=0) 0 (y1e (y1u _) zT (i%J.length) (by exact zcu _ oM)) I nP (aj.mono hh) (hR _ mh2) underlying53 sizeOf26 I I I dC).cv (show _=zM 1 D (((i%J.length)*9+0)) from zbi (zM 1 D) (by show((i%J.length)*9+0)+0*3=((i%J.length)*9+0);omega))) I (lJ (F:=λv_=>(rpQ (k+1)).Is mp v_ ((J.getD (i%J.length) zT).x)) I (vH yI (y1e (y2e (y1u _)) zT (i%J.length) (by exact zcu _ oM)) I nP I aj I) (sL mh2) I ?_);intro nm fx;refine qH I I I (qH I I I (qH I I I (wK I (λ_ _=>wO I I oM oM) I (w_q I (λh' L' hh hR=>(yZ (i%J.length) (hR _ mh2) underlying46 sizeOf53 I I rP (by exact zcu _ oM) nP).cv (show _=zM 1 D (((i%J.length)*9+0)) from zbi (zM 1 D) zo0)) I (w_q I (λh' L' hh hR=>(tV (sz:=3) (q:=1) 1 (y1e (y1u _) zT (i%J.length) (by exact zcu _ oM)) I nP (aj.mono hh) (hR _ mh2) underlying53 sizeOf26 I I I dC).cv (show _=zM 1 D (((i%J.length)*9+3)) from zbi (zM 1 D) (by show((i%J.length)*9+0)+1*3=((i%J.length)*9+3);omega))) I (lJ (F:=λv_=>(rpQ (k+1)).Is mp v_ ((J.getD (i%J.length) zT).y)) I (vH yI (y1e (y3i (y1u _)) zT (i%J.length) (by exact zcu _ oM)) I nP I aj I) (sL mh2) I ?_))))));intro nl fw;refine wX I (xB yI pH lj) λnk fv=>(wX I (xV (ρ:=(tPt (k+l1+l2+1))) (wL (ps':=[(0,_),(1,_),(2,_)]) underlying53 yM I I sizeOf26 e6 I (xE (yE oM)) (zC I (y2e (y1u _)) (fx.le (Le.q (l:=k+l1+l2+1) oM)) (zC I (y3i (y1u _)) (fw.le (Le.q (l:=k+l1+l2+1) oM)) (zC I (y3u (y1u _)) (fv.le (Le.q (l:=k+l1+l2+1) oM)) zN))))) λnj fu=>?_);refine w_c I (qX (λX=>zL (ρ:=(tPt (k+l1+l2+1))) (m:=1) (xs:=[(T3.mk ((J.getD (i%J.length) zT).x) ((J.getD (i%J.length) zT).y) hi)]) (ps':=[(0,_)]) underlying46 yM I I I (xE (yE oM)) e2z (zC I (y1e (y1u _) zT 0 dC) fu zN) zok nP) I ?_)
   rintro ni qw ⟨nb,rfl,ed⟩
   refine w_c I (xJ (A:=[]) (ρ:=(tPt (k+l1+l2+1))) ed dK ?_);intro h4 aq js;replace bf:=bf.mono aq;refine gR (A:=[_]) (λX=>uW (yA (ρ:=(tPt (k+l1+l2+5))) (bytes:=168) underlying46 yM I I I I nP I I bf (js.le (Le.s (Le.t (Le.q (l:=k+l1+l2+5) oM)))) bO bO)) I (xU zox) ?_
   rintro fi qv ⟨ce,ev,rfl,ec⟩
   refine wK I (λ_ _=>(wD underlying50 I sizeOf46 I).cv (show _=vP aa 0 from zbi (vP aa) zo0)) I ?_;replace ao:=ao.mono aq;refine yJ (A:=[_,_,_,_,_]) I (uB sizeOf46 (y2i pH) ao (zBX ce)) λmy li=>(pF (sM (vD (e':=[(4,_),(5,_),(6,_),(10,_),(12,_),(13,_),(20,_),(21,_)]) e8 (zI (zG (mv I I (gv (zY (q:=1) I I oM oM) I (asg I I (zX (uO (A:=[]) ?_))))))))));refine gqL ((i+1),(PP++[(T3.mk ((J.getD (i%J.length) zT).x) ((J.getD (i%J.length) zT).y) hi)]),my,fi,ev,h4) ?_ ?_
   · exact⟨mle,li,ec,ce,by omega,by rw[ix,bj];exact zbi (λz=>zRG L lo hi i++[T3.mk _ _ z]) (zau (by have h9:=em;rw[bj] at h9;exact h9)).symm⟩
   omega
  refine uR (zI ?_);refine jD (A:=[_]) 21 [] (zai 0 18 [(18,.c),(19,.c),(20,.q),(21,.t)]) yC nX (wV zot) nX (wK I (λ_ _=>(wD underlying50 I sizeOf46 I).cv (show _=vP aa 0 from zbi (vP aa) zo0)) I (wX I (bY (xB uS (y2i pH) ao)) λnn fy=>?_));subst fy;refine qH I I I (qH I I I (qH I I I (wK I (λ_ _=>wO I I oM oM) I (w_q I (λh' L' hh hR=>(yZ (i%J.length) (hR _ mh2) underlying46 sizeOf53 I I rP (by exact zcu _ oM) nP).cv (show _=zM 1 D (((i%J.length)*9+0)) from zbi (zM 1 D) zo0)) I ?_))));replace aj:=aj.mono bs;refine w_q I (λh' L' hh hR=>(tV (sz:=3) (q:=0) 0 (y1e (y1u _) zT (i%J.length) (by exact zcu _ oM)) I nP (aj.mono hh) (hR _ mh2) underlying53 sizeOf26 I I I dC).cv (show _=zM 1 D (((i%J.length)*9+0)) from zbi (zM 1 D) (by show((i%J.length)*9+0)+0*3=((i%J.length)*9+0);omega))) I (lJ (F:=λv_=>(rpQ (k+1)).Is mp v_ ((J.getD (i%J.length) zT).x)) I (vH yI (y1e (y2e (y1u _)) zT (i%J.length) (by exact zcu _ oM)) I nP I aj I) (sL mh2) I ?_);intro nm fx;refine qH I I I (qH I I I (qH I I I (wK I (λ_ _=>wO I I oM oM) I (w_q I (λh' L' hh hR=>(yZ (i%J.length) (hR _ mh2) underlying46 sizeOf53 I I rP (by exact zcu _ oM) nP).cv (show _=zM 1 D (((i%J.length)*9+0)) from zbi (zM 1 D) zo0)) I (w_q I (λh' L' hh hR=>(tV (sz:=3) (q:=1) 1 (y1e (y1u _) zT (i%J.length) (by exact zcu _ oM)) I nP (aj.mono hh) (hR _ mh2) underlying53 sizeOf26 I I I dC).cv (show _=zM 1 D (((i%J.length)*9+3)) from zbi (zM 1 D) (by show((i%J.length)*9+0)+1*3=((i%J.length)*9+3);omega))) I (lJ (F:=λv_=>(rpQ (k+1)).Is mp v_ ((J.getD (i%J.length) zT).y)) I (vH yI (y1e (y3i (y1u _)) zT (i%J.length) (by exact zcu _ oM)) I nP I aj I) (sL mh2) I ?_))))));intro nl fw;refine wX I (xB yI pH fl) λnk fv=>(wX I (xV (ρ:=(tPt (k+l1+1))) (wL (ps':=[(0,_),(1,_),(2,_)]) underlying53 yM I I sizeOf26 e6 I (xE (yE oM)) (zC I (y2e (y1u _)) (fx.le (Le.q (l:=k+l1+1) oM)) (zC I (y3i (y1u _)) (fw.le (Le.q (l:=k+l1+1) oM)) (zC I (y3u (y1u _)) (fv.le (Le.q (l:=k+l1+1) oM)) zN))))) λnj fu=>?_);refine w_c I (qX (λX=>zL (ρ:=(tPt (k+l1+1))) (m:=1) (xs:=[(T3.mk ((J.getD (i%J.length) zT).x) ((J.getD (i%J.length) zT).y) lo)]) (ps':=[(0,_)]) underlying46 yM I I I (xE (yE oM)) e2z (zC I (y1e (y1u _) zT 0 dC) fu zN) zok nP) I ?_)
  rintro ni qw ⟨nb,rfl,ed⟩
  refine w_c I (xJ (A:=[]) (ρ:=(tPt (k+l1+1))) ed dK ?_);intro h4 aq jr;replace bf:=bf.mono aq;refine gR (A:=[_]) (λX=>uW (yA (ρ:=(tPt (k+l1+l2+5))) (bytes:=168) underlying46 yM I I I I nP I I bf (jr.le (Le.s (Le.t (Le.q (l:=k+l1+l2+5) oM)))) bO bO)) I (xU zox) ?_
  rintro fi qv ⟨ce,ev,rfl,ec⟩
  refine wK I (λ_ _=>(wD underlying50 I sizeOf46 I).cv (show _=vP aa 0 from zbi (vP aa) zo0)) I ?_;replace ao:=ao.mono aq;refine yJ (A:=[_,_,_,_,_]) I (uB sizeOf46 (y2i pH) ao (zBX ce)) λmx lh=>(pF (sM (vD (e':=[(4,_),(5,_),(6,_),(10,_),(12,_),(13,_),(20,_),(21,_)]) e8 (zI (zG (mv I I (gv (zY (q:=1) I I oM oM) I (asg I I (zX (uO (A:=[]) ?_))))))))));refine gqL ((i+1),(PP++[(T3.mk ((J.getD (i%J.length) zT).x) ((J.getD (i%J.length) zT).y) lo)]),mx,fi,ev,h4) ?_ ?_
  · exact⟨mle,lh,ec,ce,by omega,by rw[ix,bj];exact zbi (λz=>zRG L lo hi i++[T3.mk _ _ z]) (zae (by have h9:=em;rw[bj] at h9;exact h9)).symm⟩
  omega
 have gm:PP=ppZ L lo hi:=by rw[ix,show i=2*J.length by omega,bj];rfl
 have yv:PP.length=2*J.length:=by rw[gm,bj];exact zM1
 refine gO (uN (uN (gN (zI (zP (zG (zW (A:=[]) (ρ:=(tPt (k+l1+l2+5))) bf ?_)))))));intro h4 aq jq;replace ao:=ao.mono aq;have lg:(rpP (tLs (k+l1+l2+5)) (rpP rpV (rpS (rpP rpI (rpP rpI (rpQ 1)))))).R h4 cl (PP,(cb,(Value.slice none 0 0,[])).2):=yFM ao jq;refine cL (vs:=[vI (1)]) ⟨I,y1i⟩ call39 (λw hs=>qP hs dC dC) λxm h5 cm qg=>(nA (ρ:=(rpQ 2)) (X:=(0:Rat)) yS (yE dC) λnf za oc=>(zV (A:=[]) (uB sizeOf26 pH oc qg) λeq cy=>(zX (zI (zP ?_)))));refine zK 10 _ [(9,(24,83,[.bool false,.slice none 0 0,.slice none 0 0,.bool false,.slice none 0 0,.slice none 0 0,.bool false,.slice none 0 0,.slice none 0 0,.bool false,.slice none 0 0,.slice none 0 0,.slice none 0 0,.string ⟨#[]⟩]))] [(0,.q),(1,.q),(2,.q),(5,.q),(3,.c),(4,.q),(6,.c),(7,.q),(8,.q),(9,.a),(10,.t)] yC (jZ.cons I I (qR qI I I) jZ.nil) zot (qU I I gM) (λr hr=>hr) (wX I (xV (ρ:=(rpQ 1)) (xK (ps':=[]) underlying26 yS I I (vQ underlying26) trivial I (yE dC) zN)) λxl ft=>(wX I (xV (ρ:=(rpQ 1)) (xK (ps':=[]) underlying26 yS I I (vQ underlying26) trivial I (yE dC) zN)) λxk fs=>(wX I (xB yI pH cy) λxj qf=>?_)));replace dc:=dc.mono ((((du.trans cf).trans bs).trans aq).trans cm);refine wX I (xB yI pH dc) λxg fq=>?_;refine w_c I (sC (ev1 I) call31 (λw hs=>mI hs qf dC) λxi h6 dd qe=>?_);replace ft:=ft.mono dd;replace fs:=fs.mono dd;refine wX I (xV (ρ:=(tPt 2)) (wL (ps':=[(0,_),(1,_),(2,_)]) underlying53 yM I I sizeOf26 e6 I (xE (yE dC)) (zC I (y2e (y1u _)) (ft.le (Le.q (l:=2) dC)) (zC I (y3i (y1u _)) (fs.le (Le.q (l:=2) dC)) (zC I (y3u (y1u _)) qe zN))))) λxh fr=>?_;refine w_c I ?_;replace fq:=fq.mono dd;refine sC (ev1 I) call31 (λw hs=>mI hs fq oM) λxf h7 gi qd=>?_;replace fr:=fr.mono gi;refine wX I (xV (ρ:=(tPl 2 (l1+1))) (xK (ps':=[(0,_),(1,_)]) underlying80 sE I I (sJ underlying80) e4z I (yF (xE (yE dC)) (yE oM)) (zC I (y2i (y1u _)) fr (zC I (y2u (y1u _)) (qd.le (Le.q (l:=l1+1) oM)) zN)))) λxe qc=>(wX I (xV (ρ:=(rpP (tPl 2 (l1+1)) (rpP rpV kD))) (xK (ps':=[(0,_),(2,_)]) underlying83 qI I I (cI underlying83) e4z I (yF (yF (xE (yE dC)) (yE oM)) (yF sR kB)) (zC I (y2i (y1u _)) qc (zC I (y2u (y2u (y1u _))) (pS (show ByB [98,111,116,116,111,109] by unfold ByB;decide)) zN)))) λxd qb=>?_);refine w_a I I (λco=>?_);have ob:(rpP (tPl 1 1) (rpP rpV kD)).R h7 [.bool false,.slice none 0 0,.slice none 0 0,.bool false,.slice none 0 0,.slice none 0 0,.bool false,.slice none 0 0,.slice none 0 0,.bool false,.slice none 0 0,.slice none 0 0,.slice none 0 0,.string ⟨#[]⟩] ((zT,(0:Rat)),((Value.slice none 0 0),([]:List Nat))):=(yF (yF (xE (yE dC)) (yE dC)) (yF sR kB));have jn:=(Le.p (Le.p (Le.t (Le.q (l:=2) dC)) (Le.q (l:=l1+1) oM)) (Le.refl _)).R ob;refine yJ (A:=[]) I (uB sizeOf83 pH jn qb) λmw lf=>(pF (vD (e':=[(5,_),(6,_),(10,_),(13,_),(20,_),(23,_),(24,_)]) e7 (zI (zP (zG (lX (xV (ρ:=(rpQ 1)) (xK (ps':=[]) underlying26 yS I I (vQ underlying26) trivial I (yE dC) zN)) λxc qa=>(lX (xV (ρ:=(rpQ 1)) (xK (ps':=[]) underlying26 yS I I (vQ underlying26) trivial I (yE dC) zN)) λxb pz=>?_)))))));replace cy:=cy.mono (dd.trans gi);refine lX (xB yI pH cy) λxa py=>(lX (xV (ρ:=(tPt 2)) (wL (ps':=[(0,_),(1,_),(2,_)]) underlying53 yM I I sizeOf26 e6 I (xE (yE dC)) (zC I (y2e (y1u _)) (qa.le (Le.q (l:=2) dC)) (zC I (y3i (y1u _)) (pz.le (Le.q (l:=2) dC)) (zC I (y3u (y1u _)) py zN))))) λwz px=>?_);replace db:=db.mono ((((((du.trans cf).trans bs).trans aq).trans cm).trans dd).trans gi);refine lX (xB yI pH db) λwy pw=>(lX (xV (ρ:=(tPl 2 (l2+1))) (xK (ps':=[(0,_),(1,_)]) underlying80 sE I I (sJ underlying80) e4z I (yF (xE (yE dC)) (yE oM)) (zC I (y2i (y1u _)) px (zC I (y2u (y1u _)) (pw.le (Le.q (l:=l2+1) oM)) zN)))) λwx pv=>(lX (xV (ρ:=(rpP (tPl 2 (l2+1)) (rpP rpV kD))) (xK (ps':=[(0,_),(2,_)]) underlying83 qI I I (cI underlying83) e4z I (yF (yF (xE (yE dC)) (yE oM)) (yF sR kB)) (zC I (y2i (y1u _)) pv (zC I (y2u (y2u (y1u _))) (pS (show ByB [116,111,112] by unfold ByB;decide)) zN)))) λww pu=>(nA (ρ:=(rpP (tPl 1 1) (rpP rpV kD))) (X:=((zT,(0:Rat)),((Value.slice none 0 0),([]:List Nat)))) qI (yF (yF (xE (yE dC)) (yE dC)) (yF sR kB)) λcn yz oa=>?_)))
 have jm:=(Le.p (Le.p (Le.t (Le.q (l:=2) dC)) (Le.q (l:=l2+1) oM)) (Le.refl _)).R oa;refine zV (A:=[]) (uB sizeOf83 pH jm pu) λmu ld=>(zX (zI (zP (zP (zG (asg (v:=vI (0)) I I (zX (zI (vG (xC 83 14 ?_))))))))));have kd:=RL.nil (ρ:=rpP (tPl (4*k+4*l1+4*l2+40) (100*k+100*l1+100*l2+1000)) (rpP tII kD)) (h:=h7);refine xC 32 1 ?_;have kc:=RL.nil (ρ:=rpS rpI) (h:=h7);refine xC 32 1 ?_;have kb:=RL.nil (ρ:=rpS rpI) (h:=h7);refine gcL (ι:=Nat×List Fc×List (List Int)×List (List Int)×List Value×List Value×List Value×Value×List Value×Value×List Value×Value×List Value×Mem) (λ(i,F0,C0,T0,ck,di,cj,az,ci,ap,ep,an,dh,mq)=>(MLe h7 mq/\((rpP (tLs (k+l1+l2+5)) (rpP rpV (rpS (rpP rpI (rpP rpI (rpQ 1)))))).R mq ck (PP,(az,([]:List En)))/\(rpP (tPl 5 (l1+l2+5)) (rpP rpV kD)).R mq di ((T3.mk (0:Rat) (0:Rat) (-((1:Int):Rat)),-lo),(ap,[98,111,116,116,111,109]))/\(rpP (tPl 5 (l1+l2+5)) (rpP rpV kD)).R mq cj ((T3.mk (0:Rat) (0:Rat) ((1:Int):Rat),hi),(an,[116,111,112]))/\RL (tFc (4*k+4*l1+4*l2+40) (100*k+100*l1+100*l2+1000)) mq ci F0/\az.oneCell'=true/\RL (rpS rpI) mq ep C0/\ap.oneCell'=true/\RL (rpS rpI) mq dh T0/\an.oneCell'=true/\i<=II.length/\C0=zW5 L i/\T0=zS2 L i/\F0=zJZ L lo hi i),[(6,vP b6 0),(10,vP aa 0),(13,C),(20,vI (↑J.length:Int)),(24,vP co 0),(25,vP cn 0),(26,vI ↑i)],[.gs 32 1 an T0.length dh,.gs 32 1 ap C0.length ep,.gs 83 14 az F0.length ci,.var cn 83 cj,.var co 83 di,.var nf 26 eq,.gs 32 1 C II.length aw,.gs 53 9 D J.length bc,.gs 116 2 ad ED.length au,.var aa 50 ck,.var b6 50 dy,.var b5 26 dz,.var b4 26 ea],mq,II.length-i)) (0,[],[],[],cl,mw,mu,(.slice none 0 0),[],(.slice none 0 0),[],(.slice none 0 0),[],h7) ?_ ?_
 · exact⟨mle,lg.up,((Le.p (Le.p (Le.t (Le.q (l:=5) dC)) (Le.q (l:=l1+l2+5) oM)) (Le.refl _)).R lf),((Le.p (Le.p (Le.t (Le.q (l:=5) dC)) (Le.q (l:=l1+l2+5) oM)) (Le.refl _)).R ld),kd,I,kc,I,kb,I,by omega,I,I,I⟩
 rintro⟨i,F0,C0,T0,ck,di,cj,az,ci,ap,ep,an,dh,mq⟩ ⟨jh,cd,bh,av,cu,lt,ct,tc,bq,rk,hi3,ja,iw,iz⟩
 refine yQ ?_;have hCl:C0.length=i:=by rw[ja];exact xH _ _
 have hTl:T0.length=i:=by rw[iw];exact xH _ _
 have hFl:F0.length=oP L i:=by rw[iz];exact zTI oM
 have rc:=lw i oM;refine zP (zP (zG (mv I I (mv I I (gv (gV mh6 underlying81 I) I (gv (yL I I) I (zX (zI ?_))))))));refine cnd (λmc=>?_) λmc=>?_
 ·
  have jj:=mm i oM;have io:=dt.2 i oM;refine uR (zI (zP (vG (zP ?_))));refine jD (A:=[_]) 10 [] (zai 0 6 [(6,.c),(7,.c),(8,.c),(9,.q),(10,.t)]) yC nX zot nX (wK I (λ_ _=>(wD underlying83 I sizeOf81 I).cv (show _=vP co 12 from zbi (vP co) zo0)) I (wX I (bY (xB cD (y2u (y2i pH)) bh)) λwv pt=>?_));subst pt;refine qH I I I (qH I I I (w_q I (λh' L' hh hR=>(yZ i (hR _ mh5) underlying81 sizeOf32 I I I bO nP).cv (show _=zM 1 C ((i*1+0)) from zbi (zM 1 C) zo0)) I ?_));replace ac:=ac.mono (((((bs.trans aq).trans cm).trans dd).trans gi).trans jh);refine lJ (F:=λv_=>(rpS rpI).Is mq v_ (II.getD i [])) I (vH fE (y1e (y1u _) [] i bO) I nP I ac I) (sL mh5) I ?_;intro wu pq;refine w_c I (sC (ev1 I) call65 (λw hs=>zKV hs pq oM) λwt h8 bt pp=>?_);refine w_c I (qX (λX=>zL (ρ:=(rpS rpI)) (m:=1) (xs:=[zJ3 (II.getD i []) (II.getD i []).length]) (ps':=[(0,_)]) underlying81 jC I I I wJ e2z (zC I (y1e (y1u _) [] 0 dC) pp zN) zoj nP) I ?_)
  rintro ws yn ⟨un,rfl,kw⟩
  refine w_c I (xJ (A:=[]) (ρ:=(rpS rpI)) kw dK ?_);intro h9 cg ic;replace ct:=ct.mono (bt.trans cg);refine gR (A:=[_]) (λX=>uW (yA (ρ:=(rpS rpI)) (bytes:=24) underlying81 jC I I I I nP I I ct ic bO bO)) I (xU zox) ?_
  rintro fh ym ⟨gf,eu,rfl,kv⟩
  refine wK I (λ_ _=>(wD underlying83 I sizeOf81 I).cv (show _=vP co 12 from zbi (vP co) zo0)) I ?_;replace bh:=bh.mono (bt.trans cg);refine yJ (A:=[_,_,_,_]) I (uB sizeOf81 (y2u (y2i pH)) bh (zBX gf)) λdm im=>(pF (vD (e':=[(6,_),(10,_),(13,_),(20,_),(24,_),(25,_),(26,_)]) e7 (zI (zP (zG (asg I I (zX (zI (zP (zP (zG (asg (v:=vI (0)) I I (zX ?_)))))))))))));refine zI (vG (xC 3 1 ?_));have ie:=RL.nil (ρ:=rpI) (h:=h9);refine gcL (ι:=Nat×List Int×Value×List Value×Mem) (λ(q,TL,cc,dl,mr)=>(MLe h9 mr/\(RL rpI mr dl TL/\q<=(II.getD i []).length/\TL=tpL L i q),[(6,vP b6 0),(10,vP aa 0),(13,C),(20,vI (↑J.length:Int)),(24,vP co 0),(25,vP cn 0),(26,vI ↑i),(27,cc),(28,vI ↑q)],[.gs 3 1 cc TL.length dl,.gs 32 1 an T0.length dh,.gs 32 1 fh (C0++[zJ3 (II.getD i []) (II.getD i []).length]).length eu,.gs 83 14 az F0.length ci,.var cn 83 cj,.var co 83 dm,.var nf 26 eq,.gs 32 1 C II.length aw,.gs 53 9 D J.length bc,.gs 116 2 ad ED.length au,.var aa 50 ck,.var b6 50 dy,.var b5 26 dz,.var b4 26 ea],mr,(II.getD i []).length-q)) (0,[],(.slice none 0 0),[],h9) ?_ ?_
  · exact⟨mle,ie,by omega,I⟩
  rintro⟨q,TL,cc,dl,mr⟩ ⟨gh,bx,hq2,ml⟩
  refine yQ ?_;have yu:TL.length=q:=by rw[ml];exact xH _ _
  have jj:=mm i oM;have io:=dt.2 i oM;refine zP (zP (zG (mv I I (mv I I (mv I I (gv ((yZ i mh7 underlying81 sizeOf32 I I I bO nP).cv (show _=zM 1 C ((i*1+0)) from zbi (zM 1 C) zo0)) I ?_))))));replace ac:=ac.mono ((bt.trans cg).trans gh);refine zLK (F:=λv_=>(rpS rpI).Is mr v_ (II.getD i [])) (vH fE (y1e (y1u _) [] i bO) I nP I ac I) (sL mh7) I ?_;intro wq po;refine gv (uX underlying32 I po) I (gv (yL I I) I (zX (zI ?_)));refine cnd (λlz=>?_) λlz=>?_
  ·
   have ta:=gb i q oM oM;refine uR (zI (zP (vG (zG (mv I I (mv I I (mv I I (gv ((yZ i mh7 underlying81 sizeOf32 I I I bO nP).cv (show _=zM 1 C ((i*1+0)) from zbi (zM 1 C) zo0)) I (zLK (F:=λv_=>(rpS rpI).Is mr v_ (II.getD i [])) (vH fE (y1e (y1u _) [] i bO) I nP I ac I) (sL mh7) I ?_)))))))));intro wp pn;refine mv I I (lX (xI (0:Int) q underlying32 ty3 pn) λwo pm=>(lX (xA ty3 pm) λwm pk=>?_));obtain⟨rfl,tk,sw⟩:=kF pk;refine mv I I (gv (zY I I (by(have:=gb i q oM oM;omega)) (by(have:=gb i q oM oM;omega))) I (zF (zL (ρ:=rpI) (m:=1) (xs:=[(((II.getD i []).getD q (0:Int))+(↑J.length:Int))]) (ps':=[(0,_)]) underlying32 jJ I I I wN e2z (zC I (y1e (y1u _) (0:Int) 0 dC) (wA oM oM) zN) zoj nP) I I I ?_))
   rintro wl yl ⟨um,rfl,ku⟩
   refine zW (A:=[]) (ρ:=rpI) ku ?_;intro ms bp ib;replace bx:=bx.mono bp;refine xL (A:=[]) (uW (yA (ρ:=rpI) (bytes:=8) underlying32 jJ I I I I nP I I bx ib bO bO)) I I I ?_
   rintro nh yk ⟨te,na,rfl,ks⟩
   refine asg I I (zX (sM (vD (e':=[(6,_),(10,_),(13,_),(20,_),(24,_),(25,_),(26,_),(28,_),(27,_)]) ⟨I,I,I,I,I,I,I,I,I,y1i⟩ (zI (zG (mv I I (gv (zY (q:=1) I I oM oM) I (asg I I (zX ?_)))))))));refine gqL ((q+1),(TL++[(((II.getD i []).getD q (0:Int))+(↑J.length:Int))]),nh,na,ms) ?_ ?_
   · exact⟨mle,ks,by omega,by rw[ml,ch,bj];rfl⟩
   omega
  have ek:q=(II.getD i []).length:=by omega
  refine gO (uN (uN (gN (zI (zP (zG (gv ((wD underlying83 I sizeOf81 I).cv (show _=vP cn 12 from zbi (vP cn) zo0)) I ?_)))))));replace av:=av.mono ((bt.trans cg).trans gh);refine lX (bY (xB cD (y2u (y2i pH)) av)) λwk pj=>?_;subst pj;refine mv I I (zW (A:=[]) (ρ:=rpI) bx ?_);intro ms bp ia;refine zF (zL (ρ:=(rpS rpI)) (m:=1) (xs:=[TL]) (ps':=[(0,_)]) underlying81 jC I I I wJ e2z (zC I (y1e (y1u _) [] 0 dC) ia zN) zoj nP) I I I ?_
  rintro wj yj ⟨ul,rfl,kr⟩
  refine zW (A:=[]) (ρ:=(rpS rpI)) kr ?_;intro go cq hw;replace bq:=bq.mono ((((bt.trans cg).trans gh).trans bp).trans cq);refine xL (A:=[]) (uW (yA (ρ:=(rpS rpI)) (bytes:=24) underlying81 jC I I I I nP I I bq hw bO bO)) I I I ?_
  rintro jg yi ⟨ge,gq,rfl,kq⟩
  refine gv ((wD underlying83 I sizeOf81 I).cv (show _=vP cn 12 from zbi (vP cn) zo0)) I ?_;replace av:=av.mono (bp.trans cq);refine zV (A:=[_,_,_]) (uB sizeOf81 (y2u (y2i pH)) av (zBX ge)) λfe il=>(zX (vD (e':=[(6,_),(10,_),(13,_),(20,_),(24,_),(25,_),(26,_)]) e7 (zI (zP (zG (asg (v:=vI (0)) I I (zX (zI (vG ?_)))))))));refine gcL (ι:=Nat×List Fc×List Value×Value×List Value×Mem) (λ(q,F1,ca,ae,bz,mf)=>(MLe go mf/\((rpP (tLs (k+l1+l2+5)) (rpP rpV (rpS (rpP rpI (rpP rpI (rpQ 1)))))).R mf ca (PP,(ae,([]:List En)))/\RL (tFc (4*k+4*l1+4*l2+40) (100*k+100*l1+100*l2+1000)) mf bz F1/\ae.oneCell'=true/\q<=(II.getD i []).length/\F1=zJZ L lo hi i++sfX L lo hi i q),[(6,vP b6 0),(10,vP aa 0),(13,C),(20,vI (↑J.length:Int)),(24,vP co 0),(25,vP cn 0),(26,vI ↑i),(29,vI ↑q)],[.gs 32 1 jg (T0++[TL]).length gq,.gs 32 1 fh (C0++[zJ3 (II.getD i []) (II.getD i []).length]).length eu,.gs 83 14 ae F1.length bz,.var cn 83 fe,.var co 83 dm,.var nf 26 eq,.gs 32 1 C II.length aw,.gs 53 9 D J.length bc,.gs 116 2 ad ED.length au,.var aa 50 ca,.var b6 50 dy,.var b5 26 dz,.var b4 26 ea],mf,(II.getD i []).length-q)) (0,F0,ck,az,ci,go) ?_ ?_
  · exact⟨mle,cd.up,cu.up,lt,by omega,by rw[iz];exact(zli _).symm⟩
  rintro⟨q,F1,ca,ae,bz,mf⟩ ⟨qz,am,bw,iv,hq3,mn⟩
  refine yQ ?_;have yw:F1.length=oP L i+q:=by rw[mn,lAz,zTI oM];exact zbi _ (xH _ _)
  have jj:=mm i oM;have io:=dt.2 i oM;have zz:=j3 (((i:Int):Int):Rat);have zy:=j3 (((q:Int):Int):Rat);have hqi:=mO (i:Int) oM oM;have hqk:=mO (q:Int) oM oM;refine zP (zP (zG (mv I I (mv I I (mv I I (gv ((yZ i mh6 underlying81 sizeOf32 I I I bO nP).cv (show _=zM 1 C ((i*1+0)) from zbi (zM 1 C) zo0)) I ?_))))));replace ac:=ac.mono ((bp.trans cq).trans qz);refine zLK (F:=λv_=>(rpS rpI).Is mf v_ (II.getD i [])) (vH fE (y1e (y1u _) [] i bO) I nP I ac I) (sL mh6) I ?_;intro wi pi;refine gv (uX underlying32 I pi) I (gv (yL I I) I (zX (zI ?_)));refine cnd (λly=>?_) λly=>?_
  ·
   have ta:=gb i q oM oM;have hrb:=gb i ((q+1)%(II.getD i []).length) oM (zcu _ oM);refine uR (zI (zP (vG (zP ?_))));refine zK 23 _ [] (zai 0 23 []) yC nX (wV zot) nX (λr hr=>hr) (qH I I I (qH I I I (w_q I (λh' L' hh hR=>(yZ i (hR _ mh6) underlying81 sizeOf32 I I I bO nP).cv (show _=zM 1 C ((i*1+0)) from zbi (zM 1 C) zo0)) I (lJ (F:=λv_=>(rpS rpI).Is mf v_ (II.getD i [])) I (vH fE (y1e (y1u _) [] i bO) I nP I ac I) (sL mh6) I ?_))));intro wh ph;refine qH I I I (wX I (xI (0:Int) q underlying32 ty3 ph) λwg pg=>(wX I (xA ty3 pg) λwf pf=>?_));obtain⟨rfl,tj,sv⟩:=kF pf;refine qH I I I (qH I I I (w_q I (λh' L' hh hR=>(yZ i (hR _ mh6) underlying81 sizeOf32 I I I bO nP).cv (show _=zM 1 C ((i*1+0)) from zbi (zM 1 C) zo0)) I (lJ (F:=λv_=>(rpS rpI).Is mf v_ (II.getD i [])) I (vH fE (y1e (y1u _) [] i bO) I nP I ac I) (sL mh6) I ?_)));intro we pe;refine qH I I I (wK I (λ_ _=>zY (q:=1) I I oM oM) I (qH I I I (qH I I I (w_q I (λh' L' hh hR=>(yZ i (hR _ mh6) underlying81 sizeOf32 I I I bO nP).cv (show _=zM 1 C ((i*1+0)) from zbi (zM 1 C) zo0)) I (lJ (F:=λv_=>(rpS rpI).Is mf v_ (II.getD i [])) I (vH fE (y1e (y1u _) [] i bO) I nP I ac I) (sL mh6) I ?_)))));intro wd pd;refine w_q I (λh' L' hh hR=>uX underlying32 I (pd.mono hh)) I (wK I (λ_ _=>wO I I oM oM) I (wX I (xI (0:Int) ((q+1)%(II.getD i []).length) underlying32 ty3 pe (hi:=by exact zcu _ oM)) λwc pc=>(wX I (xA ty3 pc) λwb oz=>?_)));obtain⟨rfl,ti,su⟩:=kF oz;refine zFR I I I (zFR I I I (pF (vD (e':=[(6,_),(10,_),(13,_),(20,_),(24,_),(25,_),(26,_),(29,_),(30,_),(31,_)]) e10 (zI (zP ?_)))));refine zK 12 _ [(11,(32,53,y3e))] (zai 0 10 [(10,.c),(11,.a),(12,.t)]) yC (jZ.cons I I (qR yM I I) jZ.nil) (wV zot) (qU I I gM) (λr hr=>hr) (wK I (λ_ _=>(wD underlying50 I sizeOf46 I).cv (show _=vP aa 0 from zbi (vP aa) zo0)) I (wX I (xB uS (y2i pH) am) λwa oy=>(qH I I I (wX I (xI zT (((II.getD i []).getD ((q+1)%(II.getD i []).length) 0).toNat) underlying46 zO oy (hi:=by(show _<PP.length;omega))) λvz ox=>(wX I (xA zO ox) λvy ow=>(wK I (λ_ _=>(wD underlying50 I sizeOf46 I).cv (show _=vP aa 0 from zbi (vP aa) zo0)) I (wX I (xB uS (y2i pH) am) λvx ou=>(qH I I I (wX I (xI zT (((II.getD i []).getD q 0).toNat) underlying46 zO ou (hi:=by(show _<PP.length;omega))) λvw ot=>(wX I (xA zO ot) λvv os=>?_))))))))));refine w_c I (sC (ev2 I I) call125 (λw hs=>zKU hs ow os oM) λvu mo fb fp=>?_);replace fp:=Rp.Is.le fp (Le.t (Le.q (l:=4*k+4*l1+4*l2+23) oM));refine w_a I I (λjd=>?_);have nz:(tPt 1).R mo y3e zT:=(xE (yE dC));have gw:=(Le.t (Le.q (l:=4*k+4*l1+4*l2+23) oM)).R nz;refine yJ (A:=[]) I (uB sizeOf53 pH gw fp) λro ez=>(pF (vD (e':=[(6,_),(10,_),(13,_),(20,_),(24,_),(25,_),(26,_),(29,_),(30,_),(31,_),(32,_)]) ⟨I,I,I,I,I,I,I,I,I,I,I,y1i⟩ (zI (zP ?_))));refine zK 8 _ [(7,(33,53,y3e))] (zai 0 4 [(5,.q),(4,.c),(6,.q),(7,.a),(8,.t)]) yC (jZ.cons I I (qR yM I I) jZ.nil) zot (qU I I gM) (λr hr=>hr) (wK I (λ_ _=>(wE (sz:=3) (q:=1) 1 underlying53 sizeOf26 I I I dC).cv (show _=vP jd 3 from zbi (vP jd) zo0)) I (wX I (xB yI (y3i pH) ez) λvt fo=>(wK I (λ_ _=>(wE (sz:=3) (q:=0) 0 underlying53 sizeOf26 I I I dC).cv (show _=vP jd 0 from zbi (vP jd) zo0)) I (wX I (xB yI (y2e pH) ez) λvq or=>(wX I (xV (ρ:=(rpQ 1)) (xK (ps':=[]) underlying26 yS I I (vQ underlying26) trivial I (yE dC) zN)) λvo fm=>?_)))))
   refine w_c I (sC (ev1 I) call31 (λw hs=>mI hs or oM) λvp uc fa oq=>?_);replace fo:=fo.mono fa;replace fm:=fm.mono fa;refine wX I (xV (ρ:=(tPt (4*k+4*l1+4*l2+23))) (wL (ps':=[(0,_),(1,_),(2,_)]) underlying53 yM I I sizeOf26 e6 I (xE (yE oM)) (zC I (y2e (y1u _)) fo (zC I (y3i (y1u _)) oq (zC I (y3u (y1u _)) (fm.le (Le.q (l:=4*k+4*l1+4*l2+23) oM)) zN))))) λvn oo=>?_;refine w_a I I (λb33=>?_);have ny:(tPt 1).R uc y3e zT:=(xE (yE dC));have gu:=(Le.t (Le.q (l:=4*k+4*l1+4*l2+23) oM)).R ny;refine yJ (A:=[]) I (uB sizeOf53 pH gu oo) λrn ey=>(pF (zI ?_));refine jD (A:=[_,_,_,_]) 32 [] (zai 0 9 (zai 11 8 [(21,.q),(25,.q),(0,.x [10,23,24,27] [9,10,22,23,24,26,27] [19,20]),(28,.c),(29,.c),(30,.c),(31,.q),(32,.t)])) yC nX zot nX (wK I (λ_ _=>(wD underlying50 I sizeOf47 I).cv (show _=vP aa 1 from zbi (vP aa) zo0)) I ?_);replace am:=am.mono (fb.trans fa);refine wX I (bY (xB gK (y2u (y2i pH)) am)) λvm on=>?_;subst on;refine wX I (xB zO pH ey) λvl bn=>(wX I (xB zO pH ey) λvk dr=>(wK I (λ_ _=>(wD underlying50 I sizeOf46 I).cv (show _=vP aa 0 from zbi (vP aa) zo0)) I (wX I (xB uS (y2i pH) am) λvj om=>(qH I I I (wX I (xI zT (((II.getD i []).getD q 0).toNat) underlying46 zO om (hi:=by(show _<PP.length;omega))) λvi ol=>(wX I (xA zO ol) λvh dq=>(qH I I I (qH I I I (qH I I I (qH I I I (wK I (λ_ _=>zY I I oM oM) I (qH I I I (qH I I I ?_)))))))))))));refine wK I (λ_ _=>zY I I oM oM) I (qH I I I (qH I I I (yBI (N:=9) I ?_)));refine zCR I I I I ?x2 ?x3
   case' x2=>
    refine sC (ev2 I I) call44 (λw hs=>cQ hs dr dq oM) λjf rj ay bb=>?_;replace bb:=Rp.Is.le bb (Le.q (l:=15*k+15*l1+15*l2+93) oM);refine fU I ?_;replace bn:=bn.mono ay;refine xX I (xV (ρ:=(tPl (4*k+4*l1+4*l2+23) (15*k+15*l1+15*l2+93))) (xK (ps':=[(0,_),(1,_)]) underlying80 sE I I (sJ underlying80) e4z I (yF (xE (yE oM)) (yE oM)) (zC I (y2i (y1u _)) bn (zC I (y2u (y1u _)) bb zN)))) λje Z=>?_;refine zCR I I I I ?x4 ?x5
    case' x4=>
     refine sC (ev1 I) call126 (λw hs=>wZ hs oM oM) λdn gn ab ba=>?_;obtain⟨rfl,br⟩:=jW ba;refine fU I (bD I (λ_ _=>wT (pa:=([115]:List Nat)) (pb:=(qF (((↑i:Int):Int):Rat))) I I zou) I (fU I (bD I (λ_ _=>wT (pa:=(([115]:List Nat)++(qF (((↑i:Int):Int):Rat)))) (pb:=([46]:List Nat)) I I zou) I ?_)));refine zCR I I I I ?x6 ?x7
     case' x6=>
      refine sC (ev1 I) call126 (λw hs=>wZ hs oM oM) λbl df U ah=>?_;obtain⟨rfl,ar⟩:=jW ah;refine fU I (bD I (λ_ _=>wT (pa:=((([115]:List Nat)++(qF (((↑i:Int):Int):Rat)))++([46]:List Nat))) (pb:=(qF (((↑q:Int):Int):Rat))) I I zou) I (zMA I I (qX (λX=>zL (ρ:=rpI) (m:=4) (xs:=(lU (II.getD i []) q J)) (ps':=[(0,_),(1,_),(2,_),(3,_)]) underlying32 jJ I I I wN e8 (zC I (y1e (y1u _) (0:Int) 0 dC) (wA oM oM) (zC I (y1e (y1u _) (0:Int) 1 dC) (wA oM oM) (zC I (y1e (y1u _) (0:Int) 2 dC) (wA oM oM) (zC I (y1e (y1u _) (0:Int) 3 dC) (wA oM oM) zN)))) zoo nP) I ?_)));intro fg fz lr;obtain⟨es,rfl,G⟩:=lr;refine zMA I I (xJ (A:=[]) (ρ:=rpI) G dK ?_);intro de O hv;refine qX (λX=>zL (ρ:=(rpS rpI)) (m:=1) (xs:=[(lU (II.getD i []) q J)]) (ps':=[(0,_)]) underlying81 jC I I I wJ e2z (zC I (y1e (y1u _) [] 0 dC) hv zN) zoj nP) I ?_;intro bm bo ak;obtain⟨ax,rfl,H⟩:=ak;refine dT ?_;replace Z:=Z.mono ((ab.trans U).trans O)
     case' x7=>
      refine qX (λX=>zL (ρ:=rpI) (m:=4) (xs:=(lU (II.getD i []) q J)) (ps':=[(0,_),(1,_),(2,_),(3,_)]) underlying32 jJ I I I wN e8 (zC I (y1e (y1u _) (0:Int) 0 dC) (wA oM oM) (zC I (y1e (y1u _) (0:Int) 1 dC) (wA oM oM) (zC I (y1e (y1u _) (0:Int) 2 dC) (wA oM oM) (zC I (y1e (y1u _) (0:Int) 3 dC) (wA oM oM) zN)))) zoo nP) I ?_
      rintro fg fz ⟨es,rfl,G⟩
      refine zCR I I I I ?x8 ?x9
      case' x8=>
       refine sC (ev1 I) call126 (λw hs=>wZ hs oM oM) λbl df U ah=>?_;obtain⟨rfl,ar⟩:=jW ah;refine fU I (bD I (λ_ _=>wT (pa:=((([115]:List Nat)++(qF (((↑i:Int):Int):Rat)))++([46]:List Nat))) (pb:=(qF (((↑q:Int):Int):Rat))) I I zou) I (zMA I I ?_));replace G:=G.mono U;refine xJ (A:=[]) (ρ:=rpI) G dK ?_;intro de O hu;refine qX (λX=>zL (ρ:=(rpS rpI)) (m:=1) (xs:=[(lU (II.getD i []) q J)]) (ps':=[(0,_)]) underlying81 jC I I I wJ e2z (zC I (y1e (y1u _) [] 0 dC) hu zN) zoj nP) I ?_;intro bm bo ak;obtain⟨ax,rfl,H⟩:=ak;refine dT ?_;replace Z:=Z.mono ((ab.trans U).trans O)
      case' x9=>
       refine xJ (A:=[]) (ρ:=rpI) G dK ?_;intro df U ht;refine qX (λX=>zL (ρ:=(rpS rpI)) (m:=1) (xs:=[(lU (II.getD i []) q J)]) (ps':=[(0,_)]) underlying81 jC I I I wJ e2z (zC I (y1e (y1u _) [] 0 dC) ht zN) zoj nP) I ?_
       rintro bm bo ⟨ax,rfl,H⟩
       refine j0 I I (sC (ev1 I) call126 (λw hs=>wZ hs oM oM) λbl de O ah=>?_);obtain⟨rfl,ar⟩:=jW ah;refine fU I (bD I (λ_ _=>wT (pa:=((([115]:List Nat)++(qF (((↑i:Int):Int):Rat)))++([46]:List Nat))) (pb:=(qF (((↑q:Int):Int):Rat))) I I zou) I (dT ?_));replace Z:=Z.mono ((ab.trans U).trans O);replace H:=H.mono O
    case' x5=>
     refine qX (λX=>zL (ρ:=rpI) (m:=4) (xs:=(lU (II.getD i []) q J)) (ps':=[(0,_),(1,_),(2,_),(3,_)]) underlying32 jJ I I I wN e8 (zC I (y1e (y1u _) (0:Int) 0 dC) (wA oM oM) (zC I (y1e (y1u _) (0:Int) 1 dC) (wA oM oM) (zC I (y1e (y1u _) (0:Int) 2 dC) (wA oM oM) (zC I (y1e (y1u _) (0:Int) 3 dC) (wA oM oM) zN)))) zoo nP) I ?_
     rintro fg fz ⟨es,rfl,G⟩
     refine zCR I I I I ?x10 ?x11
     case' x10=>
      refine sC (ev1 I) call126 (λw hs=>wZ hs oM oM) λdn gn ab ba=>?_;obtain⟨rfl,br⟩:=jW ba;refine fU I (bD I (λ_ _=>wT (pa:=([115]:List Nat)) (pb:=(qF (((↑i:Int):Int):Rat))) I I zou) I (fU I (bD I (λ_ _=>wT (pa:=(([115]:List Nat)++(qF (((↑i:Int):Int):Rat)))) (pb:=([46]:List Nat)) I I zou) I ?_)));refine zCR I I I I ?x12 ?x13
      case' x12=>
       refine sC (ev1 I) call126 (λw hs=>wZ hs oM oM) λbl df U ah=>?_;obtain⟨rfl,ar⟩:=jW ah;refine fU I (bD I (λ_ _=>wT (pa:=((([115]:List Nat)++(qF (((↑i:Int):Int):Rat)))++([46]:List Nat))) (pb:=(qF (((↑q:Int):Int):Rat))) I I zou) I (zMA I I ?_));replace G:=G.mono (ab.trans U);refine xJ (A:=[]) (ρ:=rpI) G dK ?_;intro de O hp;refine qX (λX=>zL (ρ:=(rpS rpI)) (m:=1) (xs:=[(lU (II.getD i []) q J)]) (ps':=[(0,_)]) underlying81 jC I I I wJ e2z (zC I (y1e (y1u _) [] 0 dC) hp zN) zoj nP) I ?_;intro bm bo ak;obtain⟨ax,rfl,H⟩:=ak;refine dT ?_;replace Z:=Z.mono ((ab.trans U).trans O)
      case' x13=>
       replace G:=G.mono ab;refine xJ (A:=[]) (ρ:=rpI) G dK ?_;intro df U ho;refine qX (λX=>zL (ρ:=(rpS rpI)) (m:=1) (xs:=[(lU (II.getD i []) q J)]) (ps':=[(0,_)]) underlying81 jC I I I wJ e2z (zC I (y1e (y1u _) [] 0 dC) ho zN) zoj nP) I ?_;intro bm bo ak;obtain⟨ax,rfl,H⟩:=ak;refine j0 I I (sC (ev1 I) call126 (λw hs=>wZ hs oM oM) λbl de O ah=>?_);obtain⟨rfl,ar⟩:=jW ah;refine fU I (bD I (λ_ _=>wT (pa:=((([115]:List Nat)++(qF (((↑i:Int):Int):Rat)))++([46]:List Nat))) (pb:=(qF (((↑q:Int):Int):Rat))) I I zou) I (dT ?_));replace Z:=Z.mono ((ab.trans U).trans O);replace H:=H.mono O
     case' x11=>
      refine xJ (A:=[]) (ρ:=rpI) G dK ?_;intro gn ab hn;refine qX (λX=>zL (ρ:=(rpS rpI)) (m:=1) (xs:=[(lU (II.getD i []) q J)]) (ps':=[(0,_)]) underlying81 jC I I I wJ e2z (zC I (y1e (y1u _) [] 0 dC) hn zN) zoj nP) I ?_
      rintro bm bo ⟨ax,rfl,H⟩
      refine j0 I I (sC (ev1 I) call126 (λw hs=>wZ hs oM oM) λdn df U ba=>?_);obtain⟨rfl,br⟩:=jW ba;refine fU I (bD I (λ_ _=>wT (pa:=([115]:List Nat)) (pb:=(qF (((↑i:Int):Int):Rat))) I I zou) I (fU I (bD I (λ_ _=>wT (pa:=(([115]:List Nat)++(qF (((↑i:Int):Int):Rat)))) (pb:=([46]:List Nat)) I I zou) I (j0 I I (sC (ev1 I) call126 (λw hs=>wZ hs oM oM) λbl de O ah=>?_)))));obtain⟨rfl,ar⟩:=jW ah;refine fU I (bD I (λ_ _=>wT (pa:=((([115]:List Nat)++(qF (((↑i:Int):Int):Rat)))++([46]:List Nat))) (pb:=(qF (((↑q:Int):Int):Rat))) I I zou) I (dT ?_));replace Z:=Z.mono ((ab.trans U).trans O);replace H:=H.mono (U.trans O)
   case' x3=>
    refine qX (λX=>zL (ρ:=rpI) (m:=4) (xs:=(lU (II.getD i []) q J)) (ps':=[(0,_),(1,_),(2,_),(3,_)]) underlying32 jJ I I I wN e8 (zC I (y1e (y1u _) (0:Int) 0 dC) (wA oM oM) (zC I (y1e (y1u _) (0:Int) 1 dC) (wA oM oM) (zC I (y1e (y1u _) (0:Int) 2 dC) (wA oM oM) (zC I (y1e (y1u _) (0:Int) 3 dC) (wA oM oM) zN)))) zoo nP) I ?_
    rintro fg fz ⟨es,rfl,G⟩
    refine zCR I I I I ?x14 ?x15
    case' x14=>
     refine sC (ev2 I I) call44 (λw hs=>cQ hs dr dq oM) λjf rj ay bb=>?_;replace bb:=Rp.Is.le bb (Le.q (l:=15*k+15*l1+15*l2+93) oM);refine fU I ?_;replace bn:=bn.mono ay;refine xX I (xV (ρ:=(tPl (4*k+4*l1+4*l2+23) (15*k+15*l1+15*l2+93))) (xK (ps':=[(0,_),(1,_)]) underlying80 sE I I (sJ underlying80) e4z I (yF (xE (yE oM)) (yE oM)) (zC I (y2i (y1u _)) bn (zC I (y2u (y1u _)) bb zN)))) λje Z=>?_;refine zCR I I I I ?x16 ?x17
     case' x16=>
      refine sC (ev1 I) call126 (λw hs=>wZ hs oM oM) λdn gn ab ba=>?_;obtain⟨rfl,br⟩:=jW ba;refine fU I (bD I (λ_ _=>wT (pa:=([115]:List Nat)) (pb:=(qF (((↑i:Int):Int):Rat))) I I zou) I (fU I (bD I (λ_ _=>wT (pa:=(([115]:List Nat)++(qF (((↑i:Int):Int):Rat)))) (pb:=([46]:List Nat)) I I zou) I ?_)));refine zCR I I I I ?x18 ?x19
      case' x18=>
       refine sC (ev1 I) call126 (λw hs=>wZ hs oM oM) λbl df U ah=>?_;obtain⟨rfl,ar⟩:=jW ah;refine fU I (bD I (λ_ _=>wT (pa:=((([115]:List Nat)++(qF (((↑i:Int):Int):Rat)))++([46]:List Nat))) (pb:=(qF (((↑q:Int):Int):Rat))) I I zou) I (zMA I I ?_));replace G:=G.mono ((ay.trans ab).trans U);refine xJ (A:=[]) (ρ:=rpI) G dK ?_;intro de O hm;refine qX (λX=>zL (ρ:=(rpS rpI)) (m:=1) (xs:=[(lU (II.getD i []) q J)]) (ps':=[(0,_)]) underlying81 jC I I I wJ e2z (zC I (y1e (y1u _) [] 0 dC) hm zN) zoj nP) I ?_;intro bm bo ak;obtain⟨ax,rfl,H⟩:=ak;refine dT ?_;replace Z:=Z.mono ((ab.trans U).trans O)
      case' x19=>
       replace G:=G.mono (ay.trans ab);refine xJ (A:=[]) (ρ:=rpI) G dK ?_;intro df U hk;refine qX (λX=>zL (ρ:=(rpS rpI)) (m:=1) (xs:=[(lU (II.getD i []) q J)]) (ps':=[(0,_)]) underlying81 jC I I I wJ e2z (zC I (y1e (y1u _) [] 0 dC) hk zN) zoj nP) I ?_;intro bm bo ak;obtain⟨ax,rfl,H⟩:=ak;refine j0 I I (sC (ev1 I) call126 (λw hs=>wZ hs oM oM) λbl de O ah=>?_);obtain⟨rfl,ar⟩:=jW ah;refine fU I (bD I (λ_ _=>wT (pa:=((([115]:List Nat)++(qF (((↑i:Int):Int):Rat)))++([46]:List Nat))) (pb:=(qF (((↑q:Int):Int):Rat))) I I zou) I (dT ?_));replace Z:=Z.mono ((ab.trans U).trans O);replace H:=H.mono O
     case' x17=>
      replace G:=G.mono ay;refine xJ (A:=[]) (ρ:=rpI) G dK ?_;intro gn ab hj;refine qX (λX=>zL (ρ:=(rpS rpI)) (m:=1) (xs:=[(lU (II.getD i []) q J)]) (ps':=[(0,_)]) underlying81 jC I I I wJ e2z (zC I (y1e (y1u _) [] 0 dC) hj zN) zoj nP) I ?_;intro bm bo ak;obtain⟨ax,rfl,H⟩:=ak;refine j0 I I (sC (ev1 I) call126 (λw hs=>wZ hs oM oM) λdn df U ba=>?_);obtain⟨rfl,br⟩:=jW ba;refine fU I (bD I (λ_ _=>wT (pa:=([115]:List Nat)) (pb:=(qF (((↑i:Int):Int):Rat))) I I zou) I (fU I (bD I (λ_ _=>wT (pa:=(([115]:List Nat)++(qF (((↑i:Int):Int):Rat)))) (pb:=([46]:List Nat)) I I zou) I (j0 I I (sC (ev1 I) call126 (λw hs=>wZ hs oM oM) λbl de O ah=>?_)))));obtain⟨rfl,ar⟩:=jW ah;refine fU I (bD I (λ_ _=>wT (pa:=((([115]:List Nat)++(qF (((↑i:Int):Int):Rat)))++([46]:List Nat))) (pb:=(qF (((↑q:Int):Int):Rat))) I I zou) I (dT ?_));replace Z:=Z.mono ((ab.trans U).trans O);replace H:=H.mono (U.trans O)
    case' x15=>
     refine xJ (A:=[]) (ρ:=rpI) G dK ?_;intro rj ay hf;refine qX (λX=>zL (ρ:=(rpS rpI)) (m:=1) (xs:=[(lU (II.getD i []) q J)]) (ps':=[(0,_)]) underlying81 jC I I I wJ e2z (zC I (y1e (y1u _) [] 0 dC) hf zN) zoj nP) I ?_
     rintro bm bo ⟨ax,rfl,H⟩
     refine j0 I I ?_;replace dr:=dr.mono ay;replace dq:=dq.mono ay;refine sC (ev2 I I) call44 (λw hs=>cQ hs dr dq oM) λjf gn ab bb=>?_;replace bb:=Rp.Is.le bb (Le.q (l:=15*k+15*l1+15*l2+93) oM);refine fU I ?_;replace bn:=bn.mono (ay.trans ab);refine xX I (xV (ρ:=(tPl (4*k+4*l1+4*l2+23) (15*k+15*l1+15*l2+93))) (xK (ps':=[(0,_),(1,_)]) underlying80 sE I I (sJ underlying80) e4z I (yF (xE (yE oM)) (yE oM)) (zC I (y2i (y1u _)) bn (zC I (y2u (y1u _)) bb zN)))) λje Z=>(j0 I I (sC (ev1 I) call126 (λw hs=>wZ hs oM oM) λdn df U ba=>?_));obtain⟨rfl,br⟩:=jW ba;refine fU I (bD I (λ_ _=>wT (pa:=([115]:List Nat)) (pb:=(qF (((↑i:Int):Int):Rat))) I I zou) I (fU I (bD I (λ_ _=>wT (pa:=(([115]:List Nat)++(qF (((↑i:Int):Int):Rat)))) (pb:=([46]:List Nat)) I I zou) I (j0 I I (sC (ev1 I) call126 (λw hs=>wZ hs oM oM) λbl de O ah=>?_)))));obtain⟨rfl,ar⟩:=jW ah;refine fU I (bD I (λ_ _=>wT (pa:=((([115]:List Nat)++(qF (((↑i:Int):Int):Rat)))++([46]:List Nat))) (pb:=(qF (((↑q:Int):Int):Rat))) I I zou) I (dT ?_));replace H:=H.mono ((ab.trans U).trans O);replace Z:=Z.mono (U.trans O)
   all_goals
    refine w_c I (xJ (A:=[]) (ρ:=(rpS rpI)) H dK ?_);intro h18 gj hd;replace Z:=Z.mono gj;refine sX (xV (ρ:=(tFc (4*k+4*l1+4*l2+23) (15*k+15*l1+15*l2+93))) (xK (ps':=[(0,_),(1,_),(2,_)]) underlying83 qI I I (cI underlying83) e6 I (yF (yF (xE (yE oM)) (yE oM)) (yF wJ kB)) (zC I (y2i (y1u _)) Z (zC I (y2u (y2i (y1u _))) hd (zC I (y2u (y2u (y1u _))) (pS ((((show ByB [115] by unfold ByB;decide).app br).app (show ByB [46] by unfold ByB;decide)).app ar)) zN))))) λvg ok=>?_;refine w_c I (qX (λX=>zL (ρ:=(tFc (4*k+4*l1+4*l2+23) (15*k+15*l1+15*l2+93))) (m:=1) (xs:=[(((nU PP ae (II.getD i []) q),vZ (nU PP ae (II.getD i []) q) (pU PP ae ((II.getD i []).getD q 0))),([(lU (II.getD i []) q J)],(((([115]:List Nat)++(qF (((↑i:Int):Int):Rat)))++([46]:List Nat))++(qF (((↑q:Int):Int):Rat)))))]) (ps':=[(0,_)]) underlying47 qI I I I (yF (yF (xE (yE oM)) (yE oM)) (yF wJ kB)) e2z (zC I (y1e (y1u _) zA 0 dC) ok zN) zon nP) I ?_)
    rintro vf yh ⟨uk,rfl,kp⟩
    refine w_c I (xJ (A:=[]) (ρ:=(tFc (4*k+4*l1+4*l2+23) (15*k+15*l1+15*l2+93))) kp dK ?_);intro tw jk hc;replace bw:=bw.mono (((((((fb.trans fa).trans ay).trans ab).trans U).trans O).trans gj).trans jk);refine gR (A:=[_,_,_,_]) (λX=>uW (yA (ρ:=(tFc (4*k+4*l1+4*l2+40) (100*k+100*l1+100*l2+1000))) (bytes:=264) underlying47 qI I I I I nP I I bw (hc.le (Le.s (Le.p (Le.p (Le.t (Le.q (l:=4*k+4*l1+4*l2+40) oM)) (Le.q (l:=100*k+100*l1+100*l2+1000) oM)) (Le.refl _)))) bO bO)) I (xU zox) ?_
    rintro ng yg ⟨gc,mz,rfl,ko⟩
    refine wK I (λ_ _=>(wD underlying50 I sizeOf47 I).cv (show _=vP aa 1 from zbi (vP aa) zo0)) I ?_;replace am:=am.mono (((((ay.trans ab).trans U).trans O).trans gj).trans jk);refine yJ (A:=[_,_,_,_,_,_,_,_,_,_,_]) I (uB sizeOf47 (y2u (y2i pH)) am (zBX gc)) λjc ik=>(pF (sM (vD (e':=[(6,_),(10,_),(13,_),(20,_),(24,_),(25,_),(26,_),(29,_)]) e8 (zI (zG (mv I I (gv (zY (q:=1) I I oM oM) I (asg I I (zX (uO (A:=[]) (uO (A:=[]) ?_)))))))))));refine gqL ((q+1),(F1++[(((nU PP ae (II.getD i []) q),vZ (nU PP ae (II.getD i []) q) (pU PP ae ((II.getD i []).getD q 0))),([(lU (II.getD i []) q J)],(((([115]:List Nat)++(qF (((↑i:Int):Int):Rat)))++([46]:List Nat))++(qF (((↑q:Int):Int):Rat)))))]),jc,ng,mz,tw) ?_ ?_
    · exact⟨mle,ik,ko,gc,by omega,by rw[mn,gm,ch,bj,zii];rfl⟩
    omega
  have ef:q=(II.getD i []).length:=by omega
  refine gO (uN (uN (gN (sM (zI (zG (mv I I (gv (zY (q:=1) I I oM oM) I (asg I I (zX ?_))))))))));refine gqL ((i+1),F1,(C0++[zJ3 (II.getD i []) (II.getD i []).length]),(T0++[TL]),ca,dm,fe,ae,bz,fh,eu,jg,gq,mf) ?_ ?_
  · exact⟨mle,am,im.up,il.up,bw,iv,kv.up,gf,kq.up,ge,by omega,by rw[ja,ch];rfl,by rw[iw,ml,ek,ch];rfl,by rw[mn,ef,ch];rfl⟩
  omega
 have ud:i=(bxZ L).length:=by rw[yE5];omega
 rw[ud] at ja iw iz;refine gO (uN (uN (gN (zI (zP (zG (gv ((wD underlying50 I sizeOf47 I).cv (show _=vP aa 1 from zbi (vP aa) zo0)) I (lX (bY (xB gK (y2u (y2i pH)) cd)) λve oj=>?_))))))));subst oj;refine zW (A:=[_]) (ρ:=(rpS rpI)) ct ?_;intro h8 bt ha;replace bh:=bh.mono bt;have da:(tFc 5 (l1+l2+5)).R h8 di (((T3.mk (0:Rat) (0:Rat) (-((1:Int):Rat)),-lo),(ap,[98,111,116,116,111,109])).1,(C0,(((T3.mk (0:Rat) (0:Rat) (-((1:Int):Rat)),-lo),(ap,[98,111,116,116,111,109])).2).2)):=zFS bh ha;replace bq:=bq.mono bt;refine zW (A:=[]) (ρ:=(rpS rpI)) bq ?_;intro h9 cg gz;replace av:=av.mono (bt.trans cg);have ij:(tFc 5 (l1+l2+5)).R h9 cj (((T3.mk (0:Rat) (0:Rat) ((1:Int):Rat),hi),(an,[116,111,112])).1,(T0,(((T3.mk (0:Rat) (0:Rat) ((1:Int):Rat),hi),(an,[116,111,112])).2).2)):=zFS av gz;replace da:=da.mono cg;refine lX (xB fD pH da) λvd oi=>(lX (xB fD pH ij) λvc oh=>(zF (zL (ρ:=(tFc 5 (l1+l2+5))) (m:=2) (xs:=[(((T3.mk (0:Rat) (0:Rat) (-((1:Int):Rat)),-lo),(ap,[98,111,116,116,111,109])).1,(C0,(((T3.mk (0:Rat) (0:Rat) (-((1:Int):Rat)),-lo),(ap,[98,111,116,116,111,109])).2).2)),(((T3.mk (0:Rat) (0:Rat) ((1:Int):Rat),hi),(an,[116,111,112])).1,(T0,(((T3.mk (0:Rat) (0:Rat) ((1:Int):Rat),hi),(an,[116,111,112])).2).2))]) (ps':=[(0,_),(1,_)]) underlying47 qI I I I (yF (yF (xE (yE dC)) (yE oM)) (yF wJ kB)) e4z (zC I (y1e (y1u _) zA 0 dC) oi (zC I (y1e (y1u _) zA 1 dC) oh zN)) (show 2*14<=16777216 from by decide) nP) I I I ?_))
 rintro vb yf ⟨uj,rfl,kn⟩
 refine zW (A:=[]) (ρ:=(tFc 5 (l1+l2+5))) kn ?_;intro ms bp gy;replace cu:=cu.mono ((bt.trans cg).trans bp);refine xL (A:=[]) (uW (yA (ρ:=(tFc (4*k+4*l1+4*l2+40) (100*k+100*l1+100*l2+1000))) (bytes:=264) underlying47 qI I I I I nP I I cu (gy.le (Le.s (Le.p (Le.p (Le.t (Le.q (l:=4*k+4*l1+4*l2+40) oM)) (Le.q (l:=100*k+100*l1+100*l2+1000) oM)) (Le.refl _)))) bO bO)) I I I ?_
 rintro va ye ⟨lu,ui,rfl,km⟩
 refine gv ((wD underlying50 I sizeOf47 I).cv (show _=vP aa 1 from zbi (vP aa) zo0)) I ?_;replace cd:=cd.mono ((bt.trans cg).trans bp);refine zV (A:=[_,_,_,_,_,_,_]) (uB sizeOf47 (y2u (y2i pH)) cd (zBX lu)) λfd cz=>(zX (vD (e':=[(6,_),(10,_)]) e2z (zI (zP (zG (zW (A:=[]) (ρ:=(tFc (4*k+4*l1+4*l2+40) (100*k+100*l1+100*l2+1000))) km ?_))))));intro go cq gx;replace cz:=cz.mono cq;have ii:(tSd (k+l1+l2+5) (4*k+4*l1+4*l2+40) (100*k+100*l1+100*l2+1000) 1).R go fd ((PP,(az,([]:List En))).1,((F0++[(((T3.mk (0:Rat) (0:Rat) (-((1:Int):Rat)),-lo),(ap,[98,111,116,116,111,109])).1,(C0,(((T3.mk (0:Rat) (0:Rat) (-((1:Int):Rat)),-lo),(ap,[98,111,116,116,111,109])).2).2)),(((T3.mk (0:Rat) (0:Rat) ((1:Int):Rat),hi),(an,[116,111,112])).1,(T0,(((T3.mk (0:Rat) (0:Rat) ((1:Int):Rat),hi),(an,[116,111,112])).2).2))]),((PP,(az,([]:List En))).2).2)):=zFS cz gx;have ih:(tSd (k+l1+l2+5) (4*k+4*l1+4*l2+40) (100*k+100*l1+100*l2+1000) 1).R go fd (prR L lo hi):=Rp.castR ii (by rw[iz,gm,ja,iw];rfl);refine lX (xB jH pH ih) λuy og=>?_;refine uU (vs:=[_]) I I I I call82 ⟨I,y1i⟩ (λw hs=>y9 hs og oM oM oM (by first|omega|exact hcd4 re)) ?_;intro ux mo zd fb dp;obtain⟨rq,jb,dp,rfl,iu,bv⟩:=dp
 change RL (tFc (4*(4*k+4*l1+4*l2+40)+12) ((4*k+4*l1+4*l2+40)+(100*k+100*l1+100*l2+1000)+12)) mo jb (nrF (prR L lo hi)) at bv
 replace dp:=Rp.Is.le dp (Le.p (Le.s (Le.t (Le.q (l:=k+l1+l2+6) oM))) (Le.p (Le.refl _) (Le.s (Le.p (Le.refl _) (Le.p (Le.refl _) (Le.q (l:=2) oM))))));replace bv:=(Le.p (Le.p (Le.t (Le.q (l:=16*k+16*l1+16*l2+172) oM)) (Le.q (l:=104*k+104*l1+104*l2+1052) oM)) (Le.refl _)).rl bv;replace bi:=bi.mono ((((((((((((((dv.trans eh).trans du).trans cf).trans bs).trans aq).trans cm).trans dd).trans gi).trans jh).trans bt).trans cg).trans bp).trans cq).trans fb);have gt:=(Le.p (Le.s (Le.t (Le.q (l:=k+l1+l2+6) oM))) (Le.p (Le.refl _) (Le.s (Le.p (Le.refl _) (Le.p (Le.refl _) (Le.q (l:=2) dC)))))).R bi;refine zV (A:=[_,_,_,_,_,_,_,_]) (uB sizeOf50 pH gt dp) λrm ig=>(asg (v:=vI (0)) I I (zX (zI (aD ?_))));rw[re,rd,tp];refine xW (jA (t:=6) jH (.tail _ mh7) I ig) ?_;intro rp ga id;refine gG (.cons_cons _ (zse _)) (λE S=>vO I ga (jE I) E S) ?_;exact⟨_,_,_,I,(Rp.Is.cast (Rp.Is.le id (Le.p (Le.s (Le.t (Le.q (l:=k+l1+l2+20) oM))) (Le.p (Le.refl _) (Le.s (Le.p (Le.refl _) (Le.p (Le.refl _) (Le.q (l:=5) dC))))))) (by rw[show nrE (prR L lo hi)=[] from by unfold nrE;split<;>rfl])),I,iu,((Le.p (Le.p (Le.t (Le.q (l:=1000*k+1000*l1+1000*l2+2000) oM)) (Le.q (l:=1000*k+1000*l1+1000*l2+2000) oM)) (Le.refl _)).rl bv)⟩
set_option maxHeartbeats 1000000 in
theorem zG2{w0:World}{h0:Mem}(hs:MLe h0 (mem w0)){k l:Nat}{va:Value}{a:Tq}(ra:(tPt k).Is h0 va a){vb:Value}{b:Tq}(rb:(tPt l).Is h0 vb b)(hcd0:k<=5)(hcd1:l<=5)(hcd2:oQ a b->blH a b):
 Calls prog 35 #[va,vb] w0 (rG w0 h0 (λh r L_=>∃u0 vF cs,r=.tuple #[u0,vI (blE a b)]/\(rpP (tLs (2*k+2*l+40)) (rpP rpV (rpS (rpP rpI (rpP rpI (rpQ 6)))))).Is h u0 (blP a b,(vF,[]))/\L_=[.gs 83 14 vF (blF a b).length cs]/\vF.oneCell'=true/\RL (tFc (10000*k+10000*l+20000) (10000*k+10000*l+20000)) h cs (blF a b))):=by
 refine cb2 102 va vb func35 hs ?_;refine go2 ?_;refine nB ra λb2 cj am=>(nB rb λb3 ci ak=>(nA (ρ:=(rpP (tLs 1) (rpP rpV (rpS (rpP rpI (rpP rpI (rpQ 1))))))) (X:=([],((Value.slice none 0 0),[]))) jM (yF wJ (yF sR wJ)) λb4 ch cc=>(uQ ?_)));refine gcL (ι:=Nat×Mem) (λ(i,ma)=>(MLe h0 ma/\(i<=3/\∀u,u<i->¬0<=wQ (a.at u) (b.at u)),[(2,vP b2 0),(3,vP b3 0),(4,vP b4 0),(6,vI ↑i)],[.var b4 50 ch,.var b3 53 ci,.var b2 53 cj],ma,3-i)) (0,h0) ?_ ?_
 · exact⟨mle,by omega,λu h=>by omega⟩
 rintro⟨i,ma⟩ ⟨dx,fi,hi2⟩
 refine yQ ?_;refine gc7 (λcg=>?_) λcg=>?_
 ·
  refine go5 ?_;refine zK 8 _ [] (zai 0 6 [(6,.c),(7,.q)]) yC nX zot nX (λr hr=>hr) (go1 ?_);refine wK I (λ_ _=>(wE (sz:=3) i underlying53 sizeOf26 I I I oM).cv (show _=vP b2 ((i*3+0)) from zbi (vP b2) oM)) I (wX I (xB yI (Pc.ta pH i oM) am) λfd dn=>(go1 ?_));refine wK I (λ_ _=>(wE (sz:=3) i underlying53 sizeOf26 I I I oM).cv (show _=vP b3 ((i*3+0)) from zbi (vP b3) oM)) I (wX I (xB yI (Pc.ta pH i oM) ak) λfc dm=>?_);refine w_c I (sC (ev2 I I) call18 (λw hs=>fQ hs dn dm oM) λcl h1 dq dl=>?_);obtain rfl:cl=vI (wQ (a.at i) (b.at i)):=dl;have dr:=kR (a.at i) (b.at i);refine gc3 (λaq=>?_) λaq=>?_
  ·
   refine go2 ?_;refine lX (xV (ρ:=(rpP (tLs 1) (rpP rpV (rpS (rpP rpI (rpP rpI (rpQ 1))))))) (xK (ps':=[]) underlying50 jM I I (rS underlying50) trivial I (yF wJ (yF sR wJ)) zN)) λfb dk=>(zV (A:=[]) (uB sizeOf50 pH cc dk) λdy cb=>(go9 ?_));obtain⟨e1,e2,e3⟩:=bl_9 (a:=a) (b:=b) (λe=>e i oM aq);rw[e1,e2,e3];refine bV 83 14 ?_;have bx:=RL.nil (ρ:=rpP (tPl (10000*k+10000*l+20000) (10000*k+10000*l+20000)) (rpP tII kD)) (h:=h1);refine xW (jA (t:=4) jH mh1 I cb) ?_;intro ec bj bw;refine gG (.cons_cons _ (zse _)) (λE S=>vO I bj (jE I) E S) ?_;exact⟨_,_,_,I,(Rp.Is.le bw (Le.p (Le.s (Le.t (Le.q (l:=2*k+2*l+40) oM))) (Le.p (Le.refl _) (Le.s (Le.p (Le.refl _) (Le.p (Le.refl _) (Le.q (l:=6) dC))))))),I,I,bx⟩
  refine go8 ?_;refine gqL ((i+1),h1) ?_ ?_
  · exact⟨mle,by omega,qA (Q:=λu=>¬0<=wQ (a.at u) (b.at u)) hi2 aq⟩
  omega
 have cd:oQ a b:=λu hu=>hi2 u oM;have an:=hcd2 cd;have fm:=zYS an.2.1;refine go8 ?_;refine lX (xB yI (y2e pH) am) λfa dj=>(go1 ?_);refine lX (xB yI (y3i pH) am) λez di=>(lX (xV (ρ:=(tPt (k+1))) (wL (ps':=[(0,_),(1,_)]) underlying53 yM I I sizeOf26 e4z I (xE (yE oM)) (zC I (y2e (y1u _)) (dj.le (Le.q (l:=k+1) oM)) (zC I (y3i (y1u _)) (di.le (Le.q (l:=k+1) oM)) zN)))) λey dh=>(go1 ?_));refine lX (xB yI (y2e pH) ak) λew df=>(go1 ?_);refine lX (xB yI (y3i pH) am) λev de=>(lX (xV (ρ:=(tPt (k+l+1))) (wL (ps':=[(0,_),(1,_)]) underlying53 yM I I sizeOf26 e4z I (xE (yE oM)) (zC I (y2e (y1u _)) (df.le (Le.q (l:=k+l+1) oM)) (zC I (y3i (y1u _)) (de.le (Le.q (l:=k+l+1) oM)) zN)))) λeu dd=>(go1 ?_));refine lX (xB yI (y2e pH) ak) λes dc=>(go1 ?_);refine lX (xB yI (y3i pH) ak) λer db=>(lX (xV (ρ:=(tPt (l+1))) (wL (ps':=[(0,_),(1,_)]) underlying53 yM I I sizeOf26 e4z I (xE (yE oM)) (zC I (y2e (y1u _)) (dc.le (Le.q (l:=l+1) oM)) (zC I (y3i (y1u _)) (db.le (Le.q (l:=l+1) oM)) zN)))) λeq da=>(go1 ?_));refine lX (xB yI (y2e pH) am) λep cz=>(go1 ?_);refine lX (xB yI (y3i pH) ak) λeo cy=>(lX (xV (ρ:=(tPt (k+l+1))) (wL (ps':=[(0,_),(1,_)]) underlying53 yM I I sizeOf26 e4z I (xE (yE oM)) (zC I (y2e (y1u _)) (cz.le (Le.q (l:=k+l+1) oM)) (zC I (y3i (y1u _)) (cy.le (Le.q (l:=k+l+1) oM)) zN)))) λen cw=>(zF (zL (ρ:=(tPt (k+l+1))) (m:=4) (xs:=[(zZ a),(T3.mk b.x a.y (0:Rat)),(zZ b),(T3.mk a.x b.y (0:Rat))]) (ps':=[(0,_),(1,_),(2,_),(3,_)]) underlying46 yM I I I (xE (yE oM)) e8 (zC I (y1e (y1u _) zT 0 dC) (dh.le (Le.t (Le.q (l:=k+l+1) oM))) (zC I (y1e (y1u _) zT 1 dC) dd (zC I (y1e (y1u _) zT 2 dC) (da.le (Le.t (Le.q (l:=k+l+1) oM))) (zC I (y1e (y1u _) zT 3 dC) cw zN)))) (show 4*9<=16777216 from by decide) nP) I I I ?_))
 rintro em fg ⟨ea,rfl,ca⟩
 refine zW (A:=[]) (ρ:=(tPt (k+l+1))) ca ?_;intro h1 dq bv;refine zF (zL (ρ:=(tLs (k+l+1))) (m:=1) (xs:=[[(zZ a),(T3.mk b.x a.y (0:Rat)),(zZ b),(T3.mk a.x b.y (0:Rat))]]) (ps':=[(0,_)]) underlying115 rY I I I wJ e2z (zC I (y1e (y1u _) [] 0 dC) bv zN) zoj nP) I I I ?_
 rintro el ff ⟨dz,rfl,bz⟩
 refine go1 ?_;refine lX (xB yI (y3u pH) am) λek cu=>(go1 ?_);refine lX (xB yI (y3u pH) ak) λej ct=>(zW (A:=[]) (ρ:=(tLs (k+l+1))) bz ?_);intro h2 fl bu;refine uU (vs:=[_,_,_]) I I I I call81 e3z (λw hs=>zGY hs bu cu.up ct.up oM oM oM (by first|omega|exact an.1|exact an.2.1) (by first|omega|exact an.1|exact an.2.1)) ?_;intro eh h3 fq fk ao;obtain⟨fe,bt,au,rfl,ao,rfl,ce,ad⟩:=ao
 change RL (tFc (1000*(k+l+1)+1000*k+1000*l+2000) (1000*(k+l+1)+1000*k+1000*l+2000)) h3 au (prF [[(zZ a),(T3.mk b.x a.y (0:Rat)),(zZ b),(T3.mk a.x b.y (0:Rat))]] a.z b.z) at ad
 replace ao:=Rp.Is.le ao (Le.p (Le.s (Le.t (Le.q (l:=2*k+2*l+21) oM))) (Le.refl _));replace ad:=(Le.p (Le.p (Le.t (Le.q (l:=2000*k+2000*l+3000) oM)) (Le.q (l:=2000*k+2000*l+3000) oM)) (Le.refl _)).rl ad;refine go3 ?_;refine nA (ρ:=(rpP (tLs 1) (rpP rpV (rpS (rpP rpI (rpP rpI (rpQ 1))))))) (X:=([],((Value.slice none 0 0),[]))) jM (yF wJ (yF sR wJ)) λb7 fp cm=>?_;have aw:=(Le.p (Le.s (Le.t (Le.q (l:=2*k+2*l+21) oM))) (Le.p (Le.refl _) (Le.s (Le.p (Le.refl _) (Le.p (Le.refl _) (Le.q (l:=5) dC)))))).R cm;refine zV (A:=[]) (uB sizeOf50 pH aw ao) λbs bi=>(uQ ?_);refine gcL (ι:=Nat×List Fc×List Value×Value×List Value×Mem) (λ(i,J,H,C,ae,mb)=>(MLe h3 mb/\((rpP (tLs (2*k+2*l+30)) (rpP rpV (rpS (rpP rpI (rpP rpI (rpQ 5)))))).R mb H (prP (blL a b) a.z b.z,(C,([]:List En)))/\RL (tFc (2000*k+2000*l+3000) (2000*k+2000*l+3000)) mb ae J/\C.oneCell'=true/\i<=(prF (blL a b) a.z b.z).length/\J=oS rnF zA (prF (blL a b) a.z b.z) i),[(4,vP b4 0),(7,vP b7 0),(8,vI (prE [[(zZ a),(T3.mk b.x a.y (0:Rat)),(zZ b),(T3.mk a.x b.y (0:Rat))]] a.z b.z)),(9,vI ↑i)],[.var b7 50 H,.gs 83 14 C J.length ae,.var b4 50 ch,.var b3 53 ci,.var b2 53 cj],mb,(prF (blL a b) a.z b.z).length-i)) (0,(prF (blL a b) a.z b.z),bs,bt,au,h3) ?_ ?_
 · exact⟨mle,((Le.p (Le.s (Le.t (Le.q (l:=2*k+2*l+30) oM))) (Le.refl _)).R bi),ad,ce,by omega,I⟩
 rintro⟨i,J,H,C,ae,mb⟩ ⟨dw,G,D,M,fh,Z⟩
 refine yQ ?_;have fo:J.length=(prF (blL a b) a.z b.z).length:=by rw[Z];exact iD _ _ _ _
 refine go5 ?_;refine lX (bY (xB gK (y2u (y2i pH)) G)) λeg cq=>?_;subst cq;refine gv (gV mh1 underlying47 I) I (gc3 (λcf=>?_) λcf=>?_)
 ·
  refine go7 ?_;refine lX (bY (xB gK (y2u (y2i pH)) G)) λef cp=>?_;subst cp;refine go1 ?_;refine gv ((yZ i mh1 underlying47 sizeOf83 I I I bO nP).cv (show _=zM 1 C ((i*14+0)) from zbi (zM 1 C) zo0)) I (go6 ?_);refine gv (sW (y1e (y1u _) zA i bO) I nP D mh1 I) I (gv ((fN (y1e (y1u _) zA i bO) I nP D mh1 underlying83 I sizeOf9 I).cv (show _=zM 1 C ((i*14+13)) from zbi (zM 1 C) (by show(i*14+0)+13=(i*14+13);omega))) I (zLK (F:=λv_=>kD.Is mb v_ (((J.getD i zA).2).2)) (vH ty9 (y1e (y2u (y2u (y1u _))) zA i bO) I nP I D I) (sL mh1) I ?_));intro ee co;obtain⟨rfl,ab⟩:=jW co;refine go5 ?_;refine gv (nG (pa:=(((J.getD i zA).2).2)) (pb:=([98,111,116,116,111,109]:List Nat)) ab (show ByB [98,111,116,116,111,109] by unfold ByB;decide) I I) I (gc3 (λO=>?_) λO=>?_)
  ·
   refine go2 ?_;refine gv (sW (y1e (y1u _) zA i bO) I nP D mh1 I) I (gv ((fN (y1e (y1u _) zA i bO) I nP D mh1 underlying83 I sizeOf9 I).cv (show _=zM 1 C ((i*14+13)) from zbi (zM 1 C) (by show(i*14+0)+13=(i*14+13);omega))) I (kM (A:=[_]) (F:=λc_=>RL (tFc (2000*k+2000*l+3000) (2000*k+2000*l+3000)) mb c_ (J.set i ((J.getD i zA).1,(((J.getD i zA).2).1,([122,48]:List Nat))))) (sT sizeOf9 (y1e (y2u (y2u (y1u _))) zA i bO) I nP I I D (pS (show ByB [122,48] by unfold ByB;decide)) I) ?_));intro br be;refine go9 ?_;refine gqL ((i+1),(J.set i ((J.getD i zA).1,(((J.getD i zA).2).1,([122,48]:List Nat)))),H,C,br,mb) ?_ ?_
   · exact⟨mle,G,be,M,by omega,zMF Z (by unfold rnN;rw[zau O])⟩
   omega
  refine go2 ?_;refine gv (nG (pa:=(((J.getD i zA).2).2)) (pb:=([116,111,112]:List Nat)) ab (show ByB [116,111,112] by unfold ByB;decide) I I) I (gc3 (λU=>?_) λU=>?_)
  ·
   refine go2 ?_;refine gv (sW (y1e (y1u _) zA i bO) I nP D mh1 I) I (gv ((fN (y1e (y1u _) zA i bO) I nP D mh1 underlying83 I sizeOf9 I).cv (show _=zM 1 C ((i*14+13)) from zbi (zM 1 C) (by show(i*14+0)+13=(i*14+13);omega))) I (kM (A:=[_]) (F:=λc_=>RL (tFc (2000*k+2000*l+3000) (2000*k+2000*l+3000)) mb c_ (J.set i ((J.getD i zA).1,(((J.getD i zA).2).1,([122,49]:List Nat))))) (sT sizeOf9 (y1e (y2u (y2u (y1u _))) zA i bO) I nP I I D (pS (show ByB [122,49] by unfold ByB;decide)) I) ?_));intro bq bd;refine go9 ?_;refine gqL ((i+1),(J.set i ((J.getD i zA).1,(((J.getD i zA).2).1,([122,49]:List Nat)))),H,C,bq,mb) ?_ ?_
   · exact⟨mle,G,bd,M,by omega,zMF Z (by unfold rnN;rw[zae O,zau U])⟩
   omega
  refine go2 ?_;refine gv (nG (pa:=(((J.getD i zA).2).2)) (pb:=([115,48,46,48]:List Nat)) ab (show ByB [115,48,46,48] by unfold ByB;decide) I I) I (gc3 (λaa=>?_) λaa=>?_)
  ·
   refine go2 ?_;refine gv (sW (y1e (y1u _) zA i bO) I nP D mh1 I) I (gv ((fN (y1e (y1u _) zA i bO) I nP D mh1 underlying83 I sizeOf9 I).cv (show _=zM 1 C ((i*14+13)) from zbi (zM 1 C) (by show(i*14+0)+13=(i*14+13);omega))) I (kM (A:=[_]) (F:=λc_=>RL (tFc (2000*k+2000*l+3000) (2000*k+2000*l+3000)) mb c_ (J.set i ((J.getD i zA).1,(((J.getD i zA).2).1,([121,48]:List Nat))))) (sT sizeOf9 (y1e (y2u (y2u (y1u _))) zA i bO) I nP I I D (pS (show ByB [121,48] by unfold ByB;decide)) I) ?_));intro bp bc;refine go9 ?_;refine gqL ((i+1),(J.set i ((J.getD i zA).1,(((J.getD i zA).2).1,([121,48]:List Nat)))),H,C,bp,mb) ?_ ?_
   · exact⟨mle,G,bc,M,by omega,zMF Z (by unfold rnN;rw[zae O,zae U,zau aa])⟩
   omega
  refine go2 ?_;refine gv (nG (pa:=(((J.getD i zA).2).2)) (pb:=([115,48,46,49]:List Nat)) ab (show ByB [115,48,46,49] by unfold ByB;decide) I I) I (gc3 (λai=>?_) λai=>?_)
  ·
   refine go2 ?_;refine gv (sW (y1e (y1u _) zA i bO) I nP D mh1 I) I (gv ((fN (y1e (y1u _) zA i bO) I nP D mh1 underlying83 I sizeOf9 I).cv (show _=zM 1 C ((i*14+13)) from zbi (zM 1 C) (by show(i*14+0)+13=(i*14+13);omega))) I (kM (A:=[_]) (F:=λc_=>RL (tFc (2000*k+2000*l+3000) (2000*k+2000*l+3000)) mb c_ (J.set i ((J.getD i zA).1,(((J.getD i zA).2).1,([120,49]:List Nat))))) (sT sizeOf9 (y1e (y2u (y2u (y1u _))) zA i bO) I nP I I D (pS (show ByB [120,49] by unfold ByB;decide)) I) ?_));intro bo bb;refine go9 ?_;refine gqL ((i+1),(J.set i ((J.getD i zA).1,(((J.getD i zA).2).1,([120,49]:List Nat)))),H,C,bo,mb) ?_ ?_
   · exact⟨mle,G,bb,M,by omega,zMF Z (by unfold rnN;rw[zae O,zae U,zae aa,zau ai])⟩
   omega
  refine go2 ?_;refine gv (nG (pa:=(((J.getD i zA).2).2)) (pb:=([115,48,46,50]:List Nat)) ab (show ByB [115,48,46,50] by unfold ByB;decide) I I) I (gc3 (λaj=>?_) λaj=>?_)
  ·
   refine go2 ?_;refine gv (sW (y1e (y1u _) zA i bO) I nP D mh1 I) I (gv ((fN (y1e (y1u _) zA i bO) I nP D mh1 underlying83 I sizeOf9 I).cv (show _=zM 1 C ((i*14+13)) from zbi (zM 1 C) (by show(i*14+0)+13=(i*14+13);omega))) I (kM (A:=[_]) (F:=λc_=>RL (tFc (2000*k+2000*l+3000) (2000*k+2000*l+3000)) mb c_ (J.set i ((J.getD i zA).1,(((J.getD i zA).2).1,([121,49]:List Nat))))) (sT sizeOf9 (y1e (y2u (y2u (y1u _))) zA i bO) I nP I I D (pS (show ByB [121,49] by unfold ByB;decide)) I) ?_));intro bn ba;refine go9 ?_;refine gqL ((i+1),(J.set i ((J.getD i zA).1,(((J.getD i zA).2).1,([121,49]:List Nat)))),H,C,bn,mb) ?_ ?_
   · exact⟨mle,G,ba,M,by omega,zMF Z (by unfold rnN;rw[zae O,zae U,zae aa,zae ai,zau aj])⟩
   omega
  refine go2 ?_;refine gv (nG (pa:=(((J.getD i zA).2).2)) (pb:=([115,48,46,51]:List Nat)) ab (show ByB [115,48,46,51] by unfold ByB;decide) I I) I (gc3 (λap=>?_) λap=>?_)
  ·
   refine go2 ?_;refine gv (sW (y1e (y1u _) zA i bO) I nP D mh1 I) I (gv ((fN (y1e (y1u _) zA i bO) I nP D mh1 underlying83 I sizeOf9 I).cv (show _=zM 1 C ((i*14+13)) from zbi (zM 1 C) (by show(i*14+0)+13=(i*14+13);omega))) I (kM (A:=[_]) (F:=λc_=>RL (tFc (2000*k+2000*l+3000) (2000*k+2000*l+3000)) mb c_ (J.set i ((J.getD i zA).1,(((J.getD i zA).2).1,([120,48]:List Nat))))) (sT sizeOf9 (y1e (y2u (y2u (y1u _))) zA i bO) I nP I I D (pS (show ByB [120,48] by unfold ByB;decide)) I) ?_));intro bm az;refine go9 ?_;refine gqL ((i+1),(J.set i ((J.getD i zA).1,(((J.getD i zA).2).1,([120,48]:List Nat)))),H,C,bm,mb) ?_ ?_
   · exact⟨mle,G,az,M,by omega,zMF Z (by unfold rnN;rw[zae O,zae U,zae aa,zae ai,zae aj,zau ap])⟩
   omega
  refine go9 ?_;refine gqL ((i+1),J,H,C,ae,mb) ?_ ?_
  · exact⟨mle,G,D,M,by omega,yFN Z (by unfold rnN;rw[zae O,zae U,zae aa,zae ai,zae aj,zae ap]) oM⟩
  omega
 have ei:i=(prF (blL a b) a.z b.z).length:=by omega
 rw[ei] at Z;refine go7 ?_;refine zW (A:=[_]) (ρ:=(tFc (2000*k+2000*l+3000) (2000*k+2000*l+3000))) D ?_;intro h4 dp ax;replace G:=G.mono dp;have bh:(tSd (2*k+2*l+30) (2000*k+2000*l+3000) (2000*k+2000*l+3000) 5).R h4 H ((prP (blL a b) a.z b.z,(C,([]:List En))).1,(J,((prP (blL a b) a.z b.z,(C,([]:List En))).2).2)):=zFS G ax;have bg:(tSd (2*k+2*l+30) (2000*k+2000*l+3000) (2000*k+2000*l+3000) 5).R h4 H (blS a b):=Rp.castR bh (by rw[Z];rfl);refine lX (xB jH pH bg) λed cn=>?_;refine uU (vs:=[_]) I I I I call82 ⟨I,y1i⟩ (λw hs=>y9 hs cn oM oM oM (by first|omega|exact an.2.2)) ?_;intro dv h5 eb fj ah;obtain⟨ck,bl,ah,rfl,bk,ac⟩:=ah
 change RL (tFc (4*(2000*k+2000*l+3000)+12) ((2000*k+2000*l+3000)+(2000*k+2000*l+3000)+12)) h5 bl (nrF (blS a b)) at ac
 replace ah:=Rp.Is.le ah (Le.p (Le.s (Le.t (Le.q (l:=2*k+2*l+31) oM))) (Le.p (Le.refl _) (Le.s (Le.p (Le.refl _) (Le.p (Le.refl _) (Le.q (l:=6) oM))))));replace ac:=(Le.p (Le.p (Le.t (Le.q (l:=8000*k+8000*l+12012) oM)) (Le.q (l:=4000*k+4000*l+6012) oM)) (Le.refl _)).rl ac;refine go1 ?_;have av:=(Le.p (Le.s (Le.t (Le.q (l:=2*k+2*l+31) oM))) (Le.p (Le.refl _) (Le.s (Le.p (Le.refl _) (Le.p (Le.refl _) (Le.q (l:=6) dC)))))).R cc;refine zV (A:=[_,_]) (uB sizeOf50 pH av ah) λdt bf=>(go4 ?_);obtain⟨e1,e2,e3⟩:=zZ4 cd;rw[e1,e2,e3];refine xW (jA (t:=4) jH mh2 I bf) ?_;intro du ar ay;refine gG (.cons_cons _ (zse _)) (λE S=>vO I ar (jE I) E S) ?_;exact⟨_,_,_,I,(Rp.Is.cast (Rp.Is.le ay (Le.p (Le.s (Le.t (Le.q (l:=2*k+2*l+40) oM))) (Le.refl _))) (by rw[show nrE (blS a b)=[] from by unfold nrE;split<;>rfl])),I,bk,((Le.p (Le.p (Le.t (Le.q (l:=10000*k+10000*l+20000) oM)) (Le.q (l:=10000*k+10000*l+20000) oM)) (Le.refl _)).rl ac)⟩
end Go.Proofs.YtboaboflnckgoaaGreat
namespace Bk
open Classical
section
variable {x p y q:Rat}
def lay(x p y q:Rat)(s:List PI)(l:List Pt):Prop:=l.length=s.length/\∀m,m<s.length->pr (gp l m) 0 1=ag x p y q (gI s m)
def arG(s:List PI):Nat->Int
  |0=>0
  |m+1=>arG s m+((gI s m).1*(gI s ((m+1)%s.length)).2-(gI s ((m+1)%s.length)).1*(gI s m).2)
theorem zLI{s:List PI}{l:List Pt}(h:lay x p y q s l):∀m,m<=s.length->
 uG l 0 1 m=p*q*((arG s m:Int):Rat)+x*q*(((gI s (m%s.length)).2:Rat)-((gI s 0).2:Rat))-y*p*(((gI s (m%s.length)).1:Rat)-((gI s 0).1:Rat))
 |0,_=>by
  rw[Nat.zero_mod]
  show(0:Rat)=p*q*((0:Int):Rat)+_-_
  have:((0:Int):Rat)=0:=rfl;rw[this];grind
 |m+1,hm=>by
  have ih:=zLI h m zos;have e1:=h.2 m zos;have e2:=h.2 ((m+1)%s.length) (zcu _ zos);have hmod:m%s.length=m:=zoh zos;rw[hmod] at ih;have a1:(gp l m).at 0=x+p*((gI s m).1:Rat):=zbi Prod.fst e1;have a2:(gp l m).at 1=y+q*((gI s m).2:Rat):=zbi Prod.snd e1;have b1:(gp l ((m+1)%s.length)).at 0=x+p*((gI s ((m+1)%s.length)).1:Rat):=zbi Prod.fst e2;have b2:(gp l ((m+1)%s.length)).at 1=y+q*((gI s ((m+1)%s.length)).2:Rat):=zbi Prod.snd e2
  show uG l 0 1 m+((gp l m).at 0*(gp l ((m+1)%l.length)).at 1-(gp l ((m+1)%l.length)).at 0*(gp l m).at 1)=_
  rw[h.1,ih,a1,a2,b1,b2]
  show _=p*q*((arG s m+((gI s m).1*(gI s ((m+1)%s.length)).2-(gI s ((m+1)%s.length)).1*(gI s m).2):Int):Rat)+_-_
  simp only[zpe,z7i,zsu];grind
theorem zVY{s:List PI}{l:List Pt}(h:lay x p y q s l):arZ l 0 1=p*q*((arG s s.length:Int):Rat):=by
 unfold arZ;rw[h.1,zLI h _ (zbe _),Nat.mod_self];grind
theorem zDD(hp:0<p)(hq:0<q){s:List PI}{l:List Pt}(h:lay x p y q s l):yW (arZ l 0 1)=sgI (arG s s.length):=by
 rw[zVY h,oW (tM hp hq),t6];rfl
theorem zI3(hp:0<p)(hq:0<q){s:List PI}{l:List Pt}(h:lay x p y q s l)(hb:zQ4 s=true):bG l 0 1:=zD4 hp hq h.1 h.2 hb
theorem cT{s:List PI}{l:List Pt}(h:lay x p y q s l){m:Nat}(hm:m<s.length):kQ l 0 1 m=ag x p y q (gI s m)/\kP l 0 1 m=ag x p y q (gI s ((m+1)%s.length)):=by
 unfold kQ kP;rw[h.1];exact⟨h.2 m hm,h.2 _ (zcu _ zos)⟩
def btI(a b c:Int):Bool:=decide ((a<=c/\c<=b)\/(b<=c/\c<=a))
def zYZ(u v w:PI):Bool:=btI u.1 v.1 w.1&&btI u.2 v.2 w.2&&decide (crI u v w=0)
def csI(u v w:PI):Bool:=decide (¬(u.2<=w.2↔v.2<=w.2)/\((u.2<=w.2/\0<crI u v w)\/(v.2<=w.2/\crI u v w<0)))
def odI(s:List PI)(w:PI):Nat->Bool
  |0=>false
  |m+1=>csI (gI s m) (gI s ((m+1)%s.length)) w != odI s w m
def inI(s:List PI)(w:PI):Int:=if(List.range s.length).any λm=>zYZ (gI s m) (gI s ((m+1)%s.length)) w then 0 else if odI s w s.length then 1 else -1
theorem zXI{a b:Int}(hp:0<p):x+p*(a:Rat)<=x+p*(b:Rat)↔a<=b:=by
 rw[<-Rat.not_lt,zHP hp,Int.not_lt]
theorem yA3(hp:0<p)(hq:0<q)(u v w:PI):onS (ag x p y q u) (ag x p y q v) (ag x p y q w)↔zYZ u v w=true:=by
 have C:cr (ag x p y q u) (ag x p y q v) (ag x p y q w)=0↔crI u v w=0:=by
  rw[yA6];have h0:¬p*q=0:=λe=>absurd (e▸tM hp hq) zov;constructor
  · intro e
    rcases zoe.1 e with e|e
    · exact absurd e h0
    · exact zre.1 e
  · intro e
    rw[e];exact yue _
 unfold onS zYZ tY btI;rw[C,zbu,zbu,zhi,zhi,zhi];unfold ag;simp only[zXI hp,zXI hq];constructor
 · rintro⟨a,b,c⟩;exact⟨⟨by omega,by omega⟩,c⟩
 · rintro⟨⟨a,b⟩,c⟩;exact⟨by omega,by omega,c⟩
theorem iI{n:Int}:0<sgI n↔0<n:=by unfold sgI;split<;>(try split)<;>omega
theorem zO8{n:Int}:sgI n<0↔n<0:=by unfold sgI;split<;>(try split)<;>omega
theorem yGY(hp:0<p)(hq:0<q)(u v w:PI):eW (ag x p y q u) (ag x p y q v) (ag x p y q w)↔csI u v w=true:=by
 unfold eW csI;rw[zhi,zXH hp hq];unfold orI;rw[iI,zO8];unfold ag;simp only[zXI hq]
theorem zI4(hp:0<p)(hq:0<q){s:List PI}{l:List Pt}(h:lay x p y q s l)(w:PI):∀m,m<=s.length->(cO l (ag x p y q w) 0 1 m↔odI s w m=true)
  |0,_=>by simp[cO,odI]
  |m+1,hm=>by
   have ih:=zI4 hp hq h w m zos;obtain⟨e1,e2⟩:=cT h (m:=m) zos;unfold cO odI;rw[e1,e2,yGY hp hq,ih]
   cases csI (gI s m) (gI s ((m+1)%s.length)) w<;>cases odI s w m<;>simp
theorem yD3(hp:0<p)(hq:0<q){s:List PI}{l:List Pt}(h:lay x p y q s l)(w:PI):w8 l (ag x p y q w) 0 1=inI s w:=by
 unfold w8 inI;have h1:(∃m,m<l.length/\onS (kQ l 0 1 m) (kP l 0 1 m) (ag x p y q w))↔((List.range s.length).any λm=>zYZ (gI s m) (gI s ((m+1)%s.length)) w)=true:=by
  rw[List.any_eq_true,h.1];constructor
  · rintro⟨m,D,e⟩
    obtain⟨G,C⟩:=cT h D;rw[G,C,yA3 hp hq] at e;exact⟨m,zog.2 D,e⟩
  · rintro⟨m,D,e⟩
    have D:=zog.1 D;obtain⟨G,C⟩:=cT h D;refine⟨m,D,?_⟩;rw[G,C,yA3 hp hq];exact e
 by_cases e:∃m,m<l.length/\onS (kQ l 0 1 m) (kP l 0 1 m) (ag x p y q w)
 · rw[zau e,zau (h1.1 e)]
 · rw[zae e,zae λH=>e (h1.2 H),h.1]
   by_cases C:cO l (ag x p y q w) 0 1 s.length
   · rw[zau C,zau ((zI4 hp hq h w _ (zbe _)).1 C)]
   · rw[zae C,zae λH=>C ((zI4 hp hq h w _ (zbe _)).2 H)]
def dbI(s:List PI):List PI:=s.map λu=>(2*u.1,2*u.2)
def miI(u v:PI):PI:=(u.1+v.1,u.2+v.2)
theorem yER(s:List PI){m:Nat}(hm:m<s.length):gI (dbI s) m=(2*(gI s m).1,2*(gI s m).2):=by
 unfold gI dbI;rw[zoa,zoa,z0u,zoc hm];rfl
theorem yD4{s:List PI}{l:List Pt}(h:lay x p y q s l):lay x (p/2) y (q/2) (dbI s) l:=by
 have D:(dbI s).length=s.length:=zde _;refine⟨by rw[D];exact h.1,λm C=>?_⟩;rw[D] at C;rw[h.2 m C,yER s C];unfold ag;have e:∀a:Int,(((2*a:Int)):Rat)=2*(a:Rat):=λa=>by rw[zsu];rfl
 show(x+p*_,y+q*_)=(x+p/2*(((2*_:Int)):Rat),y+q/2*(((2*_:Int)):Rat))
 rw[e,e];refine Prod.ext ?_ ?_
 · show x+p*_=x+p/2*(2*_);grind
 · show y+q*_=y+q/2*(2*_);grind
theorem yFE(u v:PI):zN6 (ag x p y q u) (ag x p y q v)=ag x (p/2) y (q/2) (miI u v):=by
 have C:zE4=1/2:=zHB.symm.trans I;unfold zN6 ag miI zBS;rw[C];simp only[zpe];refine Prod.ext ?_ ?_
 · show(x+p*_+(x+p*_))*(1/2)=x+p/2*(_+_);grind
 · show(y+q*_+(y+q*_))*(1/2)=y+q/2*(_+_);grind
def wiB(c s:List PI):Bool:=(List.range s.length).all λm=>decide (inI (dbI c) (miI (gI s m) (gI s ((m+1)%s.length)))=1)
theorem zJK{c l:List Pt}(h:∀m,m<l.length->w8 c (zN6 (kQ l 0 1 m) (kP l 0 1 m)) 0 1=1):∀m,m<=l.length->rO c l 0 1 m=m
  |0,_=>rfl
  |m+1,hm=>by
   unfold rO;rw[zau (h m zos),zJK h m zos];omega
theorem zVX(hp:0<p)(hq:0<q){s t:List PI}{c l:List Pt}(hc:lay x p y q s c)(hl:lay x p y q t l)(h:wiB s t=true):wiZ c l 0 1=l.length:=by
 refine zJK (λm C=>?_) _ (zbe _);rw[hl.1] at C;obtain⟨G,D⟩:=cT hl C;rw[G,D,yFE,yD3 (p:=p/2) (q:=q/2) zo2 zo2 (yD4 hc)];have:=zob.1 h m (zog.2 C);exact yau this
theorem zGP{P:List Pt}(h:0<yW (arZ P 0 1)):pK P:=zB1 λe=>by
 have e':arZ P 0 1=0:=e;rw[e',show yW 0=0 from zau rfl] at h;omega
def noX(s t:List PI):Bool:=(List.range s.length).all λa=>(List.range t.length).all λb=>!decide (1<toI (gI s a) (gI s ((a+1)%s.length)) (gI t b) (gI t ((b+1)%t.length)))
theorem zZH(hp:0<p)(hq:0<q){s t:List PI}{c l:List Pt}(hc:lay x p y q s c)(hl:lay x p y q t l)(h:noX s t=true):¬gA c l 0 1:=by
 rintro⟨a,b,C,hb,e⟩
 rw[hc.1] at C;rw[hl.1] at hb;unfold dR at e;rw[(cT hc C).1,(cT hc C).2,(cT hl hb).1,(cT hl hb).2,zL6 hp hq] at e;have h1:=zob.1 (zob.1 h a (zog.2 C)) b (zog.2 hb);rw[zje,zgu] at h1;exact h1 e
theorem zU6{P Q:List Pt}(hs:bG P 0 1)(ht:bG Q 0 1)(hl:P.length<=64/\Q.length<=64)(hx:¬gA P Q 0 1)(ha:0<yW (arZ P 0 1))(hw:wiZ P Q 0 1=Q.length):vS [P,Q] 0 1=0:=by
 have C:∀m,m<[P,Q].length->m=0\/m=1:=λm D=>by have:m<2:=D;omega
 have hb:yGV [P,Q] 0 1 1 0 (-1):=⟨⟨ha,hw⟩,.inl zov⟩;have O:pZ [P,Q] 0 1 0= -1:=zau ha;have M:0<=tD [P,Q] 0 1 1 2:=by
  have J:tD [P,Q] 0 1 1 1=0:=zau hb;unfold tD;rw[J]
  split<;>decide
 unfold vS;rw[zae (λe=>by
  rcases e with e|⟨m,D,e⟩
  · have:16<2:=e
    omega
  · rcases C m D with rfl|rfl
    · have:64<P.length:=e
      omega
    · have:64<Q.length:=e
      omega),zae (λe=>by
  obtain⟨m,D,e⟩:=e
  rcases C m D with rfl|rfl
  · exact e hs
  · exact e ht),zae (λe=>by
  obtain⟨a,b,H,hb,e⟩:=e;have:b<2:=hb;have:a=0/\b=1:=by omega
  obtain⟨rfl,rfl⟩:=this;exact hx e),zae (λe=>by
  rcases e with⟨k,hk,e⟩|⟨a,b,hka,hkb,e⟩
  · rcases C k hk with rfl|rfl
    · exact e.1 ha
    · have:=e.2
      have Z:tD [P,Q] 0 1 1 [P,Q].length=tD [P,Q] 0 1 1 2:=I;omega
  · obtain⟨⟨⟨G,h0⟩,U⟩,_⟩:=e
    rcases C a hka with rfl|rfl
    · omega
    · rcases C b hkb with rfl|rfl
      · omega
      · exact G I)]
def nsI(S:List (List PI)):Bool:=
 match S with
 |[s]=>zQ4 s&&decide (s.length<=64)&&decide (0<arG s s.length)
 |[s,t]=>zQ4 s&&zQ4 t&&decide (s.length<=64/\t.length<=64)&&noX s t&&decide (0<arG s s.length)&&decide (arG t t.length<0)&&wiB s t
 |_=>false
def yD5(x p y q:Rat)(S:List (List PI))(L:List (List Pt)):Prop:=L.length=S.length/\∀m,m<S.length->lay x p y q (S.getD m []) (gl L m)
theorem zK3(hp:0<p)(hq:0<q){S:List (List PI)}{L:List (List Pt)}(h:yD5 x p y q S L)(hb:nsI S=true):vS L 0 1=0/\ouZ L=1/\∀l,l∈L->pK l:=by
 match S,hb with
 |[s],hb=>
  match L,h.1 with
  |[l],_=>
   have h0:lay x p y q s l:=h.2 0 (show 0<_ from Nat.zero_lt_succ _);simp only[nsI,zbu,zhi] at hb;have C:0<yW (arZ l 0 1):=by rw[zDD hp hq h0];exact iI.2 hb.2
   refine⟨zEP (zI3 hp hq h0 hb.1.1) (by rw[h0.1];exact hb.1.2) C,zNE C,λz hz=>?_⟩;rw[zne.1 hz];exact zGP C
 |[s,t],hb=>
  match L,h.1 with
  |[l,k],_=>
   have h0:lay x p y q s l:=h.2 0 (show 0<_ from Nat.zero_lt_succ _);have h1:lay x p y q t k:=h.2 1 (show 1<2 from by decide);simp only[nsI,zbu,zhi] at hb;obtain⟨⟨⟨⟨⟨⟨b1,Z⟩,U⟩,O⟩,M⟩,J⟩,H⟩:=hb;have C:0<yW (arZ l 0 1):=by rw[zDD hp hq h0];exact iI.2 M
   have D:yW (arZ k 0 1)<0:=by rw[zDD hp hq h1];exact zO8.2 J
   refine⟨zU6 (zI3 hp hq h0 b1) (zI3 hp hq h1 Z) (by rw[h0.1,h1.1];exact U) (zZH hp hq h0 h1 O) C (zVX hp hq h0 h1 H),?_,λz hz=>?_⟩
   · have G:y6 [l,k] 1=1:=zau C
     show y6 [l,k] 2=1
     unfold y6;rw[zae (show ¬0<yW (arZ (gl [l,k] 1) 0 1) fromλe=>by have:0<yW (arZ k 0 1):=e;omega),G]
   · rcases zfi.1 hz with rfl|hz
     · exact zGP C
     · rw[zne.1 hz]
       refine zB1 λe=>?_;have:arZ k 0 1=0:=e;rw[this,show yW 0=0 from zau I] at D;omega
end
end Bk
