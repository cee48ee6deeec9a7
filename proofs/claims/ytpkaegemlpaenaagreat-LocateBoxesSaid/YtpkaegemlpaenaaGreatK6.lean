/- Texts that the proof needs, part 6. -/
import Derived.Test.YtpkaegemlpaenaaGreatK5
namespace Go.Proofs.YtpkaegemlpaenaaGreat
open Bk Go Tryz
set_option linter.unusedVariables false
set_option linter.unusedSimpArgs false
set_option maxRecDepth 10000
set_option maxHeartbeats 1000000
attribute [local irreducible] GL GC GQ W OpV
theorem zEA{w0:World}{h0:Mem}(hs:MLe h0 (mem w0)){m n k j:Nat}{vmd:Value}{md:((List (Pq×((List (List Tq))×(Int×Int))))×(List (List Tq)))}(rmd:(rpP (rpS (rpP (tPl m n) (rpP (tLL k) (rpP rpI rpI)))) (rpS (rpA 2 (tPt k)))).Is h0 vmd md){vp:Value}{p:Tq}(rp:(tPt j).Is h0 vp p)(hcd0:k≤10000)(hcd1:j≤10000)(hcd2:zO7 md)(hcd3:rY md p≤3*md.2.length+1)(hcd4:clM md p (vK ↑(rY md p))):
 Calls Tryz.prog 74 #[vmd,vp] w0 (Ret w0 h0 (fun h r=>(tPt 2).Is h r (vK ↑(rY md p)))):=by
 have fa:=hcd2.2.1;refine cb2 75 vmd vp func74 hs ?_;refine go2 ?_;refine nB rmd fun b2 bd ca=>(nB rp fun b3 bc bg=>(nA (ρ:=(tPt 2)) (X:=zT) yX (wB (yN dC)) fun b4 bb bz=>(go2 ?_)));refine zTB (go9 ?_);refine lX (xB yBY (Pc.snd pH) ca) fun bv da=>(go5 ?_);refine xH 153 19 ?_;have bf:=RL.nil (ρ:=rpP (tPt (4*j+4*k+15)) (rpP (tPt (2*k+4)) rpB)) (h:=h0);refine gcL (ι:=Nat×List Ac×Value×List Value×Mem) (fun(q,D,C,H,ma)=>(MLe h0 ma∧(RL (rpP (tPt (4*j+4*k+15)) (rpP (tPt (2*k+4)) rpB)) ma H D∧q≤md.2.length∧D=acT p md.2 q),[(3,vP b3 0),(4,vP b4 0),(5,C),(14,bv),(15,vI (↑(md.2).length:Int)),(16,vI ↑q)],[.gs 153 19 C D.length H,.var b4 31 bb,.var b3 31 bc,.var b2 99 bd],ma,md.2.length-q)) (0,[],(.slice none 0 0),[],h0) ?_ ?_
 · exact⟨mle,bf,by omega,rfl⟩
 rintro⟨q,D,C,H,ma⟩ ⟨dr,O,ez,hD⟩
 refine yW ?_;have fd:D.length=q:=by rw[hD];exact xL _ _
 refine gc6 (fun bo=>?_) fun bo=>?_
 ·
  refine go6 ?_;refine lX (xI (List.replicate 2 zT) q underlying97 zXG da) fun ew cz=>(lX (xA zXG cz) fun ev cy=>(nA (ρ:=(rpA 2 (tPt (k+1)))) (X:=(List.replicate 2 zT)) w7 (zHB 2 (wB (yN oM))) fun b7 fe bx=>(yE (A:=[]) (uB sizeOf151 pH bx (cy.le (Le.a (Le.t (Le.q (l:=k+1) oM))))) fun dv J=>(go3 ?_))));refine zL 11 _ [(10,(8,153,[.bool false,.slice none 0 0,.slice none 0 0,.bool false,.slice none 0 0,.slice none 0 0,.bool false,.slice none 0 0,.slice none 0 0,.bool false,.slice none 0 0,.slice none 0 0,.bool false,.slice none 0 0,.slice none 0 0,.bool false,.slice none 0 0,.slice none 0 0,.bool false]))] [(0,.q),(1,.q),(2,.q),(4,.q),(5,.q),(6,.q),(3,.c),(7,.c),(8,.c),(9,.q),(10,.a),(11,.t)] yA (kW.cons rfl rfl (jK aN rfl rfl) kW.nil) (wI (by kernel_rfl)) (jM rfl rfl sQ) (fun r hr=>hr) (go1 ?_);refine wX rfl (xB zN (Pc.arr pH zT 0 dC) J) fun eu cw=>(wX rfl (xB zN pH bg) fun es cu=>(go1 ?_));refine wX rfl (xB zN (Pc.arr pH zT 1 dC) J) fun ep ct=>(wX rfl (xB zN pH bg) fun eo cq=>?_);refine w_c rfl (sC (ev2 rfl rfl) call115 (fun w hs=>zGI hs cw cu oM) fun er h1 di ay=>?_);replace ay:=Rp.Is.le ay (Le.t (Le.q (l:=j+k+3) oM));refine w_c rfl (sC (ev2 rfl rfl) call115 (fun w hs=>zGI hs ct.up cq.up oM) fun en h2 dh ax=>?_);replace ax:=Rp.Is.le ax (Le.t (Le.q (l:=j+k+3) oM));refine w_c rfl (sC (ev2 rfl rfl) call114 (fun w hs=>zE0 hs ay.up ax oM) fun em h3 df aw=>?_);replace aw:=Rp.Is.le aw (Le.t (Le.q (l:=4*j+4*k+15) oM));refine wX rfl (xV (ρ:=(rpP (tPt (4*j+4*k+15)) (rpP (tPt 1) rpB))) (wG (ps':=[(0,_)]) underlying153 aN rfl rfl (zOH underlying153) e2z rfl (yI (wB (yN oM)) (yI (wB (yN dC)) zNT)) (zH rfl (Pc.fst (Pc.here _)) aw zW))) fun el cp=>?_;refine w_a rfl rfl (fun b8=>?_);have bw:(rpP (tPt 1) (rpP (tPt 1) rpB)).R h3 [.bool false,.slice none 0 0,.slice none 0 0,.bool false,.slice none 0 0,.slice none 0 0,.bool false,.slice none 0 0,.slice none 0 0,.bool false,.slice none 0 0,.slice none 0 0,.bool false,.slice none 0 0,.slice none 0 0,.bool false,.slice none 0 0,.slice none 0 0,.bool false] (zT,(zT,False)):=(yI (wB (yN dC)) (yI (wB (yN dC)) zNT));have be:=(Le.p (Le.t (Le.q (l:=4*j+4*k+15) oM)) (Le.refl _)).R bw;refine yO (A:=[]) rfl (uB sizeOf153 pH be cp) fun du ae=>(go6 ?_);refine lX (xB zN (Pc.fst pH) ae) fun ek co=>(cL (ev1 rfl) call78 (fun w hs=>zIB hs co oM) fun bu h4 de cn=>?_);obtain rfl:bu=vB ((wH (T3.mk (((md.2.getD q (List.replicate 2 zT)).getD 0 zT).x-p.x) (((md.2.getD q (List.replicate 2 zT)).getD 0 zT).y-p.y) (((md.2.getD q (List.replicate 2 zT)).getD 0 zT).z-p.z)) (T3.mk (((md.2.getD q (List.replicate 2 zT)).getD 1 zT).x-p.x) (((md.2.getD q (List.replicate 2 zT)).getD 1 zT).y-p.y) (((md.2.getD q (List.replicate 2 zT)).getD 1 zT).z-p.z)))=zT):=cn;refine go1 ?_;refine yE (A:=[]) (uB sizeOf4 (Pc.snd (Pc.snd pH)) ae (yC6 _)) fun dm I=>(go5 ?_);refine lX (xB ty4 (Pc.snd (Pc.snd pH)) I) fun ej cm=>?_;obtain rfl:=zZW cm;refine gc2 (fun ab=>?_) fun ab=>?_
  ·
   refine go2 ?_;refine lX (xB zN (Pc.arr pH zT 1 dC) J) fun ei cl=>(go1 ?_);refine lX (xB zN (Pc.arr pH zT 0 dC) J) fun eh ck=>(cL (ev2 rfl rfl) call115 (fun w hs=>zGI hs cl ck oM) fun eg h5 dd av=>?_);replace av:=Rp.Is.le av (Le.t (Le.q (l:=2*k+4) oM));refine go1 ?_;have ak:=(Le.p (Le.refl _) (Le.p (Le.t (Le.q (l:=2*k+4) oM)) (Le.refl _))).R I;refine yE (A:=[]) (uB sizeOf31 (Pc.snd (Pc.fst pH)) ak av) fun dl ar=>(go4 ?_);refine lX (xB zME pH ar) fun bt au=>(zI (zU (ρ:=(rpP (tPt (4*j+4*k+15)) (rpP (tPt (2*k+4)) rpB))) (m:=1) (xs:=[(wH (T3.mk (((md.2.getD q (List.replicate 2 zT)).getD 0 zT).x-p.x) (((md.2.getD q (List.replicate 2 zT)).getD 0 zT).y-p.y) (((md.2.getD q (List.replicate 2 zT)).getD 0 zT).z-p.z)) (T3.mk (((md.2.getD q (List.replicate 2 zT)).getD 1 zT).x-p.x) (((md.2.getD q (List.replicate 2 zT)).getD 1 zT).y-p.y) (((md.2.getD q (List.replicate 2 zT)).getD 1 zT).z-p.z)),((T3.mk (((md.2.getD q (List.replicate 2 zT)).getD 1 zT).x-((md.2.getD q (List.replicate 2 zT)).getD 0 zT).x) (((md.2.getD q (List.replicate 2 zT)).getD 1 zT).y-((md.2.getD q (List.replicate 2 zT)).getD 0 zT).y) (((md.2.getD q (List.replicate 2 zT)).getD 1 zT).z-((md.2.getD q (List.replicate 2 zT)).getD 0 zT).z)),(wH (T3.mk (((md.2.getD q (List.replicate 2 zT)).getD 0 zT).x-p.x) (((md.2.getD q (List.replicate 2 zT)).getD 0 zT).y-p.y) (((md.2.getD q (List.replicate 2 zT)).getD 0 zT).z-p.z)) (T3.mk (((md.2.getD q (List.replicate 2 zT)).getD 1 zT).x-p.x) (((md.2.getD q (List.replicate 2 zT)).getD 1 zT).y-p.y) (((md.2.getD q (List.replicate 2 zT)).getD 1 zT).z-p.z)))=zT))]) (ps':=[(0,_)]) underlying150 aN rfl rfl rfl (yI (wB (yN oM)) (yI (wB (yN oM)) zNT)) e2z (zH rfl (Pc.arr (Pc.here _) (zT,(zT,False)) 0 dC) au zW) (show 1*19≤16777216 from by decide) nP) rfl rfl rfl ?_);intro bs dc bk;obtain⟨bp,rfl,Z⟩:=bk;refine zY (A:=[]) (ρ:=(rpP (tPt (4*j+4*k+15)) (rpP (tPt (2*k+4)) rpB))) Z ?_;intro h6 fc an;refine xK (A:=[_,_]) (zX (ρ:=(rpP (tPt (4*j+4*k+15)) (rpP (tPt (2*k+4)) rpB))) (bytes:=344) underlying150 aN rfl rfl rfl rfl nP rfl rfl O.up an bO bO) rfl rfl rfl ?_;intro ai db bj;obtain⟨ac,rfl,U⟩:=bj;refine go8 ?_;refine xM (A:=[]) (xM (A:=[]) ?_);refine gqL ((q+1),(D++[(wH (T3.mk (((md.2.getD q (List.replicate 2 zT)).getD 0 zT).x-p.x) (((md.2.getD q (List.replicate 2 zT)).getD 0 zT).y-p.y) (((md.2.getD q (List.replicate 2 zT)).getD 0 zT).z-p.z)) (T3.mk (((md.2.getD q (List.replicate 2 zT)).getD 1 zT).x-p.x) (((md.2.getD q (List.replicate 2 zT)).getD 1 zT).y-p.y) (((md.2.getD q (List.replicate 2 zT)).getD 1 zT).z-p.z)),((T3.mk (((md.2.getD q (List.replicate 2 zT)).getD 1 zT).x-((md.2.getD q (List.replicate 2 zT)).getD 0 zT).x) (((md.2.getD q (List.replicate 2 zT)).getD 1 zT).y-((md.2.getD q (List.replicate 2 zT)).getD 0 zT).y) (((md.2.getD q (List.replicate 2 zT)).getD 1 zT).z-((md.2.getD q (List.replicate 2 zT)).getD 0 zT).z)),(wH (T3.mk (((md.2.getD q (List.replicate 2 zT)).getD 0 zT).x-p.x) (((md.2.getD q (List.replicate 2 zT)).getD 0 zT).y-p.y) (((md.2.getD q (List.replicate 2 zT)).getD 0 zT).z-p.z)) (T3.mk (((md.2.getD q (List.replicate 2 zT)).getD 1 zT).x-p.x) (((md.2.getD q (List.replicate 2 zT)).getD 1 zT).y-p.y) (((md.2.getD q (List.replicate 2 zT)).getD 1 zT).z-p.z)))=zT))]),ai,ac,h6) ?_ ?_
   · exact⟨mle,U,by omega,ac_t hD ab⟩
   omega
  refine go4 ?_;refine lX (xB zME pH I) fun bt au=>(zI (zU (ρ:=(rpP (tPt (4*j+4*k+15)) (rpP (tPt 1) rpB))) (m:=1) (xs:=[(wH (T3.mk (((md.2.getD q (List.replicate 2 zT)).getD 0 zT).x-p.x) (((md.2.getD q (List.replicate 2 zT)).getD 0 zT).y-p.y) (((md.2.getD q (List.replicate 2 zT)).getD 0 zT).z-p.z)) (T3.mk (((md.2.getD q (List.replicate 2 zT)).getD 1 zT).x-p.x) (((md.2.getD q (List.replicate 2 zT)).getD 1 zT).y-p.y) (((md.2.getD q (List.replicate 2 zT)).getD 1 zT).z-p.z)),(zT,(wH (T3.mk (((md.2.getD q (List.replicate 2 zT)).getD 0 zT).x-p.x) (((md.2.getD q (List.replicate 2 zT)).getD 0 zT).y-p.y) (((md.2.getD q (List.replicate 2 zT)).getD 0 zT).z-p.z)) (T3.mk (((md.2.getD q (List.replicate 2 zT)).getD 1 zT).x-p.x) (((md.2.getD q (List.replicate 2 zT)).getD 1 zT).y-p.y) (((md.2.getD q (List.replicate 2 zT)).getD 1 zT).z-p.z)))=zT))]) (ps':=[(0,_)]) underlying150 aN rfl rfl rfl (yI (wB (yN oM)) (yI (wB (yN dC)) zNT)) e2z (zH rfl (Pc.arr (Pc.here _) (zT,(zT,False)) 0 dC) au zW) (show 1*19≤16777216 from by decide) nP) rfl rfl rfl ?_)
  rintro bs dc ⟨bp,rfl,Z⟩
  refine zY (A:=[]) (ρ:=(rpP (tPt (4*j+4*k+15)) (rpP (tPt 1) rpB))) Z ?_;intro h5 dd am;refine xK (A:=[_,_]) (zX (ρ:=(rpP (tPt (4*j+4*k+15)) (rpP (tPt (2*k+4)) rpB))) (bytes:=344) underlying150 aN rfl rfl rfl rfl nP rfl rfl O.up (am.le (Le.s (Le.p (Le.refl _) (Le.p (Le.t (Le.q (l:=2*k+4) oM)) (Le.refl _))))) bO bO) rfl rfl rfl ?_
  rintro ai db ⟨ac,rfl,U⟩
  refine go8 ?_;refine xM (A:=[]) (xM (A:=[]) ?_);refine gqL ((q+1),(D++[(wH (T3.mk (((md.2.getD q (List.replicate 2 zT)).getD 0 zT).x-p.x) (((md.2.getD q (List.replicate 2 zT)).getD 0 zT).y-p.y) (((md.2.getD q (List.replicate 2 zT)).getD 0 zT).z-p.z)) (T3.mk (((md.2.getD q (List.replicate 2 zT)).getD 1 zT).x-p.x) (((md.2.getD q (List.replicate 2 zT)).getD 1 zT).y-p.y) (((md.2.getD q (List.replicate 2 zT)).getD 1 zT).z-p.z)),(zT,(wH (T3.mk (((md.2.getD q (List.replicate 2 zT)).getD 0 zT).x-p.x) (((md.2.getD q (List.replicate 2 zT)).getD 0 zT).y-p.y) (((md.2.getD q (List.replicate 2 zT)).getD 0 zT).z-p.z)) (T3.mk (((md.2.getD q (List.replicate 2 zT)).getD 1 zT).x-p.x) (((md.2.getD q (List.replicate 2 zT)).getD 1 zT).y-p.y) (((md.2.getD q (List.replicate 2 zT)).getD 1 zT).z-p.z)))=zT))]),ai,ac,h5) ?_ ?_
  · exact⟨mle,U,by omega,ac_f hD ab⟩
  omega
 have eq:q=md.2.length:=by omega
 rw[eq] at hD;have dt:D.length=md.2.length:=by rw[hD];exact xL _ _
 refine go6 ?_;refine zTC (go8 ?_);refine gcL (ι:=Nat×Mem) (fun(G,mb)=>(MLe ma mb∧(G≤rY md p),[(4,vP b4 0),(5,C),(9,vI ↑G)],[.gs 153 19 C D.length H,.var b4 31 bb,.var b3 31 bc,.var b2 99 bd],mb,rY md p-G)) (0,ma) ?_ ?_
 · exact⟨mle,oM⟩
 rintro⟨G,mb⟩ ⟨dq,bm⟩
 refine yW ?_;have az:=bm;refine go5 ?_;refine gv (jU mh0 underlying150 rfl) rfl (gv (kO (p:=3) rfl rfl oM oM) rfl (gc4 (fun ah=>?_) fun ah=>?_))
 ·
  have fb:(0:Int)≤↑G*↑G∧(↑G:Int)*↑G≤36000012000001:=by have h9:G*G≤6000001*6000001:=Nat.mul_le_mul oM oM;rw[←Int.natCast_mul];omega
  refine go6 ?_;refine cL (vs:=[vI (1)]) ⟨rfl,trivial⟩ call116 (fun w hs=>s9 hs dC dC) fun ef h1 di cj=>(go1 ?_);refine cL (ev1 rfl) call116 (fun w hs=>s9 hs oM oM) fun ee h2 dh ci=>(go2 ?_);refine gv (kO rfl rfl oM oM) rfl (cL (ev1 rfl) call116 (fun w hs=>s9 hs oM oM) fun ed h3 df ch=>(lX (xV (ρ:=(tPt 2)) (xW (ps':=[(0,_),(1,_),(2,_)]) underlying31 yX rfl rfl sizeOf29 e6z rfl (wB (yN dC)) (zH rfl (Pc.tx (Pc.here _)) cj.up (zH rfl (Pc.ty (Pc.here _)) ci.up (zH rfl (Pc.tz (Pc.here _)) ch zW))))) fun ec cg=>(nA (ρ:=(tPt 2)) (X:=zT) yX (wB (yN dC)) fun bq dx bi=>(yE (A:=[]) (uB sizeOf31 pH bi cg) fun ba aa=>(go6 ?_)))));refine gv (jU mh1 underlying150 rfl) rfl (go4 ?_);refine gcL (ι:=Nat×Mem) (fun(u,mc)=>(MLe h3 mc∧(u≤D.length∧∀v,v<u→¬zDG (D.getD v (zT,(zT,False))) (vK ↑G)),[(4,vP b4 0),(5,C),(9,vI ↑G),(10,vP bq 0),(63,C),(64,vI (↑D.length:Int)),(65,vI ↑u)],[.var bq 31 ba,.gs 153 19 C D.length H,.var b4 31 bb,.var b3 31 bc,.var b2 99 bd],mc,D.length-u)) (0,h3) ?_ ?_
  · exact⟨mle,by omega,fun v h=>by omega⟩
  rintro⟨u,mc⟩ ⟨dp,ey,bl⟩
  refine yW ?_;refine gc6 (fun bn=>?_) fun bn=>?_
  ·
   refine go6 ?_;refine gv ((xD u mh1 underlying150 sizeOf153 rfl rfl rfl bO nP).cv (show _=zJ 1 C ((u*19+0)) from congrArg (zJ 1 C) (by rfl))) rfl (zGW (F:=fun v_=>(rpP (tPt (4*j+4*k+15)) (rpP (tPt (2*k+4)) rpB)).Is mc v_ (D.getD u (zT,(zT,False)))) (wL zME (Pc.arr (Pc.here _) (zT,(zT,False)) u bO) rfl nP rfl O.up rfl) (tW mh1) rfl ?_);intro eb cf;refine nA (ρ:=(rpP (tPt 1) (rpP (tPt 1) rpB))) (X:=(zT,(zT,False))) aN (yI (wB (yN dC)) (yI (wB (yN dC)) zNT)) fun ff dw bh=>?_;have aj:=(Le.p (Le.t (Le.q (l:=4*j+4*k+15) oM)) (Le.p (Le.t (Le.q (l:=2*k+4) oM)) (Le.refl _))).R bh;refine yE (A:=[]) (uB sizeOf153 pH aj cf) fun dk aq=>(go4 ?_);refine lX (xB zME pH aq) fun ea ce=>(lX (xB zN pH aa) fun dz cd=>(cL (ev2 rfl rfl) call117 (fun w hs=>zV1 hs ce cd oM oM dC) fun br h4 de cc=>?_));obtain rfl:br=vB (zDG (D.getD u (zT,(zT,False))) (T3.mk (((1:Int):Int):Rat) (((↑G:Int):Int):Rat) ((((↑G:Int)*(↑G:Int)):Int):Rat))):=cc;refine gc2 (fun M=>?_) fun M=>?_
   ·
    refine rM ?_;refine xM (A:=[]) (xM (A:=[]) ?_);refine gqL ((G+1),h4) ?_ ?_
    · exact⟨mle,zJE hD hcd4 az oM M⟩
    (have:=zJE hD hcd4 az oM M;omega)
   refine go7 ?_;refine xM (A:=[]) ?_;refine gqL ((u+1),h4) ?_ ?_
   · exact⟨mle,by omega,vG (Q:=fun v=>¬zDG (D.getD v (zT,(zT,False))) (vK ↑G)) bl M⟩
   omega
  refine go7 ?_;refine lX (xB zN pH aa) fun dy cb=>(yE (A:=[_,_]) (uB sizeOf31 pH bz cb) fun dj ap=>(go8 ?_));refine yDB (uR (tU (t:=4) zN mh2 rfl ap) ?_);intro dn ad ao;refine yS (fun E S=>yD rfl ad E S) ?_;exact(Rp.Is.cast ao (by rw[←zWW hD az (fun v hv=>bl v oM)];rfl))
 exact absurd oM ah
end Go.Proofs.YtpkaegemlpaenaaGreat
namespace Go.Proofs.YtpkaegemlpaenaaGreat
open Bk Go Tryz
set_option linter.unusedVariables false
set_option linter.unusedSimpArgs false
set_option maxRecDepth 10000
set_option maxHeartbeats 1000000
attribute [local irreducible] GL GC GQ W OpV
theorem zEB{w0:World}{h0:Mem}(hs:MLe h0 (mem w0)){m n k j l:Nat}{vmd:Value}{md:((List (Pq×((List (List Tq))×(Int×Int))))×(List (List Tq)))}(rmd:(rpP (rpS (rpP (tPl m n) (rpP (tLL k) (rpP rpI rpI)))) (rpS (rpA 2 (tPt k)))).Is h0 vmd md){vp:Value}{p:Tq}(rp:(tPt j).Is h0 vp p){vd:Value}{d:Tq}(rd:(tPt l).Is h0 vd d)(hcd0:k≤10000)(hcd1:j≤100)(hcd2:l≤100)(hcd3:m≤1000)(hcd4:n≤1000)(hcd5:zO7 md):
 Calls Tryz.prog 79 #[vmd,vp,vd] w0 (Ret w0 h0 (fun h r=>r=.tuple #[vI (crA md p d),vI (crB md p d),vB (nbM md p d)])):=by
 refine cb3 77 vmd vp vd func79 hs ?_;refine go2 ?_;refine nB rmd fun b3 cl bg=>(nB rp fun b4 ck au=>(nB rd fun b5 cj ar=>(rV ?_)));refine lX (xB zYM (Pc.fst pH) bg) fun bf ce=>(go5 ?_);refine gcL (ι:=Nat×Mem) (fun(f,ma)=>(MLe h0 ma∧(f≤md.1.length∧∀u,u<f→¬bdM (md.1.getD u fm0) p d),[(4,vP b4 0),(5,vP b5 0),(9,vI (crM md p d f).1),(10,vI (crM md p d f).2),(18,bf),(19,vI (↑(md.1).length:Int)),(20,vI ↑f)],[.var b5 31 cj,.var b4 31 ck,.var b3 99 cl],ma,md.1.length-f)) (0,h0) ?_ ?_
 · exact⟨mle,by omega,fun u h=>by omega⟩
 rintro⟨f,ma⟩ ⟨cm,ei,Z⟩
 refine yW ?_;have dx:=hcd5.1;have ej:=zAN md p d f;refine gc6 (fun az=>?_) fun az=>?_
 ·
  refine go6 ?_;refine lX (xI fm0 f underlying96 zBY ce) fun dv cd=>(lX (xA zBY cd) fun du cc=>(nA (ρ:=(rpP (tPl 1 1) (rpP (tLL 1) (rpP rpI rpI)))) (X:=((zT,(0:Rat)),([],((0:Int),(0:Int))))) mF (yI (yI (wB (yN dC)) (yN dC)) (yI uV (yI wD wD))) fun en cu ay=>?_));have aq:=(Le.p (Le.p (Le.t (Le.q (l:=m+1) oM)) (Le.q (l:=n+1) oM)) (Le.p (Le.s (Le.s (Le.t (Le.q (l:=k+1) oM)))) (Le.refl _))).R ay;refine yE (A:=[]) (uB sizeOf140 pH aq (cc.le (Le.p (Le.p (Le.t (Le.q (l:=m+1) oM)) (Le.q (l:=n+1) oM)) (Le.p (Le.s (Le.s (Le.t (Le.q (l:=k+1) oM)))) (Le.refl _))))) fun cq M=>(go3 ?_);refine zL 16 _ [(14,(13,29,[.bool false,.slice none 0 0,.slice none 0 0])),(15,(14,29,[.bool false,.slice none 0 0,.slice none 0 0]))] [(0,.q),(1,.q),(2,.q),(3,.q),(5,.q),(6,.q),(7,.q),(8,.q),(9,.q),(10,.q),(11,.q),(4,.c),(12,.c),(13,.c),(14,.a),(15,.a),(16,.t),(17,.t)] yA (kW.cons rfl rfl (jK xS rfl rfl) (kW.cons rfl rfl (jK xS rfl rfl) kW.nil)) (wI (by kernel_rfl)) (jM rfl rfl (jM rfl rfl sQ)) (fun r hr=>hr) (go2 ?_);refine wX rfl (xB zN (Pc.fst (Pc.fst pH)) M) fun dt cb=>(wX rfl (xB zN pH ar) fun dr ca=>(go2 ?_));refine wX rfl (xB yB (Pc.fst (Pc.snd pH)) M) fun dp bz=>(go2 ?_);refine wX rfl (xB zN (Pc.fst (Pc.fst pH)) M) fun dn bx=>(wX rfl (xB zN pH au) fun dm bw=>?_);refine w_c rfl (sC (ev2 rfl rfl) call120 (fun w hs=>zBL hs cb ca oM) fun dq h1 eh an=>?_);replace an:=Rp.Is.le an (Le.q (l:=3*l+3*m+12) oM);refine w_c rfl (sC (ev2 rfl rfl) call120 (fun w hs=>zBL hs bx.up bw.up oM) fun dl h2 eg am=>?_);replace am:=Rp.Is.le am (Le.q (l:=3*j+3*m+12) oM);refine w_c rfl (sC (ev2 rfl rfl) call121 (fun w hs=>gH hs bz.up am oM) fun dk h3 ee ak=>?_);replace ak:=Rp.Is.le ak (Le.q (l:=3*j+3*m+n+14) oM);refine w_a rfl rfl (fun em=>?_);have ax:(rpQ (3*m+3*l+9)).R h3 [.bool false,.slice none 0 0,.slice none 0 0] (0:Rat):=(yN oM);refine w_a rfl rfl (fun el=>?_);have aw:(rpQ (n+3*m+3*j+11)).R h3 [.bool false,.slice none 0 0,.slice none 0 0] (0:Rat):=(yN oM);have ap:=(Le.q (l:=3*l+3*m+12) oM).R ax;refine yO (A:=[_]) rfl (uB sizeOf29 pH ap an) fun cp aa=>?_;have ao:=(Le.q (l:=3*j+3*m+n+14) oM).R aw;refine yO (A:=[]) rfl (uB sizeOf29 pH ao ak) fun co ac=>(go4 ?_);refine zL 12 _ [] [(0,.q),(2,.q),(1,.c),(3,.c),(4,.q),(5,.q),(6,.q),(7,.q),(8,.q),(9,.q),(10,.q),(11,.q)] yA nX (wI (by kernel_rfl)) nX (fun r hr=>hr) (wX rfl (xB yB pH aa) fun dj bv=>(wX rfl (xB yB pH ac) fun di bt=>?_));refine w_c rfl (sC (ev1 rfl) call122 (fun w hs=>sZ hs bv oM) fun be h4 ed bu=>?_);obtain rfl:be=vI (xC (wO (((md.1.getD f fm0).1).1) d)):=bu;have ch:=yY (wO (((md.1.getD f fm0).1).1) d);refine w_c rfl (sC (ev1 rfl) call122 (fun w hs=>sZ hs bt.up oM) fun bd h5 ec bs=>?_);obtain rfl:bd=vI (xC ((((md.1.getD f fm0).1).2)-(wO (((md.1.getD f fm0).1).1) p))):=bs;have cg:=yY ((((md.1.getD f fm0).1).2)-(wO (((md.1.getD f fm0).1).1) p));have dw:=zZD (wO (md.1.getD f fm0).1.1 d) ((md.1.getD f fm0).1.2-wO (md.1.getD f fm0).1.1 p);refine xN rfl (fun _ _=>kO rfl rfl oM oM) rfl (go2 ?_);refine qW (((xC (wO (((md.1.getD f fm0).1).1) d))*(xC ((((md.1.getD f fm0).1).2)-(wO (((md.1.getD f fm0).1).1) p))))≤(0:Int)) (fun U=>?_) (fun U=>?_)
  ·
   rw[xE U];refine iX ?_;refine xM (A:=[]) (xM (A:=[]) (xM (A:=[]) ?_));have C:=zJH (md:=md) (p:=p) (d:=d) (f:=f) (.inl (by assumption));have J:¬bdM (md.1.getD f fm0) p d:=fun e=>e.1 (.inl (by assumption));refine gqL ((f+1),h5) ?_ ?_ (he:=⟨rfl,rfl,congrArg (fun z:Int=>some (vI z)) (by have G:=congrArg Prod.fst C.symm;exact G),congrArg (fun z:Int=>some (vI z)) (by have G:=congrArg Prod.snd C.symm;exact G),rfl,rfl,rfl,trivial⟩)
   · exact⟨mle,by omega,vG (Q:=fun u=>¬bdM (md.1.getD u fm0) p d) Z J⟩
   omega
  rw[yJ U];refine go1 ?_;refine oX rfl (xB zYN (Pc.snd (Pc.fst pH)) M) fun dh br=>(yM rfl rfl rfl (fun h' L' hh hR=>uP underlying76 rfl (br.mono hh)) rfl (gc4 (fun ad=>?_) fun ad=>?_))
  ·
   refine go8 ?_;refine xM (A:=[]) (xM (A:=[]) (xM (A:=[]) ?_));have C:=zJH (md:=md) (p:=p) (d:=d) (f:=f) (.inr oM);have J:¬bdM (md.1.getD f fm0) p d:=fun e=>e.1 (.inr oM);refine gqL ((f+1),h5) ?_ ?_ (he:=⟨rfl,rfl,congrArg (fun z:Int=>some (vI z)) (by have G:=congrArg Prod.fst C.symm;exact G),congrArg (fun z:Int=>some (vI z)) (by have G:=congrArg Prod.snd C.symm;exact G),rfl,rfl,rfl,trivial⟩)
   · exact⟨mle,by omega,vG (Q:=fun u=>¬bdM (md.1.getD u fm0) p d) Z J⟩
   omega
  have O:¬skM (md.1.getD f fm0) p d:=fun e=>e.elim (by assumption) (fun e=>ad oM);refine go4 ?_;refine lX (xB yB pH ac) fun df bq=>(lX (xB yB pH aa) fun de bp=>(cL (ev2 rfl rfl) call123 (fun w hs=>zOQ hs bq bp oM) fun dd h6 eb bo=>?_));obtain⟨ae,rfl,I⟩:=bo
  change (rpQ ((3*j+3*m+n+14)+(3*l+3*m+12))).Is h6 ae (if(wO (((md.1.getD f fm0).1).1) d)=0 then 0 else((((md.1.getD f fm0).1).2)-(wO (((md.1.getD f fm0).1).1) p))/(wO (((md.1.getD f fm0).1).1) d)) at I
  replace I:=Rp.Is.le I (Le.q (l:=3*j+3*l+6*m+n+26) oM);refine go3 ?_;refine nA (ρ:=(rpQ (n+6*m+3*j+3*l+30))) (X:=(0:Rat)) xS (yN oM) fun ek ct av=>(yE (A:=[]) (uB sizeOf29 pH av (I.le (Le.q (l:=n+6*m+3*j+3*l+30) oM))) fun ci ah=>(go4 ?_));refine zL 7 _ [] [(0,.q),(1,.q),(2,.q),(3,.q),(4,.c),(5,.c),(6,.c)] yA nX (by kernel_rfl) nX (fun r hr=>hr) (wX rfl (xB zBY pH M) fun dc bn=>(wX rfl (xB zN pH au) fun db bm=>(wX rfl (xB yB pH ah) fun da bl=>(wX rfl (xB zN pH ar) fun cz bk=>?_))));refine w_c rfl (sC (ev2 rfl rfl) call125 (fun w hs=>zOP hs bl bk oM) fun cy h7 ea aj=>?_);replace aj:=Rp.Is.le aj (Le.t (Le.q (l:=3*j+4*l+6*m+n+32) oM));refine w_c rfl (sC (ev2 rfl rfl) call124 (fun w hs=>zVZ hs bm.up aj oM) fun cw h8 dz ai=>?_);replace ai:=Rp.Is.le ai (Le.t (Le.q (l:=4*j+4*l+6*m+n+34) oM));refine w_c rfl (sC (ev2 rfl rfl) call109 (fun w hs=>zE8 hs bn.up ai oM oM (by first|omega|exact hcd5.2.2 f oM)) fun bc G dy bj=>?_);obtain rfl:bc=vI (whM (md.1.getD f fm0) (T3.mk (p.x+((if(wO (((md.1.getD f fm0).1).1) d)=0 then 0 else((((md.1.getD f fm0).1).2)-(wO (((md.1.getD f fm0).1).1) p))/(wO (((md.1.getD f fm0).1).1) d))*d.x)) (p.y+((if(wO (((md.1.getD f fm0).1).1) d)=0 then 0 else((((md.1.getD f fm0).1).2)-(wO (((md.1.getD f fm0).1).1) p))/(wO (((md.1.getD f fm0).1).1) d))*d.y)) (p.z+((if(wO (((md.1.getD f fm0).1).1) d)=0 then 0 else((((md.1.getD f fm0).1).2)-(wO (((md.1.getD f fm0).1).1) p))/(wO (((md.1.getD f fm0).1).1) d))*d.z)))):=bj;refine gc9 (fun D=>?_) fun D=>?_
  ·
   rw[zL8 O] at D;obtain⟨e1,e2,e3⟩:=zW4 (md:=md) (p:=p) (d:=d) (f:=f) oM ⟨O,D⟩;refine tG ?_;refine uY rfl rfl rfl rfl ?_;rw[e1,e2,yJ e3]
  rw[zL8 O] at D;refine gc6 (fun H=>?_) fun H=>?_
  ·
   rw[zL8 O] at H;refine go2 ?_;refine lX (xB yB pH aa) fun cv bi=>(cL (ev1 rfl) call122 (fun w hs=>sZ hs bi oM) fun bb ba cn bh=>?_);obtain rfl:bb=vI (xC (wO (((md.1.getD f fm0).1).1) d)):=bh;have cf:=yY (wO (((md.1.getD f fm0).1).1) d);refine gc3 (fun ab=>?_) fun ab=>?_
   ·
    refine uQ ?_;refine xM (A:=[]) (xM (A:=[]) (xM (A:=[]) (xM (A:=[]) ?_)));have C:=zW3 O H (zMJ.1 ab);have J:¬bdM (md.1.getD f fm0) p d:=fun e=>D e.2;refine gqL ((f+1),ba) ?_ ?_ (he:=⟨rfl,rfl,congrArg (fun z:Int=>some (vI z)) (by have G:=congrArg Prod.fst C.symm;exact G),congrArg (fun z:Int=>some (vI z)) (by have G:=congrArg Prod.snd C.symm;exact G),rfl,rfl,rfl,trivial⟩)
    · exact⟨mle,by omega,vG (Q:=fun u=>¬bdM (md.1.getD u fm0) p d) Z J⟩
    omega
   refine uQ ?_;refine xM (A:=[]) (xM (A:=[]) (xM (A:=[]) (xM (A:=[]) ?_)));have C:=yA5 O H (fun e=>ab (zMJ.2 e));have J:¬bdM (md.1.getD f fm0) p d:=fun e=>D e.2;refine gqL ((f+1),ba) ?_ ?_ (he:=⟨rfl,rfl,congrArg (fun z:Int=>some (vI z)) (by have G:=congrArg Prod.fst C.symm;exact G),congrArg (fun z:Int=>some (vI z)) (by have G:=congrArg Prod.snd C.symm;exact G),rfl,rfl,rfl,trivial⟩)
   · exact⟨mle,by omega,vG (Q:=fun u=>¬bdM (md.1.getD u fm0) p d) Z J⟩
   omega
  rw[zL8 O] at H;refine go8 ?_;refine xM (A:=[]) (xM (A:=[]) (xM (A:=[]) (xM (A:=[]) ?_)));have C:=yA4 O H;have J:¬bdM (md.1.getD f fm0) p d:=fun e=>D e.2;refine gqL ((f+1),G) ?_ ?_ (he:=⟨rfl,rfl,congrArg (fun z:Int=>some (vI z)) (by have G:=congrArg Prod.fst C.symm;exact G),congrArg (fun z:Int=>some (vI z)) (by have G:=congrArg Prod.snd C.symm;exact G),rfl,rfl,rfl,trivial⟩)
  · exact⟨mle,by omega,vG (Q:=fun u=>¬bdM (md.1.getD u fm0) p d) Z J⟩
  omega
 have ef:f=md.1.length:=by omega
 obtain⟨e1,e2,e3⟩:=yA6 (md:=md) (p:=p) (d:=d) (fun u hu=>Z u oM);refine rV ?_;refine uY rfl rfl rfl rfl ?_;rw[e1,e2,ef,xE e3]
end Go.Proofs.YtpkaegemlpaenaaGreat
namespace Go.Proofs.YtpkaegemlpaenaaGreat
open Bk Go Tryz
set_option linter.unusedVariables false
set_option linter.unusedSimpArgs false
set_option maxRecDepth 10000
set_option maxHeartbeats 1000000
attribute [local irreducible] GL GC GQ W OpV
theorem zK1{w0:World}{h0:Mem}(hs:MLe h0 (mem w0)){m n k j:Nat}{vmd:Value}{md:((List (Pq×((List (List Tq))×(Int×Int))))×(List (List Tq)))}(rmd:(rpP (rpS (rpP (tPl m n) (rpP (tLL k) (rpP rpI rpI)))) (rpS (rpA 2 (tPt k)))).Is h0 vmd md){vp:Value}{p:Tq}(rp:(tPt j).Is h0 vp p)(hcd0:k≤10000)(hcd1:j≤100)(hcd2:m≤1000)(hcd3:n≤1000)(hcd4:zO7 md)(hcd5:rY md p≤3*md.2.length+1)(hcd6:clM md p (vK ↑(rY md p))):
 Calls Tryz.prog 113 #[vmd,vp] w0 (Ret w0 h0 (fun _ r=>r=vI (crA md p (vK ↑(rY md p))-crB md p (vK ↑(rY md p))))):=by
 have ae:=zFN md p (vK ↑(rY md p));have ab:=hcd4.1;refine cb2 21 vmd vp func113 hs ?_;refine go2 ?_;refine nB rmd fun b2 ai C=>(nB rp fun b3 ah z=>(go4 ?_));refine zL 13 _ [] [(0,.q),(1,.q),(2,.q),(3,.q),(4,.c),(5,.c),(6,.q),(7,.q),(8,.q),(9,.q),(10,.q),(11,.q),(12,.q)] yA nX (wI (by kernel_rfl)) nX (fun r hr=>hr) (wX rfl (xB zNW pH C) fun v9 r9=>(wX rfl (xB zN pH z) fun aa J=>(wX rfl (xB zNW pH C) fun Z I=>(wX rfl (xB zN pH z) fun U H=>?_))));refine w_c rfl (sC (ev2 rfl rfl) call74 (fun w hs=>zEA hs I H oM oM (by first|omega|exact hcd4|exact hcd5|exact hcd6) (by first|omega|exact hcd4|exact hcd5|exact hcd6) (by first|omega|exact hcd4|exact hcd5|exact hcd6)) fun O h1 ad G=>?_);refine w_c rfl (sC (ev3 rfl rfl rfl) call79 (fun w hs=>zEB hs r9.up J.up G oM oM dC oM oM (by first|omega|exact hcd4)) fun M h2 ac D=>?_);obtain rfl:=D;refine zWL ?_;refine zC rfl rfl ?_
 rfl
theorem zIN{w0:World}{h0:Mem}(hs:MLe h0 (mem w0)){m n k j:Nat}{vmd:Value}{md:((List (Pq×((List (List Tq))×(Int×Int))))×(List (List Tq)))}(rmd:(rpP (rpS (rpP (tPl m n) (rpP (tLL k) (rpP rpI rpI)))) (rpS (rpA 2 (tPt k)))).Is h0 vmd md){vp:Value}{p:Tq}(rp:(tPt j).Is h0 vp p)(hcd0:k≤10000)(hcd1:j≤100)(hcd2:m≤1000)(hcd3:n≤1000)(hcd4:zO7 md)(hcd5:rY md p≤3*md.2.length+1)(hcd6:clM md p (vK ↑(rY md p))):
 Calls Tryz.prog 72 #[vmd,vp] w0 (Ret w0 h0 (fun h r=>r=.tuple #[vI (wdM md p),vB (¬onA md p)])):=by
 refine cb2 18 vmd vp func72 hs ?_;refine go2 ?_;refine nB rmd fun b2 aj G=>(nB rp fun b3 ai D=>(go7 ?_));refine lX (xB zNW pH G) fun v9 r9=>(lX (xB zN pH D) fun ad U=>(cL (ev2 rfl rfl) call70 (fun w hs=>zZY hs r9 U oM oM oM oM (by first|omega|exact hcd4)) fun ac h1 ah O=>?_));obtain rfl:=O;refine zG1 (fun C=>?_) fun C=>?_
 ·
  have z:onA md p:=C;refine go8 ?_;refine xY rfl rfl rfl ?_;rw[yJ (fun e=>e z),show wdM md p=0 from if_pos z]
 have z:¬onA md p:=C;refine go4 ?_;refine lX (xB zNW pH G) fun ab M=>(lX (xB zN pH D) fun aa J=>(cL (ev2 rfl rfl) call113 (fun w hs=>zK1 hs M J oM oM oM oM (by first|omega|exact hcd4|exact hcd5|exact hcd6) (by first|omega|exact hcd4|exact hcd5|exact hcd6) (by first|omega|exact hcd4|exact hcd5|exact hcd6)) fun H h2 ae I=>?_));obtain rfl:H=vI (crA md p (vK ↑(rY md p))-crB md p (vK ↑(rY md p))):=I;have Z:=zFN md p (vK ↑(rY md p));refine go5 ?_;refine xY rfl rfl rfl ?_;rw[xE z,show wdM md p=_ from if_neg z]
end Go.Proofs.YtpkaegemlpaenaaGreat
namespace Go.Proofs.YtpkaegemlpaenaaGreat
open Bk Go Tryz
set_option linter.unusedVariables false
set_option linter.unusedSimpArgs false
set_option maxRecDepth 10000
set_option maxHeartbeats 1000000
attribute [local irreducible] GL GC GQ W OpV
theorem yCZ:MapTy Tryz.prog 138 118 4 3:=⟨underlying138,underlying118,underlying3,sizeOf3,isAgg3,zP0 zS3 rfl⟩
theorem zV2{w0 w:World}{h0 h:Mem}{k m n j:Nat}{vs:Value}{s:Sd}(rs:(tSd k m n j).Is h vs s){vl:Value}{l:List Int}(rl:(rpS rpI).Is h vl l){b bm ck:Nat}{cs ces:List Value}{vf ve:Value}{EE:List (List Pt)}{es:Array MapEntry}{T:List PIr}(rb:(rpP rpV rpV).R h cs (vf,ve))(ho0:ve.oneCell'=true)(re:RL (rpA 2 (tPt (k+1))) h ces EE)(hm0:aF es T)(hEE:EE=T.map (edP s.1))(hcd0:∀u,u<l.length→0≤l.getD u 0∧l.getD u 0<s.1.length)(hcd1:l.length≤10000∧T.length≤10000000∧s.1.length≤100000)(hcd2:k≤1000000){L:List Res}(hs:St w0 h0 (.var b 99 cs::.gs 151 18 ve EE.length ces::.blk bm (.map es ck)::L) h w):
 Calls Tryz.prog 107 #[vP b 0,vs,vl,.map (some bm)] w (tK w0 h0 (fun g v K=>∃Qs',(Qs'++L).Sublist K∧MLe h g∧∃cs' ve' ces' es' ck',Qs'=[.var b 99 cs',.gs 151 18 ve' ((sxE s.1 l T l.length).map (edP s.1)).length ces',.blk bm (.map es' ck')]∧(rpP rpV rpV).R g cs' (vf,ve')∧ve'.oneCell'=true∧RL (rpA 2 (tPt (k+1))) g ces' ((sxE s.1 l T l.length).map (edP s.1))∧aF es' (sxE s.1 l T l.length))):=by
 refine tJ (n:=77) (e:=[(0,vP b 0),(1,vs),(2,vl),(3,.map (some bm))]) (vs:=[vP b 0,vs,vl,.map (some bm)]) func107 rfl rfl (bL rfl) hs e4z (go2 ?_);refine nB rs fun b5 bz ac=>(uA ?_);refine gcL (ι:=Nat×List (List Pt)×List PIr×List Value×Value×List Value×Array MapEntry×Nat×Mem) (fun(u,E2,T2,J,z,I,H,M,ma)=>(MLe h ma∧((rpP rpV rpV).R ma J (vf,z)∧RL (rpA 2 (tPt (k+1))) ma I E2∧z.oneCell'=true∧aF H T2∧u≤l.length∧T2=sxE s.1 l T u∧E2=T2.map (edP s.1)),[(0,vP b 0),(2,vl),(3,.map (some bm)),(5,vP b5 0),(12,vl),(13,vI (↑(l).length:Int)),(14,vI ↑u)],(.var b5 39 bz::.var b 99 J::.gs 151 18 z E2.length I::.blk bm (.map H M)::L),ma,l.length-u)) (0,EE,T,cs,ve,ces,es,ck,h) ?_ ?_
 · exact⟨mle,rb,re,ho0,hm0,by omega,rfl,hEE⟩
 rintro⟨u,E2,T2,J,z,I,H,M,ma⟩ ⟨ap,D,U,Z,G,dr,aa,ab⟩
 refine yW ?_;have bw:=zFZ s.1 l T u;rw[←aa] at bw;have dv:E2.length=T2.length:=by rw[ab];exact List.length_map _
 refine gc6 (fun ar=>?_) fun ar=>?_
 ·
  have du:=hcd0 u oM;have dt:=hcd0 ((u+1)%l.length) (Nat.mod_lt _ oM);refine go7 ?_;refine lX (xI (0:Int) u underlying22 ty3 rl) fun dn bv=>(lX (xA ty3 bv) fun dm bu=>?_);obtain⟨rfl,ch,cd⟩:=jZ bu;refine qA ?_;refine gv (wJ rfl rfl oM oM) rfl (lX (xI (0:Int) ((u+1)%l.length) underlying22 ty3 rl (hi:=by exact Nat.mod_lt _ oM)) fun dl bt=>(lX (xA ty3 bt) fun dk bs=>?_));obtain⟨rfl,cg,cc⟩:=jZ bs;refine go7 ?_;refine gv (zRP rfl rfl) rfl (go2 ?_);refine gv (zH6 rfl rfl) rfl (lX (xV (ρ:=(rpA 2 rpI)) (xW (ps':=[(0,_),(1,_)]) underlying118 eQ rfl rfl sizeOf3 e4z rfl (zHB 2 wD) (zH rfl (Pc.arr (Pc.here _) (0:Int) 0 dC) (jD oM oM) (zH rfl (Pc.arr (Pc.here _) (0:Int) 1 dC) (jD oM oM) zW)))) fun dj br=>(nA (ρ:=(rpA 2 rpI)) (X:=(List.replicate 2 (0:Int))) eQ (zHB 2 wD) fun dy cj ao=>(yE (A:=[]) (uB sizeOf118 pH ao br) fun bx C=>(go3 ?_))));refine zL 18 _ [] [(0,.q),(1,.q),(2,.q),(3,.q),(4,.q),(5,.q),(6,.q),(7,.q),(8,.q),(9,.q),(10,.q),(11,.q),(12,.q),(13,.q),(14,.q),(15,.c),(16,.q),(17,.q)] yA nX (wI (by kernel_rfl)) nX (fun r hr=>hr) (go1 ?_);refine wX rfl (xB zXH pH C) fun di bq=>(w_q rfl (fun h' L' hh hR=>zCM (u:=((min (l.getD u (0:Int)) (l.getD ((u+1)%l.length) (0:Int))),(max (l.getD u (0:Int)) (l.getD ((u+1)%l.length) (0:Int))))) yCZ (hR _ mh4) rfl (evk rfl (zSU (bq.mono hh))) G) rfl (go2 ?_));refine qW (¬(((min (l.getD u (0:Int)) (l.getD ((u+1)%l.length) (0:Int))),(max (l.getD u (0:Int)) (l.getD ((u+1)%l.length) (0:Int))))∈T2)) (fun O=>?_) (fun O=>?_)
  ·
   rw[xE O];refine go1 ?_;refine oX rfl (xB uJ (Pc.fst pH) ac) fun dh bp=>(yM rfl rfl rfl (fun h' L' hh hR=>yQ rfl) rfl (oX rfl (xI zT ((l.getD u (0:Int)).toNat) underlying35 zN bp) fun df bo=>(oX rfl (xA zN bo) fun de bn=>(go1 ?_))));refine oX rfl (xB uJ (Pc.fst pH) ac) fun dd bl=>(yM rfl rfl rfl (fun h' L' hh hR=>yQ rfl) rfl (oX rfl (xI zT ((l.getD ((u+1)%l.length) (0:Int)).toNat) underlying35 zN bl) fun dc bk=>(oX rfl (xA zN bk) fun db bj=>?_)));refine w_c rfl (t7 rfl rfl (sC (ev2 rfl rfl) call119 (fun w hs=>zIC hs bn bj oM) fun aw h1 dx bi=>?_));obtain rfl:aw=vB ((s.1.getD ((l.getD u (0:Int)).toNat) zT)=(s.1.getD ((l.getD ((u+1)%l.length) (0:Int)).toNat) zT)):=bi;refine gc4 (fun aq=>?_) fun aq=>?_
   ·
    refine go3 ?_;refine lX (xB zXH pH C) fun da bh=>(zPI (A:=[_,_,_,_]) (u:=((min (l.getD u (0:Int)) (l.getD ((u+1)%l.length) (0:Int))),(max (l.getD u (0:Int)) (l.getD ((u+1)%l.length) (0:Int))))) yCZ rfl (evk rfl (zSU bh)) rfl G (by assumption) ?_);intro aj ai;refine go2 ?_;refine qT (A:=[_,_,_]) 22 [] [(0,.q),(1,.q),(2,.q),(3,.q),(4,.q),(5,.q),(6,.q),(7,.q),(8,.q),(9,.q),(10,.q),(11,.q),(12,.q),(13,.q),(14,.q),(15,.q),(16,.q),(17,.q),(18,.c),(19,.c),(20,.q),(21,.q),(22,.t)] yA nX (wI (by kernel_rfl)) nX (go2 ?_);refine xN rfl (fun _ _=>kM rfl) rfl (xN rfl (fun _ _=>(xJ underlying99 rfl sizeOf97 rfl).cv (show _=vP b 1 from congrArg (vP b) (by rfl))) rfl (wX rfl (bM (xB yBY (Pc.snd pH) D)) fun cz bg=>?_));subst bg;refine go1 ?_;refine wX rfl (xB uJ (Pc.fst pH) ac) fun cy bf=>(go1 ?_);refine wX rfl (xB ty3 (Pc.arr pH (0:Int) 0 dC) C) fun cw be=>?_;obtain⟨rfl,cf,cb⟩:=jZ be;refine mS (F:=fun v_=>AtP (tPt k) h1 v_ (s.1.getD ((min (l.getD u (0:Int)) (l.getD ((u+1)%l.length) (0:Int))).toNat) zT)) rfl (bN zT ((min (l.getD u (0:Int)) (l.getD ((u+1)%l.length) (0:Int))).toNat) underlying35 zN rfl rfl bf (by(show(min (l.getD u (0:Int)) (l.getD ((u+1)%l.length) (0:Int)))=_;omega)) oM nP) zC6 rfl ?_;intro cu bd;refine wX rfl (xA zN bd) fun ct bc=>(go1 ?_);refine wX rfl (xB uJ (Pc.fst pH) ac) fun cq bb=>(go1 ?_);refine wX rfl (xB ty3 (Pc.arr pH (0:Int) 1 dC) C) fun cp ba=>?_;obtain⟨rfl,ce,ca⟩:=jZ ba;refine mS (F:=fun v_=>AtP (tPt k) h1 v_ (s.1.getD ((max (l.getD u (0:Int)) (l.getD ((u+1)%l.length) (0:Int))).toNat) zT)) rfl (bN zT ((max (l.getD u (0:Int)) (l.getD ((u+1)%l.length) (0:Int))).toNat) underlying35 zN rfl rfl bb (by(show(max (l.getD u (0:Int)) (l.getD ((u+1)%l.length) (0:Int)))=_;omega)) oM nP) zC6 rfl ?_;intro co az;refine wX rfl (xA zN az) fun cn ay=>(wX rfl (xV (ρ:=(rpA 2 (tPt (k+1)))) (xW (ps':=[(0,_),(1,_)]) underlying151 w7 rfl rfl sizeOf31 e4z rfl (zHB 2 (wB (yN oM))) (zH rfl (Pc.arr (Pc.here _) zT 0 dC) (bc.le (Le.t (Le.q (l:=k+1) oM))) (zH rfl (Pc.arr (Pc.here _) zT 1 dC) (ay.le (Le.t (Le.q (l:=k+1) oM))) zW)))) fun cm ax=>?_);refine w_c rfl (gM (fun X=>zU (ρ:=(rpA 2 (tPt (k+1)))) (m:=1) (xs:=[[(s.1.getD ((min (l.getD u (0:Int)) (l.getD ((u+1)%l.length) (0:Int))).toNat) zT),(s.1.getD ((max (l.getD u (0:Int)) (l.getD ((u+1)%l.length) (0:Int))).toNat) zT)]]) (ps':=[(0,_)]) underlying97 w7 rfl rfl rfl (zHB 2 (wB (yN oM))) e2z (zH rfl (Pc.arr (Pc.here _) (List.replicate 2 zT) 0 dC) ax zW) (show 1*18≤16777216 from by decide) nP) rfl ?_)
    rintro cl dq ⟨ci,rfl,an⟩
    refine w_c rfl (vC (A:=[]) (ρ:=(rpA 2 (tPt (k+1)))) an dK ?_);intro h2 dw ae;refine rQ (A:=[_,_,_]) (fun X=>qP (zX (ρ:=(rpA 2 (tPt (k+1)))) (bytes:=336) underlying97 w7 rfl rfl rfl rfl nP rfl rfl U.up ae bO bO)) rfl (wP (by first|(simp;done)|grind)) ?_
    rintro av dp ⟨ad,au,rfl,am⟩
    refine xN rfl (fun _ _=>kM rfl) rfl (xN rfl (fun _ _=>(xJ underlying99 rfl sizeOf97 rfl).cv (show _=vP b 1 from congrArg (vP b) (by rfl))) rfl (yO (A:=[_,_]) rfl (uB sizeOf97 (Pc.snd pH) D (zAH ad)) fun ak ah=>(go7 ?_)));refine xM (A:=[]) ?_;refine gqL ((u+1),(E2++[[(s.1.getD ((min (l.getD u (0:Int)) (l.getD ((u+1)%l.length) (0:Int))).toNat) zT),(s.1.getD ((max (l.getD u (0:Int)) (l.getD ((u+1)%l.length) (0:Int))).toNat) zT)]]),(T2++[((min (l.getD u (0:Int)) (l.getD ((u+1)%l.length) (0:Int))),(max (l.getD u (0:Int)) (l.getD ((u+1)%l.length) (0:Int))))]),ak,av,au,aj,(M+1),h2) ?_ ?_
    · exact⟨mle,ah,am,ad,ai,by omega,zYU aa (by assumption) (by assumption),yA3 ab⟩
    omega
   refine go7 ?_;refine xM (A:=[]) ?_;refine gqL ((u+1),E2,T2,J,z,I,H,M,h1) ?_ ?_
   · exact⟨mle,D.up,U.up,Z,G,by omega,zUZ aa (by assumption),ab⟩
   omega
  rw[yJ O];refine uA ?_;refine w_c rfl (lE rfl rfl rfl rfl (uQ ?_));refine xM (A:=[]) ?_;refine gqL ((u+1),E2,T2,J,z,I,H,M,ma) ?_ ?_
  · exact⟨mle,D.up,U.up,Z,G,by omega,zU0 aa (by assumption),ab⟩
  omega
 have eu:u=l.length:=by omega
 subst eu ab aa;refine go4 ?_;refine zGU rfl ?_;exact⟨_,(.cons _ (.cons_cons _ (.cons_cons _ (.cons_cons _ (List.Sublist.refl _))))),ap,_,_,_,_,_,rfl,D.up,Z,U.up,G⟩
end Go.Proofs.YtpkaegemlpaenaaGreat
namespace Go.Proofs.YtpkaegemlpaenaaGreat
open Bk Go Tryz
set_option linter.unusedVariables false
set_option linter.unusedSimpArgs false
set_option maxRecDepth 10000
set_option maxHeartbeats 1000000
attribute [local irreducible] GL GC GQ W OpV
theorem zIO{w0:World}{h0:Mem}(hs:MLe h0 (mem w0)){k m n j:Nat}{vs:Value}{s:Sq}(rs:(tSd k m n j).Is h0 vs s)(hcd0:okS s)(hcd1:nmA s)(hcd2:k≤1000000)(hcd3:m≤1000000)(hcd4:n≤1000000):
 Calls Tryz.prog 69 #[vs] w0 (Ret w0 h0 (fun h r=>(rpP (rpS (rpP (tPl (m+1) (n+1)) (rpP (tLL (k+1)) (rpP rpI rpI)))) (rpS (rpA 2 (tPt (k+1))))).Is h r (fN s))):=by
 have fx:=hcd0.1.1.1;have fw:=hcd0.1.1.2;refine cb1 57 vs func69 hs ?_;refine go2 ?_;refine nB rs fun b1 da au=>(nA (ρ:=(rpP (rpS (rpP (tPl 1 1) (rpP (tLL 1) (rpP rpI rpI)))) (rpS (rpA 2 (tPt 1))))) (X:=([],[])) zLN (yI uV uV) fun b2 cz dh=>(go4 ?_));refine nA (ρ:=(rpP rpV rpV)) (X:=((Value.slice none 0 0),(Value.slice none 0 0))) zLN (yI pV pV) fun b3 em df=>(go4 ?_);refine zI zIR rfl rfl rfl ?_
 rintro fp fs ⟨ax,rfl,rfl⟩
 refine go7 ?_;refine lX (xB tT (Pc.snd (Pc.fst pH)) au) fun cj ed=>(go5 ?_);refine xH 140 15 ?_;have cl:=RL.nil (ρ:=rpP (tPl (m+1) (n+1)) (rpP (tLL (k+1)) (rpP rpI rpI))) (h:=h0);refine xH 151 18 ?_;have ck:=RL.nil (ρ:=rpA 2 (tPt (k+1))) (h:=h0);refine gcL (ι:=Nat×List Fm×List (List Pt)×List PIr×List Value×Value×List Value×Value×List Value×Array MapEntry×Nat×Mem) (fun(f,FF,E2,T2,O,J,am,M,ac,Z,aj,ma)=>(MLe h0 ma∧((rpP rpV rpV).R ma O (J,M)∧RL (rpP (tPl (m+1) (n+1)) (rpP (tLL (k+1)) (rpP rpI rpI))) ma am FF∧J.oneCell'=true∧RL (rpA 2 (tPt (k+1))) ma ac E2∧M.oneCell'=true∧aF Z T2∧f≤s.2.1.length∧FF=fmT s f∧T2=sfE s f∧E2=T2.map (edP s.1)),[(1,vP b1 0),(2,vP b2 0),(3,vP b3 0),(4,.map (some ax)),(12,cj),(13,vI (↑(s.2.1).length:Int)),(14,vI ↑f)],[.gs 151 18 M E2.length ac,.gs 140 15 J FF.length am,.blk ax (.map Z aj),.var b3 99 O,.var b2 99 cz,.var b1 39 da],ma,s.2.1.length-f)) (0,[],[],[],em,(.slice none 0 0),[],(.slice none 0 0),[],#[],0,h0) ?_ ?_
 · exact⟨mle,df,cl,rfl,ck,rfl,map_nil,by omega,rfl,rfl,rfl⟩
 rintro⟨f,FF,E2,T2,O,J,am,M,ac,Z,aj,ma⟩ ⟨ep,ak,ay,co,ap,bv,bx,fz,ca,cv,cw⟩
 refine yW ?_;have gb:FF.length=f:=by rw[ca];exact xL _ _
 refine gc6 (fun cu=>?_) fun cu=>?_
 ·
  have I:=hcd0.2.1 f oM;have ft:=zF5 hcd0 f oM;have ga:=zDY (s.2.1.getD f zA).1.1;refine go6 ?_;refine lX (xI zA f underlying36 bG ed) fun fo ec=>(lX (xA bG ec) fun fm eb=>(nA (ρ:=(tFc 1 1)) (X:=((zT,(0:Rat)),([],([]:List Nat)))) kU (yI (yI (wB (yN dC)) (yN dC)) (yI uV tS)) fun b6 ge de=>?_));have bf:=(Le.p (Le.p (Le.t (Le.q (l:=m+1) oM)) (Le.q (l:=n+1) oM)) (Le.refl _)).R de;refine yE (A:=[]) (uB sizeOf53 pH bf (eb.le (Le.p (Le.p (Le.t (Le.q (l:=m+1) oM)) (Le.q (l:=n+1) oM)) (Le.refl _)))) fun cg H=>(go5 ?_);refine lX (xB dE (Pc.fst pH) H) fun fl ea=>(lX (xV (ρ:=(rpP (tPl (m+1) (n+1)) (rpP (tLL 1) (rpP rpI rpI)))) (wG (ps':=[(0,_)]) underlying140 mF rfl rfl (zOI underlying140) e2z rfl (yI (yI (wB (yN oM)) (yN oM)) (yI uV (yI wD wD))) (zH rfl (Pc.fst (Pc.here _)) ea zW))) fun fk dz=>(nA (ρ:=(rpP (tPl 1 1) (rpP (tLL 1) (rpP rpI rpI)))) (X:=((zT,(0:Rat)),([],((0:Int),(0:Int))))) mF (yI (yI (wB (yN dC)) (yN dC)) (yI uV (yI wD wD))) fun b7 gc dd=>?_));have be:=(Le.p (Le.p (Le.t (Le.q (l:=m+1) oM)) (Le.q (l:=n+1) oM)) (Le.refl _)).R dd;refine yE (A:=[]) (uB sizeOf140 pH be dz) fun el bs=>(go5 ?_);refine lX (xB fF pH au) fun fj dy=>(lX (xB bG pH H) fun fi dx=>(cL (ev2 rfl rfl) call104 (fun w hs=>zO5 hs (dy.le (Le.p (Le.refl _) (Le.p (Le.s (Le.p (Le.p (Le.t (Le.q (l:=m+1) oM)) (Le.q (l:=n+1) oM)) (Le.refl _))) (Le.refl _)))) dx (by first|omega|exact fun u v C hv=>hcd1 f oM u C v hv|exact fun u C=>Nat.le_trans (I.2 u C) dC) (by first|omega|exact fun u v C hv=>hcd1 f oM u C v hv|exact fun u C=>Nat.le_trans (I.2 u C) dC) (by first|omega|exact fun u v C hv=>hcd1 f oM u C v hv|exact fun u C=>Nat.le_trans (I.2 u C) dC) (by first|omega|exact fun u v C hv=>hcd1 f oM u C v hv|exact fun u C=>Nat.le_trans (I.2 u C) dC)) fun ci h1 cq dw=>?_));obtain rfl:ci=.bool true:=by rw[show ci=vB (True) from dw,xE (by trivial)]
  refine go5 ?_;refine lX (xB fF pH au) fun fh dv=>(lX (xB bG pH H) fun fg du=>(cL (ev2 rfl rfl) call105 (fun w hs=>zID hs (dv.le (Le.p (Le.refl _) (Le.p (Le.s (Le.p (Le.p (Le.t (Le.q (l:=m+1) oM)) (Le.q (l:=n+1) oM)) (Le.refl _))) (Le.refl _)))) du (by first|omega|exact fun u v C hv=>hcd1 f oM u C v hv|exact fun u C=>Nat.le_trans (I.2 u C) dC) (by first|omega|exact fun u v C hv=>hcd1 f oM u C v hv|exact fun u C=>Nat.le_trans (I.2 u C) dC) (by first|omega|exact fun u v C hv=>hcd1 f oM u C v hv|exact fun u C=>Nat.le_trans (I.2 u C) dC) (by first|omega|exact fun u v C hv=>hcd1 f oM u C v hv|exact fun u C=>Nat.le_trans (I.2 u C) dC)) fun ff h2 cp dt=>(go1 ?_)));have bd:=(Le.p (Le.refl _) (Le.p (Le.s (Le.s (Le.t (Le.q (l:=k+1) oM)))) (Le.refl _))).R bs;refine yE (A:=[]) (uB sizeOf76 (Pc.snd (Pc.fst pH)) bd dt) fun ek br=>(go6 ?_);refine lX (xB zN (Pc.fst (Pc.fst pH)) H) fun fe dr=>(cL (ev1 rfl) call106 (fun w hs=>zO4 hs dr oM) fun fd h3 fy dq=>?_);obtain rfl:=dq;refine go4 ?_;refine yE (A:=[]) (uB sizeOf3 (Pc.snd (Pc.snd (Pc.fst pH))) br (jD (z:=(↑(axI (((s.2.1.getD f zA).1).1)):Int)) oM oM)) fun ej bq=>(go1 ?_);refine yE (A:=[]) (uB sizeOf3 (Pc.snd (Pc.snd (Pc.snd pH))) bq (jD (z:=(↑(axJ (((s.2.1.getD f zA).1).1)):Int)) oM oM)) fun cf bp=>(go5 ?_);refine lX (xB cK (Pc.snd (Pc.fst pH)) H) fun dc dp=>(go5 ?_);refine gcL (ι:=Nat×List Fm×List (List Pt)×List PIr×List Value×Value×List Value×Value×List Value×Array MapEntry×Nat×Mem) (fun(q,F3,E3,T3,ah,D,ab,G,aa,U,ai,mb)=>(MLe h3 mb∧((rpP rpV rpV).R mb ah (D,G)∧RL (rpP (tPl (m+1) (n+1)) (rpP (tLL (k+1)) (rpP rpI rpI))) mb ab F3∧D.oneCell'=true∧RL (rpA 2 (tPt (k+1))) mb aa E3∧G.oneCell'=true∧aF U T3∧q≤(s.2.1.getD f zA).2.1.length∧F3=fmT s f∧T3=slE s.1 (s.2.1.getD f zA).2.1 (sfE s f) q∧E3=T3.map (edP s.1)),[(1,vP b1 0),(2,vP b2 0),(3,vP b3 0),(4,.map (some ax)),(7,vP b7 0),(12,cj),(13,vI (↑(s.2.1).length:Int)),(14,vI ↑f),(38,dc),(39,vI (↑(((s.2.1.getD f zA).2).1).length:Int)),(40,vI ↑q)],[.var b7 140 cf,.var b6 53 cg,.gs 151 18 G E3.length aa,.gs 140 15 D F3.length ab,.blk ax (.map U ai),.var b3 99 ah,.var b2 99 cz,.var b1 39 da],mb,(s.2.1.getD f zA).2.1.length-q)) (0,FF,E2,T2,O,J,am,M,ac,Z,aj,h3) ?_ ?_
  · exact⟨mle,ak.up,ay.up,co,ap.up,bv,bx,by omega,ca,cv,cw⟩
  rintro⟨q,F3,E3,T3,ah,D,ab,G,aa,U,ai,mb⟩ ⟨eo,ae,ao,bu,an,aq,ar,fu,cb,bz,ba⟩
  refine yW ?_;refine gc6 (fun ct=>?_) fun ct=>?_
  ·
   have fv:=I.2 q oM;have eg:=zF1 I.2 s.1 (sfE s f) q oM;rw[←bz] at eg;refine go6 ?_;refine lX (xI [] q underlying51 fG dp) fun fc dn=>(lX (xA fG dn) fun fb dm=>(go4 ?_));refine lX (xB fF pH au) fun fa dl=>(go2 ?_);refine oQ (A:=[_,_,_,_]) (oQ (A:=[_,_,_]) (oQ (A:=[_,_,_,_,_]) ?_));refine zGY (vs:=[_,_,_,_]) (Qs:=[_,_,_]) (List.Perm.refl _) call107 e4z (fun w hs=>zV2 dl dm ae aq an ar ba (fun u C=>hcd1 f oM q oM u C) ⟨by omega,by omega,by omega⟩ hcd2 hs) rfl ?_;intro ez h4 gf eh ee;obtain⟨ce,bb,aw,cc,ch,rfl,bo,bt,bk,bw⟩:=ee;refine zGZ (A:=[_,_,_,_,_]) (zGZ (A:=[_,_,_]) (zGZ (A:=[_,_,_,_]) (go7 ?_)));refine gqL ((q+1),F3,((sxE s.1 ((s.2.1.getD f zA).2.1.getD q []) T3 ((s.2.1.getD f zA).2.1.getD q []).length).map (edP s.1)),(sxE s.1 ((s.2.1.getD f zA).2.1.getD q []) T3 ((s.2.1.getD f zA).2.1.getD q []).length),ce,D,ab,bb,aw,cc,ch,h4) ?_ ?_
   · exact⟨mle,bo,ao.up,bu,bk,bt,bw,by omega,cb,by rw[bz];rfl,rfl⟩
   omega
  have eq:q=(s.2.1.getD f zA).2.1.length:=by omega
  have er:F3.length=f:=by rw[cb];exact xL _ _
  refine go7 ?_;refine lX (bM (xB zYM (Pc.fst pH) ae)) fun ey dk=>?_;subst dk;refine lX (xB zBY pH bp) fun ew dj=>(zI (zU (ρ:=(rpP (tPl (m+1) (n+1)) (rpP (tLL (k+1)) (rpP rpI rpI)))) (m:=1) (xs:=[((s.2.1.getD f zA).1,(dP s.1 (s.2.1.getD f zA).2.1 (s.2.1.getD f zA).2.1.length,((↑(axI (((s.2.1.getD f zA).1).1)):Int),(↑(axJ (((s.2.1.getD f zA).1).1)):Int))))]) (ps':=[(0,_)]) underlying96 mF rfl rfl rfl (yI (yI (wB (yN oM)) (yN oM)) (yI uV (yI wD wD))) e2z (zH rfl (Pc.arr (Pc.here _) fm0 0 dC) dj zW) (show 1*15≤16777216 from by decide) nP) rfl rfl rfl ?_)
  rintro ev fr ⟨es,rfl,cn⟩
  refine zY (A:=[]) (ρ:=(rpP (tPl (m+1) (n+1)) (rpP (tLL (k+1)) (rpP rpI rpI)))) cn ?_;intro h4 eh bi;refine xK (A:=[_,_,_]) (qP (zX (ρ:=(rpP (tPl (m+1) (n+1)) (rpP (tLL (k+1)) (rpP rpI rpI)))) (bytes:=264) underlying96 mF rfl rfl rfl rfl nP rfl rfl ao.up bi bO bO)) rfl rfl rfl ?_
  rintro db fq ⟨az,cy,rfl,cm⟩
  refine go1 ?_;refine yE (A:=[_,_,_,_,_]) (uB sizeOf96 (Pc.fst pH) ae (zAH az)) fun cd bn=>(go7 ?_);refine xM (A:=[]) (xM (A:=[]) ?_);refine gqL ((f+1),(F3++[((s.2.1.getD f zA).1,(dP s.1 (s.2.1.getD f zA).2.1 (s.2.1.getD f zA).2.1.length,((↑(axI (((s.2.1.getD f zA).1).1)):Int),(↑(axJ (((s.2.1.getD f zA).1).1)):Int))))]),E3,T3,cd,db,cy,G,aa,U,ai,h4) ?_ ?_
  · exact⟨mle,bn,cm,az,an.up,aq,ar,by omega,by rw[cb];rfl,by rw[bz,eq];rfl,ba⟩
  omega
 have ef:f=s.2.1.length:=by omega
 refine go7 ?_;refine zY (A:=[_]) (ρ:=(rpP (tPl (m+1) (n+1)) (rpP (tLL (k+1)) (rpP rpI rpI)))) ay.up ?_;intro h1 cq bh;replace ak:=ak.mono cq;have ad:(rpP (rpS (rpP (tPl (m+1) (n+1)) (rpP (tLL (k+1)) (rpP rpI rpI)))) rpV).R h1 O (FF,(J,M).2):=zYI ak bh;refine zY (A:=[]) (ρ:=(rpA 2 (tPt (k+1)))) ap.up ?_;intro h2 cp bg;replace ad:=ad.mono cp;have bm:(rpP (rpS (rpP (tPl (m+1) (n+1)) (rpP (tLL (k+1)) (rpP rpI rpI)))) (rpS (rpA 2 (tPt (k+1))))).R h2 O (FF,E2):=vr_1 ad bg;refine lX (xB zNW pH bm) fun eu di=>?_;have bc:=(Le.p (Le.s (Le.p (Le.p (Le.t (Le.q (l:=m+1) oM)) (Le.q (l:=n+1) oM)) (Le.p (Le.s (Le.s (Le.t (Le.q (l:=k+1) oM)))) (Le.refl _)))) (Le.s (Le.a (Le.t (Le.q (l:=k+1) oM))))).R dh;refine yE (A:=[_,_]) (uB sizeOf99 pH bc di) fun ei bl=>(go3 ?_);refine uR (tU (t:=2) zNW mh2 rfl bl) ?_;intro en av bj;refine yS (fun E S=>yD rfl av E S) ?_;exact(Rp.Is.cast bj (by rw[ca,cw,cv,ef];rfl))
end Go.Proofs.YtpkaegemlpaenaaGreat
namespace Go.Proofs.YtpkaegemlpaenaaGreat
open Bk Go Tryz
set_option linter.unusedVariables false
set_option linter.unusedSimpArgs false
set_option maxRecDepth 10000
set_option maxHeartbeats 1000000
attribute [local irreducible] GL GC GQ W OpV
theorem nV{w0:World}{h0:Mem}(hs:MLe h0 (mem w0)){k m n j j2:Nat}{vs:Value}{s:Sq}(rs:(tSd k m n j).Is h0 vs s){vp:Value}{p:Tq}(rp:(tPt j2).Is h0 vp p)(hcd0:okS s)(hcd1:fX s)(hcd2:k≤9000)(hcd3:j2≤90)(hcd4:m≤900)(hcd5:n≤900):
 Calls Tryz.prog 32 #[vs,vp] w0 (Ret w0 h0 (fun h r=>r=.tuple #[vI (wdM (fN s) p),vB (¬onA (fN s) p)])):=by
 have C:=yC1 (s:=s) hcd0;have z:=zZ4 hcd1 p;refine cb2 12 vs vp func32 hs ?_;refine go2 ?_;refine nB rs fun b2 ab G=>(nB rp fun b3 aa D=>(go5 ?_));refine zL 8 _ [] [(0,.q),(2,.q),(1,.c),(3,.c),(4,.q),(5,.q),(6,.q),(7,.q)] yA nX (by kernel_rfl) nX (fun r O=>O) (wX rfl (xB fF pH G) fun v6 M=>(wX rfl (xB zN pH D) fun v8 I=>?_));refine w_c rfl (sC (ev1 rfl) call69 (fun w hs=>zIO hs M (by first|omega|exact hcd0|exact hcd1|exact bH hcd1|exact C|exact z.1|exact z.2) (by first|omega|exact hcd0|exact hcd1|exact bH hcd1|exact C|exact z.1|exact z.2) oM oM oM) fun v7 h1 Z J=>?_);refine w_c rfl (sC (ev2 rfl rfl) call72 (fun w hs=>zIN hs J I.up oM oM oM oM (by first|omega|exact hcd0|exact hcd1|exact bH hcd1|exact C|exact z.1|exact z.2) (by first|omega|exact hcd0|exact hcd1|exact bH hcd1|exact C|exact z.1|exact z.2) (by first|omega|exact hcd0|exact hcd1|exact bH hcd1|exact C|exact z.1|exact z.2)) fun v9 h2 U H=>?_);obtain rfl:=H;refine go7 ?_;refine xY rfl rfl rfl ?_
 rfl
theorem zGM{w0:World}{h0:Mem}(hs:MLe h0 (mem w0)){k m n j j2:Nat}{vs:Value}{s:Sq}(rs:(tSd k m n j).Is h0 vs s){vp:Value}{p:Tq}(rp:(tPt j2).Is h0 vp p)(hcd0:okS s)(hcd1:fX s)(hcd2:k≤9000)(hcd3:j2≤90)(hcd4:m≤900)(hcd5:n≤900):
 Calls Tryz.prog 18 #[vs,vp] w0 (Ret w0 h0 (fun _ r=>r=vI (inM (fN s) p))):=by
 refine cb2 19 vs vp func18 hs ?_;refine go2 ?_;refine nB rs fun b2 Z G=>(nB rp fun b3 U D=>(go5 ?_));refine lX (xB fF pH G) fun v8 M=>(lX (xB zN pH D) fun v9 J=>(cL (ev2 rfl rfl) call32 (fun w hs=>nV hs M J (by first|omega|exact hcd0|exact hcd1|exact bH hcd1|exact hmo|exact hmd.1|exact hmd.2) (by first|omega|exact hcd0|exact hcd1|exact bH hcd1|exact hmo|exact hmd.1|exact hmd.2) oM oM oM oM) fun I h1 O H=>?_));obtain rfl:=H;refine iX ?_;refine cnd (fun z=>?_) fun z=>?_
 ·
  refine go8 ?_;refine zC rfl rfl ?_;unfold inM;rw[if_pos (by simpa using z)]
 refine gc7 (fun C=>?_) fun C=>?_
 ·
  refine go8 ?_;refine zC rfl rfl ?_;unfold inM;rw[if_neg (by simpa using z),if_pos C]
 refine go9 ?_;refine zC rfl rfl ?_;unfold inM;rw[if_neg (by simpa using z),if_neg C]
end Go.Proofs.YtpkaegemlpaenaaGreat
namespace Go.Proofs.YtpkaegemlpaenaaGreat
open Bk Go Tryz
set_option linter.unusedVariables false
set_option linter.unusedSimpArgs false
set_option maxRecDepth 10000
set_option maxHeartbeats 1000000
attribute [local irreducible] GL GC GQ W OpV
theorem zR6{w0:World}{h0:Mem}(hs:MLe h0 (mem w0)){k l:Nat}{vp:Value}{p:Tq}(rp:(tPt k).Is h0 vp p){vq:Value}{q:Tq}(rq:(tPt l).Is h0 vq q)(hcd0:k≤100000000)(hcd1:l≤100000000):
 Calls Tryz.prog 137 #[vp,vq] w0 (Ret w0 h0 (fun _ r=>r=vB (lsP p q))):=by
 refine cb2 22 vp vq func137 hs ?_;refine go2 ?_;refine nB rp fun D ac I=>(nB rq fun C ab H=>(uA ?_));refine gcL (ι:=Nat×Mem) (fun(i,U)=>(MLe h0 U∧(i≤3∧∀u,u<i→yP (p.at u) (q.at u)=0),[(2,vP D 0),(3,vP C 0),(5,vI ↑i)],[.var C 31 ab,.var D 31 ac],U,3-i)) (0,h0) ?_ ?_
 · exact⟨mle,by omega,fun u h=>by omega⟩
 rintro⟨i,U⟩ ⟨ad,ai,hi2⟩
 refine yW ?_;refine gc7 (fun aa=>?_) fun aa=>?_
 ·
  refine go5 ?_;refine zL 8 _ [] [(0,.q),(1,.q),(2,.q),(3,.q),(4,.q),(5,.q),(6,.c),(7,.q)] yA nX (by kernel_rfl) nX (fun r hr=>hr) (go1 ?_);refine xN rfl (fun _ _=>(zV (sz:=3) i underlying31 sizeOf29 rfl rfl rfl oM).cv (show _=vP D ((i*3+0)) from congrArg (vP D) oM)) rfl (wX rfl (xB yB (Pc.ta pH i oM) I) fun ah O=>(go1 ?_));refine xN rfl (fun _ _=>(zV (sz:=3) i underlying31 sizeOf29 rfl rfl rfl oM).cv (show _=vP C ((i*3+0)) from congrArg (vP C) oM)) rfl (wX rfl (xB yB (Pc.ta pH i oM) H) fun ae M=>?_);refine w_c rfl (sC (ev2 rfl rfl) call17 (fun w hs=>kA hs O M oM) fun G h1 aj J=>?_);obtain rfl:G=vI (yP (p.at i) (q.at i)):=J;have Z:=uN (p.at i) (q.at i);refine gc9 (fun z=>?_) fun z=>?_
  ·
   refine rM ?_;refine zC rfl rfl ?_;exact jI (yC3 oM hi2 z)
  refine go8 ?_;refine gqL ((i+1),h1) ?_ ?_
  · exact⟨mle,by omega,vG (Q:=fun u=>yP (p.at u) (q.at u)=0) hi2 (Classical.not_not.1 z)⟩
  omega
 have ei:i=3:=by omega
 refine qA ?_;refine zC rfl rfl ?_;exact(yJ (zZ5 fun u hu=>hi2 u oM)).symm
theorem zA3{w0:World}{h0:Mem}(hs:MLe h0 (mem w0)){va:Value}{a:(List Int)}(ra:(rpS rpI).Is h0 va a){vb:Value}{b:(List Int)}(rb:(rpS rpI).Is h0 vb b):
 Calls Tryz.prog 139 #[va,vb] w0 (Ret w0 h0 (fun _ r=>r=vI (cI a b))):=by
 have bb:=yCK ra;have ba:=yCK rb;refine cb2 48 va vb func139 hs ?_;refine uQ ?_;refine gcL (ι:=Nat×Mem) (fun(i,J)=>(MLe h0 J∧((i≤a.length∧i≤b.length)∧∀u,u<i→a.getD u 0=b.getD u 0),[(0,va),(1,vb),(5,vI ↑i)],[],J,a.length-i)) (0,h0) ?_ ?_
 · exact⟨mle,by omega,fun u h=>by omega⟩
 rintro⟨i,J⟩ ⟨ak,bc,hi2⟩
 refine yW ?_;refine go7 ?_;refine gU 6 15 (vB (((↑i:Int)<(↑(a).length:Int))∧((↑i:Int)<(↑(b).length:Int)))) ?_ ?_
 ·
  refine zS ((↑i:Int)<(↑(a).length:Int)) (fun D=>?_) (fun D=>?_)
  ·
   refine gT D rfl (uA ?_);refine gqU ?_;exact congrArg some (yU D)
  refine gF D rfl (go6 ?_);refine gqU ?_;exact congrArg some (yV D)
 refine gc2 (fun I=>?_) fun I=>?_
 ·
  refine go5 ?_;refine zL 9 _ [] [(0,.q),(1,.q),(2,.q),(3,.q),(4,.q),(5,.q),(6,.q),(7,.q),(8,.q)] yA nX (by kernel_rfl) nX (fun r hr=>hr) (go2 ?_);refine wX rfl (xI (0:Int) i underlying22 ty3 ra) fun az ad=>(wX rfl (xA ty3 ad) fun ay ac=>?_);obtain⟨rfl,ap,aj⟩:=jZ ac;refine go2 ?_;refine wX rfl (xI (0:Int) i underlying22 ty3 rb) fun ax ab=>(wX rfl (xA ty3 ab) fun aw aa=>?_);obtain⟨rfl,ao,ai⟩:=jZ aa;refine gc3 (fun z=>?_) fun z=>?_
  ·
   refine go2 ?_;refine zL 9 _ [] [(0,.q),(1,.q),(2,.q),(3,.q),(4,.q),(5,.q),(6,.q),(7,.q),(8,.q)] yA nX (by kernel_rfl) nX (fun r hr=>hr) (go2 ?_);refine wX rfl (xI (0:Int) i underlying22 ty3 ra) fun av Z=>(wX rfl (xA ty3 Z) fun au U=>?_);obtain⟨rfl,an,ah⟩:=jZ U;refine go2 ?_;refine wX rfl (xI (0:Int) i underlying22 ty3 rb) fun ar O=>(wX rfl (xA ty3 O) fun aq M=>?_);obtain⟨rfl,am,ae⟩:=jZ M;refine gc3 (fun C=>?_) fun C=>?_
   ·
    refine uQ ?_;refine zC rfl rfl ?_;refine congrArg vI ?_;rw[zNL hi2 oM oM z,if_pos C]
   refine rM ?_;refine zC rfl rfl ?_;refine congrArg vI ?_;rw[zNL hi2 oM oM z,if_neg C]
  refine go8 ?_;refine gqL ((i+1),J) ?_ ?_
  · exact⟨mle,by omega,vG (Q:=fun u=>a.getD u 0=b.getD u 0) hi2 (Classical.not_not.1 z)⟩
  omega
 have ei:i=min a.length b.length:=by omega
 refine mW ?_;refine cnd (fun H=>?_) fun H=>?_
 ·
  refine go8 ?_;refine zC rfl rfl ?_;refine congrArg vI ?_;rw[zDR hi2 ei,if_pos oM]
 refine zBF (fun G=>?_) fun G=>?_
 ·
  refine go8 ?_;refine zC rfl rfl ?_;refine congrArg vI ?_;rw[zDR hi2 ei,if_neg oM,if_pos oM]
 refine go9 ?_;refine zC rfl rfl ?_;refine congrArg vI ?_;rw[zDR hi2 ei,if_neg oM,if_neg oM]
theorem zKY{w0:World}{h0:Mem}(hs:MLe h0 (mem w0)){vx:Value}{x:(List Int)}(rx:(rpS rpI).Is h0 vx x)(hcd0:x.length≤100000):
 Calls Tryz.prog 138 #[vx] w0 (Ret w0 h0 (fun h r=>(rpS rpI).Is h r (zQ3 x))):=by
 refine cb1 29 vx func138 hs ?_;refine mW ?_;refine gcL (ι:=Nat×Mem) (fun(i,D)=>(MLe h0 D∧(i≤x.length),[(0,vx),(3,vI ↑(pB x i)),(4,vI ↑i)],[],D,x.length-i)) (0,h0) ?_ ?_
 · exact⟨mle,oM⟩
 rintro⟨i,D⟩ ⟨aj,M⟩
 refine yW ?_;have bc:=M;have bb:=zXP x i;refine gc9 (fun ae=>?_) fun ae=>?_
 ·
  refine go5 ?_;refine zL 9 _ [] [(0,.q),(1,.q),(2,.q),(3,.q),(4,.q),(5,.q),(6,.q),(7,.q),(8,.q)] yA nX (by kernel_rfl) nX (fun r hr=>hr) (go2 ?_);refine wX rfl (xI (0:Int) i underlying22 ty3 rx) fun ay ad=>(wX rfl (xA ty3 ad) fun ax ac=>?_);obtain⟨rfl,am,ai⟩:=jZ ac;refine go2 ?_;refine wX rfl (xI (0:Int) (pB x i) underlying22 ty3 rx) fun aw ab=>(wX rfl (xA ty3 ab) fun av aa=>?_);obtain⟨rfl,ak,ah⟩:=jZ aa;refine gc3 (fun C=>?_) fun C=>?_
  ·
   refine qA ?_;refine gqL ((i+1),D) ?_ ?_ (he:=⟨rfl,congrArg (fun z:Nat=>some (vI ↑z)) (mn_t C),rfl,trivial⟩)
   · exact⟨mle,oM⟩
   omega
  refine go8 ?_;refine gqL ((i+1),D) ?_ ?_ (he:=⟨rfl,congrArg (fun z:Nat=>some (vI ↑z)) (mn_f C),rfl,trivial⟩)
  · exact⟨mle,oM⟩
  omega
 have ei:i=x.length:=by omega
 refine go6 ?_;refine zL 9 _ [] [(0,.q),(1,.q),(2,.q),(4,.q),(5,.q),(6,.q),(3,.c),(7,.c),(8,.q)] yA nX (by kernel_rfl) nX (fun r hr=>hr) (go2 ?_);refine mS (F:=fun O=>(rpS rpI).Is D O (x.drop (pB x i))) rfl (zKI (ρ:=rpI) (pB x i) underlying22 sizeOf3 rfl rfl rx.up oM oM) zC6 rfl ?_;intro au Z;refine go2 ?_;refine mS (F:=fun O=>(rpS rpI).Is D O (x.take (pB x i))) rfl (zKJ (ρ:=rpI) (pB x i) underlying22 sizeOf3 rfl rfl rx.up oM oM) zC6 rfl ?_;intro aq U;refine w_c rfl (zQT 3 1 ?_);have H:=RL.nil (ρ:=rpI) (h:=D);refine rQ (A:=[]) (fun X=>zX (ρ:=rpI) (bytes:=8) underlying22 fO rfl rfl rfl rfl nP rfl rfl H Z (by first|omega|(simp only[lAz,List.length_drop,List.length_take,lN];omega)) (by first|omega|(simp only[lAz,List.length_drop,List.length_take,lN];omega))) rfl (wP (by first|(simp;done)|grind)) ?_
 rintro ar ba ⟨ao,rfl,J⟩
 refine w_c rfl (rQ (A:=[]) (fun X=>zX (ρ:=rpI) (bytes:=8) underlying22 fO rfl rfl rfl rfl nP rfl rfl J U (by first|omega|(simp only[lAz,List.length_drop,List.length_take,lN];omega)) (by first|omega|(simp only[lAz,List.length_drop,List.length_take,lN];omega))) rfl (wP (by first|(simp;done)|grind)) ?_)
 rintro ap az ⟨an,rfl,I⟩
 refine go4 ?_;refine vJ (A:=[]) (ρ:=rpI) I ?_;intro h1 bd G;refine zC rfl rfl ?_;exact(Rp.Is.cast G (by rw[ei,List.nil_append];rfl))
theorem zGL{w0:World}{h0:Mem}(hs:MLe h0 (mem w0)){m n k l:Nat}{va:Value}{a:(Pq×((List (List Int))×(List Nat)))}(ra:(tFc m n).Is h0 va a){vb:Value}{b:(Pq×((List (List Int))×(List Nat)))}(rb:(tFc k l).Is h0 vb b)(hcd0:a.2.1.length≤100000)(hcd1:b.2.1.length≤100000):
 Calls Tryz.prog 91 #[va,vb] w0 (Ret w0 h0 (fun _ r=>r=vB (lsF a b))):=by
 refine cb2 53 va vb func91 hs ?_;refine go2 ?_;refine nB ra fun b2 aq C=>(nB rb fun b3 ap z=>(go7 ?_));refine lX (xB ty9 (Pc.snd (Pc.snd pH)) C) fun v8 r8=>?_;obtain⟨rfl,ao⟩:=kJ r8;refine go1 ?_;refine lX (xB ty9 (Pc.snd (Pc.snd pH)) z) fun bg am=>?_;obtain⟨rfl,U⟩:=kJ am;refine gv (zRN (pa:=a.2.2) (pb:=b.2.2) ao U rfl rfl) rfl (gc2 (fun G=>?_) fun G=>?_)
 ·
  refine go3 ?_;refine lX (xB ty9 (Pc.snd (Pc.snd pH)) C) fun bf ak=>?_;obtain⟨rfl,O⟩:=kJ ak;refine go1 ?_;refine lX (xB ty9 (Pc.snd (Pc.snd pH)) z) fun be aj=>?_;obtain⟨rfl,M⟩:=kJ aj;refine gv (zRQ (pa:=a.2.2) (pb:=b.2.2) O M rfl rfl) rfl (go5 ?_);refine zC rfl rfl ?_;exact jI (Iff.of_eq (if_neg G).symm)
 have H:a.2.2=b.2.2:=Classical.not_not.1 G;refine go9 ?_;refine gcL (ι:=Nat×Mem) (fun(i,ma)=>(MLe h0 ma∧((i≤a.2.1.length∧i≤b.2.1.length)∧∀u,u<i→cI (a.2.1.getD u []) (b.2.1.getD u [])=0),[(2,vP b2 0),(3,vP b3 0),(5,vI ↑i)],[.var b3 53 ap,.var b2 53 aq],ma,a.2.1.length-i)) (0,h0) ?_ ?_
 · exact⟨mle,by omega,fun u h=>by omega⟩
 rintro⟨i,ma⟩ ⟨ar,bl,hi2⟩
 refine yW ?_;refine go5 ?_;refine lX (xB cK (Pc.snd (Pc.fst pH)) C) fun bd bk=>(go2 ?_);refine gU 7 28 (vB (((↑i:Int)<(↑(a.2.1).length:Int))∧((↑i:Int)<(↑(b.2.1).length:Int)))) ?_ ?_
 ·
  refine zS ((↑i:Int)<(↑(a.2.1).length:Int)) (fun I=>?_) (fun I=>?_)
  ·
   refine gT I rfl (go5 ?_);refine lX (xB cK (Pc.snd (Pc.fst pH)) z) fun bc bj=>(go6 ?_);refine gqU ?_;exact congrArg some (yU I)
  refine gF I rfl (go7 ?_);refine gqU ?_;exact congrArg some (yV I)
 refine gc2 (fun J=>?_) fun J=>?_
 ·
  refine go5 ?_;refine zL 12 _ [] [(0,.q),(1,.q),(2,.q),(3,.q),(4,.q),(5,.q),(6,.q),(7,.q),(8,.q),(9,.q),(10,.c),(11,.q)] yA nX (wI (by kernel_rfl)) nX (fun r hr=>hr) (go1 ?_);refine wX rfl (xB cK (Pc.snd (Pc.fst pH)) C) fun bb ai=>(go1 ?_);refine wX rfl (xI [] i underlying51 fG ai) fun ba ah=>(wX rfl (xA fG ah) fun az ae=>(go1 ?_));refine wX rfl (xB cK (Pc.snd (Pc.fst pH)) z) fun ay ad=>(go1 ?_);refine wX rfl (xI [] i underlying51 fG ad) fun ax ac=>(wX rfl (xA fG ac) fun aw ab=>?_);refine w_c rfl (sC (ev2 rfl rfl) call139 (fun w hs=>zA3 hs ae ab) fun Z h1 bm aa=>?_);obtain rfl:Z=vI (cI (a.2.1.getD i []) (b.2.1.getD i [])):=aa;have an:=iY (a.2.1.getD i []) (b.2.1.getD i []);refine gc9 (fun D=>?_) fun D=>?_
  ·
   refine rM ?_;refine zC rfl rfl ?_;exact jI ((zWA hi2 oM oM D).symm.trans (Iff.of_eq (if_pos H).symm))
  refine go8 ?_;refine gqL ((i+1),h1) ?_ ?_
  · exact⟨mle,by omega,vG (Q:=fun u=>cI (a.2.1.getD u []) (b.2.1.getD u [])=0) hi2 (Classical.not_not.1 D)⟩
  omega
 have ei:i=min a.2.1.length b.2.1.length:=by omega
 refine go8 ?_;refine lX (xB cK (Pc.snd (Pc.fst pH)) C) fun av bi=>(go2 ?_);refine lX (xB cK (Pc.snd (Pc.fst pH)) z) fun au bh=>(go6 ?_);refine zC rfl rfl ?_;exact jI (Iff.trans oM ((zSN hi2 ei).symm.trans (Iff.of_eq (if_pos H).symm)))
theorem zOY{w0:World}{h0:Mem}(hs:MLe h0 (mem w0)){m n:Nat}{vs:Value}{s:Pq}(rs:(tPl m n).Is h0 vs s)(hcd0:m≤10000000)(hcd1:n≤10000000):
 Calls Tryz.prog 66 #[vs] w0 (Ret w0 h0 (fun h r=>(tPl (4*m+10) (m+n+10)).Is h r (scZ s))):=by
 refine cb1 36 vs func66 hs ?_;refine go2 ?_;refine nB rs fun b1 bc D=>(nA (ρ:=(tPl 1 1)) (X:=(zT,(0:Rat))) mE (yI (wB (yN dC)) (yN dC)) fun b2 bb ae=>(go9 ?_));refine gcL (ι:=Nat×Mem) (fun(i,ma)=>(MLe h0 ma∧(i≤3∧∀u,u<i→xC (s.1.at u)=0),[(1,vP b1 0),(2,vP b2 0),(3,vI ↑i)],[.var b2 50 bb,.var b1 50 bc],ma,3-i)) (0,h0) ?_ ?_
 · exact⟨mle,by omega,fun u h=>by omega⟩
 rintro⟨i,ma⟩ ⟨be,bv,hi2⟩
 refine yW ?_;refine gc7 (fun az=>?_) fun az=>?_
 ·
  refine go8 ?_;refine gv ((zV (sz:=3) i underlying31 sizeOf29 rfl rfl rfl oM).cv (show _=vP b1 ((i*3+0)) from congrArg (vP b1) oM)) rfl (lX (xB yB (Pc.fst (Pc.ta pH i oM)) D) fun bu ax=>(cL (ev1 rfl) call48 (fun w hs=>qF hs ax oM) fun ah h1 cc aw=>?_));obtain rfl:ah=vI (xC (s.1.at i)):=aw;have ay:=yY (s.1.at i);refine gc3 (fun C=>?_) fun C=>?_
  ·
   refine go1 ?_;refine zL 13 _ [(10,(4,29,[.bool false,.slice none 0 0,.slice none 0 0]))] [(1,.q),(2,.q),(3,.q),(4,.q),(0,.c),(5,.c),(6,.c),(7,.q),(8,.q),(9,.q),(10,.a),(11,.c),(12,.q)] yA (kW.cons rfl rfl (jK xS rfl rfl) kW.nil) (wI (by kernel_rfl)) (jM rfl rfl sQ) (fun r hr=>hr) (go2 ?_);refine xN rfl (fun _ _=>(zV (sz:=3) i underlying31 sizeOf29 rfl rfl rfl oM).cv (show _=vP b1 ((i*3+0)) from congrArg (vP b1) oM)) rfl (wX rfl (xB yB (Pc.fst (Pc.ta pH i oM)) D) fun bs au=>?_);refine w_c rfl (sC (vs:=[vI (1)]) ⟨rfl,trivial⟩ call27 (fun w hs=>sW hs dC dC) fun bt h2 cb av=>?_);refine w_c rfl (sC (ev1 rfl) call103 (fun w hs=>zKV hs au.up oM) fun br h3 ca ar=>?_);refine w_c rfl (sC (ev2 rfl rfl) call81 (fun w hs=>zKU hs av.up ar oM) fun bq h4 bz aq=>?_);obtain⟨I,rfl,z⟩:=aq
   change (rpQ (2+m)).Is h4 I (if(iZ (s.1.at i))=0 then 0 else(((1:Int):Int):Rat)/(iZ (s.1.at i))) at z
   replace z:=Rp.Is.le z (Le.q (l:=m+2) oM);refine go3 ?_;refine w_a rfl rfl (fun b4=>?_);have ai:(rpQ 1).R h4 [.bool false,.slice none 0 0,.slice none 0 0] (0:Rat):=(yN dC);refine w_c rfl ?_;have ac:=(Le.q (l:=m+2) oM).R ai;refine iK (A:=[]) (uB sizeOf29 pH ac z) (wP (by first|(simp;done)|grind)) fun bg H=>(go4 ?_);refine zL 9 _ [] [(0,.q),(1,.q),(2,.q),(4,.q),(5,.q),(6,.q),(3,.c),(7,.c),(8,.q),(9,.t)] yA nX (by kernel_rfl) nX (fun r hr=>hr) (wX rfl (xB yB pH H) fun bp ap=>(go1 ?_));refine wX rfl (xB zN (Pc.fst pH) D) fun bo ao=>(wX rfl (xB yB pH H) fun bm an=>(go1 ?_));refine wX rfl (xB yB (Pc.snd pH) D) fun bl am=>?_;refine w_c rfl (sC (ev2 rfl rfl) call20 (fun w hs=>zKX hs ap ao oM) fun bn h5 bx Z=>?_);replace Z:=Rp.Is.le Z (Le.t (Le.q (l:=4*m+7) oM));refine w_c rfl (sC (ev2 rfl rfl) call53 (fun w hs=>gX hs an.up am.up oM) fun bk h6 bw U=>?_);replace U:=Rp.Is.le U (Le.q (l:=m+n+2) oM);refine wX rfl (xV (ρ:=(tPl (4*m+7) (m+n+2))) (wG (ps':=[(0,_),(1,_)]) underlying50 mE rfl rfl (bJ underlying50) e4z rfl (yI (wB (yN oM)) (yN oM)) (zH rfl (Pc.fst (Pc.here _)) Z.up (zH rfl (Pc.snd (Pc.here _)) U zW)))) fun bj ak=>?_;have ab:=(Le.p (Le.t (Le.q (l:=4*m+7) oM)) (Le.q (l:=m+n+2) oM)).R ae;refine yO (A:=[_]) rfl (uB sizeOf50 pH ab ak) fun bf ad=>(go8 ?_);refine uR (tU (t:=2) dE mh1 rfl ad) ?_;intro bh aa M;refine yS (fun E S=>yD rfl aa E S) ?_;exact(Rp.Is.cast (Rp.Is.le M (Le.p (Le.t (Le.q (l:=4*m+10) oM)) (Le.q (l:=m+n+10) oM))) (by exact yCH oM hi2 C))
  refine go8 ?_;refine gqL ((i+1),h1) ?_ ?_
  · exact⟨mle,by omega,vG (Q:=fun u=>xC (s.1.at u)=0) hi2 (Classical.not_not.1 C)⟩
  omega
 have ei:i=3:=by omega
 refine go7 ?_;refine lX (xV (ρ:=(tPl 1 1)) (wG (ps':=[]) underlying50 mE rfl rfl (bJ underlying50) trivial rfl (yI (wB (yN dC)) (yN dC)) zW)) fun bi aj=>(yE (A:=[]) (uB sizeOf50 pH ae aj) fun ba O=>(go3 ?_));refine uR (tU (t:=2) dE mh0 rfl O) ?_;intro bd G J;refine yS (fun E S=>yD rfl G E S) ?_;exact(Rp.Is.cast (Rp.Is.le J (Le.p (Le.t (Le.q (l:=4*m+10) oM)) (Le.q (l:=m+n+10) oM))) (by exact zZF fun u hu=>hi2 u oM))
theorem zIK{w0:World}{h0:Mem}(hs:MLe h0 (mem w0)){vx:Value}{x:(List Int)}(rx:(rpS rpI).Is h0 vx x)(hcd0:x.length≤100000):
 Calls Tryz.prog 67 #[vx] w0 (Ret w0 h0 (fun h r=>(rpS rpI).Is h r (zJ8 x x.length))):=by
 refine cb1 20 vx func67 hs ?_;refine go20 ?_;refine xH 3 1 ?_;have M:=RL.nil (ρ:=rpI) (h:=h0);refine gcL (ι:=Nat×List Int×Value×List Value×Mem) (fun(i,D,C,G,ma)=>(MLe h0 ma∧(RL rpI ma G D∧i≤x.length∧D=zJ8 x i),[(0,vx),(3,C),(4,vI (↑x.length-1-↑i))],[.gs 3 1 C D.length G],ma,x.length-i)) (0,[],(.slice none 0 0),[],h0) ?_ ?_ (he:=⟨rfl,rfl,congrArg (fun z=>some (vI z)) oM,trivial⟩)
 · exact⟨mle,M,by omega,rfl⟩
 rintro⟨i,D,C,G,ma⟩ ⟨ai,H,ar,hD⟩
 refine yW ?_;have au:D.length=i:=by rw[hD];exact xL _ _
 refine gc7 (fun ae=>?_) fun ae=>?_
 ·
  refine go8 ?_;refine lX (xI (0:Int) (x.length-1-i) underlying22 ty3 rx) fun ao ac=>(lX (xA ty3 ac) fun an ab=>?_);obtain⟨rfl,aj,ah⟩:=jZ ab;refine zI (zU (ρ:=rpI) (m:=1) (xs:=[(x.getD (x.length-1-i) (0:Int))]) (ps':=[(0,_)]) underlying22 fO rfl rfl rfl wD e2z (zH rfl (Pc.arr (Pc.here _) (0:Int) 0 dC) (jD oM oM) zW) (show 1*1≤16777216 from by decide) nP) rfl rfl rfl ?_
  rintro am aq ⟨ak,rfl,U⟩
  refine zY (A:=[]) (ρ:=rpI) U ?_;intro h1 ad J;refine xK (A:=[]) (zX (ρ:=rpI) (bytes:=8) underlying22 fO rfl rfl rfl rfl nP rfl rfl H.up J bO bO) rfl rfl rfl ?_
  rintro aa ap ⟨Z,rfl,O⟩
  refine go9 ?_;refine gqL ((i+1),(D++[(x.getD (x.length-1-i) (0:Int))]),aa,Z,h1) ?_ ?_ (he:=⟨rfl,rfl,congrArg (fun z=>some (vI z)) oM,trivial⟩)
  · exact⟨mle,O,by omega,by rw[hD];rfl⟩
  omega
 have ei:i=x.length:=by omega
 refine uQ ?_;refine vJ (A:=[]) (ρ:=rpI) H.up ?_;intro h1 ad I;refine zC rfl rfl ?_;exact(Rp.Is.cast I (by rw[hD,ei]))
end Go.Proofs.YtpkaegemlpaenaaGreat
namespace Go.Proofs.YtpkaegemlpaenaaGreat
open Bk Go Tryz
set_option linter.unusedVariables false
set_option linter.unusedSimpArgs false
set_option maxRecDepth 10000
set_option maxHeartbeats 1000000
attribute [local irreducible] GL GC GQ W OpV
theorem zO0{w0:World}{h0:Mem}(hs:MLe h0 (mem w0)){k m n j:Nat}{vs:Value}{s:Sq}(rs:(tSd k m n j).Is h0 vs s)(hcd0:k≤1000)(hcd1:okS s)(hcd2:nmA s):
 Calls Tryz.prog 89 #[vs] w0 (Ret w0 h0 (fun h r=>(rpS rpI).Is h r (bR s s.1.length))):=by
 have dw:=hcd1.1.1.1;have dv:=hcd1.1.1.2;have bd:=lT s;refine cb1 80 vs func89 hs ?_;refine go2 ?_;refine nB rs fun b1 az ai=>(go6 ?_);refine lX (xB uJ (Pc.fst pH) ai) fun dp dr=>(go1 ?_);refine zI (zE9 (ρ:=rpB) (X:=False) (by':=1) s.1.length underlying162 zS3 rfl rfl rfl rfl zNT rfl rfl (by rfl) (by rfl) bO bO) rfl rfl rfl ?_
 rintro br dt ⟨bm,rfl,bc⟩
 refine go5 ?_;refine lX (xB fF pH ai) fun dn ch=>(cL (ev1 rfl) call136 (fun w hs=>zE5 hs ch (by first|omega|exact hcd1.mem) (by first|omega|exact hcd1.mem)) fun dm h1 ea cg=>(cL (ev1 rfl) call135 (fun w hs=>zCT hs cg (by first|omega|exact fun f hf=>(by rw[bd] at hf;rw[zAF hf];exact hcd1.2.1 f hf)) (by first|omega|exact fun f hf=>(by rw[bd] at hf;rw[zAF hf];exact hcd1.2.1 f hf))) fun bq h2 dz cf=>(go6 ?_)));have eb:=zWU hcd1;have hE:∀q,q<(edZ (wZ s)).length→0≤((edZ (wZ s)).getD q e50).1∧((edZ (wZ s)).getD q e50).1<↑s.1.length:=fun q hq=>zPO hcd2 hq;refine go4 ?_;refine gcL (ι:=Nat×List Prop×Value×List Value×Mem) (fun(i,U,C,M,ma)=>(MLe h2 ma∧(RL rpB ma M U∧(i≤(edZ (wZ s)).length∧U.length=s.1.length)∧∀u,u<s.1.length→(U.getD u False↔zFW (edZ (wZ s)) i u)),[(1,vP b1 0),(3,C),(4,bq),(5,vI ↑i)],[.gs 4 1 C U.length M,.var b1 39 az],ma,(edZ (wZ s)).length-i)) (0,(List.replicate s.1.length False),br,bm,h2) ?_ ?_
 · exact⟨mle,bc.up,⟨by omega,List.length_replicate⟩,fun u h=>by rw[zOD h];exact⟨False.elim,fun⟨q,h,_⟩=>by omega⟩⟩
 rintro⟨i,U,C,M,ma⟩ ⟨cu,aj,⟨dx,bi⟩,bh⟩
 refine yW ?_;refine gc9 (fun bg=>?_) fun bg=>?_
 ·
  refine go8 ?_;refine lX (xI e50 i underlying163 eZ cf) fun dl ce=>(lX (xF underlying168 sizeOf3 (Pc.fst pH) ce) fun dk cd=>(lX (xA ty3 cd) fun dj cc=>?_));obtain⟨rfl,cy,cp⟩:=jZ cc;refine gv ((xD (((edZ (wZ s)).getD i e50).1.toNat) mh0 underlying162 sizeOf4 rfl rfl (by(have:=hE i oM;omega)) (by(have:=hE i oM;omega)) nP).cv (show _=zJ 1 C ((((edZ (wZ s)).getD i e50).1.toNat*1+0)) from congrArg (zJ 1 C) (by rfl))) rfl (gJ (A:=[]) (F:=fun c_=>RL rpB ma c_ (U.set (((edZ (wZ s)).getD i e50).1.toNat) True)) (pE sizeOf4 (Pc.arr (Pc.here _) False (((edZ (wZ s)).getD i e50).1.toNat) (by(have:=hE i oM;omega))) rfl nP rfl rfl aj (yC5) rfl) ?_);intro bj bb;refine go8 ?_;refine gqL ((i+1),(U.set (((edZ (wZ s)).getD i e50).1.toNat) True),C,bj,ma) ?_ ?_
  · exact⟨mle,bb,⟨by omega,by rw[lS];exact bi⟩,zP6 bi bh (hE i oM).1 (hE i oM).2⟩
  omega
 have au:∀u,u<s.1.length→(U.getD u False↔zFW (edZ (wZ s)) (edZ (wZ s)).length u):=fun u hu=>by rw[show(edZ (wZ s)).length=i by omega];exact bh u hu
 refine mW ?_;refine xH 3 1 ?_;have ba:=RL.nil (ρ:=rpI) (h:=ma);refine gcL (ι:=Nat×List Int×Value×List Value×Mem) (fun(i,D,H,J,mb)=>(MLe ma mb∧(RL rpI mb J D∧i≤s.1.length∧D=bR s i),[(1,vP b1 0),(3,C),(6,H),(7,vI ↑i)],[.gs 3 1 H D.length J,.gs 4 1 C U.length M,.var b1 39 az],mb,s.1.length-i)) (0,[],(.slice none 0 0),[],ma) ?_ ?_
 · exact⟨mle,ba,by omega,rfl⟩
 rintro⟨i,D,H,J,mb⟩ ⟨ct,I,hi2,hD⟩
 refine yW ?_;have ec:D.length≤i:=by rw[hD];exact zKS s i
 refine go5 ?_;refine lX (xB uJ (Pc.fst pH) ai) fun di dq=>(gc4 (fun bf=>?_) fun bf=>?_)
 ·
  refine go9 ?_;refine gv ((xD i mh1 underlying162 sizeOf4 rfl rfl rfl bO nP).cv (show _=zJ 1 C ((i*1+0)) from congrArg (zJ 1 C) (by rfl))) rfl (zGW (F:=fun v_=>rpB.Is mb v_ (U.getD i False)) (wL ty4 (Pc.arr (Pc.here _) False i bO) rfl nP rfl aj.up rfl) (tW mh1) rfl ?_);intro dh cb;obtain rfl:=zZW cb;refine gc3 (fun ad=>?_) fun ad=>?_
  ·
   refine go9 ?_;refine gqL ((i+1),D,H,J,mb) ?_ ?_
   · exact⟨mle,I,by omega,by rw[hD];exact(if_neg (fun e=>ad ((au i oM).2 e))).symm⟩
   omega
  refine go5 ?_;refine gv (jU mh0 underlying22 rfl) rfl (go5 ?_);refine gcL (ι:=Nat×Mem) (fun(G,mk)=>(MLe mb mk∧(G≤D.length∧cV (zOM s D i) D.length=cV (zOM s D i) G),[(1,vP b1 0),(3,C),(6,H),(7,vI ↑i),(8,vI ↑G)],[.gs 3 1 H D.length J,.gs 4 1 C U.length M,.var b1 39 az],mk,G)) (D.length,mb) ?_ ?_ (he:=e5)
  · exact⟨mle,by omega,rfl⟩
  rintro⟨G,mk⟩ ⟨cq,du,aw⟩
  refine yW ?_;refine go2 ?_;refine zL 19 _ [] [(0,.q),(1,.q),(2,.q),(3,.q),(4,.q),(5,.q),(6,.q),(7,.q),(8,.q),(9,.q),(10,.q),(11,.q),(12,.q),(13,.q),(14,.q),(15,.q),(16,.q),(17,.c),(18,.q)] yA nX (wI (by kernel_rfl)) nX (fun r hr=>hr) (go3 ?_);refine qW ((0:Int)<(↑G:Int)) (fun ab=>?_) (fun ab=>?_)
  ·
   rw[xE ab];refine go1 ?_;refine oX rfl (xB uJ (Pc.fst pH) ai) fun df ca=>(yM rfl rfl rfl (fun h' L' hh hR=>yQ rfl) rfl (oX rfl (xI zT i underlying35 zN ca) fun de bz=>(oX rfl (xA zN bz) fun dd bx=>(go1 ?_))));refine oX rfl (xB uJ (Pc.fst pH) ai) fun dc bw=>(yM rfl rfl rfl (fun h' L' hh hR=>yQ rfl) rfl (yM rfl rfl rfl (fun h' L' hh hR=>yQ rfl) rfl (go1 ?_)));refine yM rfl rfl rfl (fun h' L' hh hR=>(xD (G-1) (hR _ mh0) underlying22 sizeOf3 rfl rfl oM oM nP).cv (show _=zJ 1 H (((G-1)*1+0)) from congrArg (zJ 1 H) (by rfl))) rfl (aH (F:=fun v_=>rpI.Is mk v_ (D.getD (G-1) (0:Int))) rfl rfl rfl (wL ty3 (Pc.arr (Pc.here _) (0:Int) (G-1) oM) rfl nP rfl I.up rfl) (tW mh0) rfl ?_);intro db bv;obtain⟨rfl,cw,co⟩:=jZ bv;refine aH (F:=fun v_=>AtP (tPt k) mk v_ (s.1.getD ((D.getD (G-1) 0).toNat) zT)) rfl rfl rfl (bN zT ((D.getD (G-1) 0).toNat) underlying35 zN rfl rfl bw (by(have:=oJ (s:=s) (i:=i) (k:=G-1) (by rw[←hD];omega);rw[←hD] at this;omega)) (by(have:=oJ (s:=s) (i:=i) (k:=G-1) (by rw[←hD];omega);rw[←hD] at this;omega)) nP) zC6 rfl ?_;intro da bu;refine oX rfl (xA zN bu) fun cz bt=>?_;refine w_c rfl (t7 rfl rfl (sC (ev2 rfl rfl) call137 (fun w hs=>zR6 hs bx bt oM oM) fun bp h3 be bs=>?_));obtain rfl:bp=vB (lsP (s.1.getD i zT) (s.1.getD ((D.getD (G-1) 0).toNat) zT)):=bs;refine gc3 (fun ac=>?_) fun ac=>?_
   ·
    refine go9 ?_;refine gqL ((G-1),h3) ?_ ?_ (he:=⟨rfl,rfl,rfl,rfl,congrArg (fun z=>some (vI z)) oM,trivial⟩)
    · exact⟨mle,by omega,by rw[aw];exact zL0 oM ac⟩
    omega
   refine go8 ?_;refine zI (zU (ρ:=rpI) (m:=1) (xs:=[(0:Int)]) (ps':=[(0,_)]) underlying22 fO rfl rfl rfl wD e2z (zH rfl (Pc.arr (Pc.here _) (0:Int) 0 dC) (jD dC dC) zW) (show 1*1≤16777216 from by decide) nP) rfl rfl rfl ?_
   rintro bo ck ⟨bl,rfl,ah⟩
   refine zY (A:=[]) (ρ:=rpI) ah ?_;intro h4 dy an;refine xK (A:=[]) (zX (ρ:=rpI) (bytes:=8) underlying22 fO rfl rfl rfl rfl nP rfl rfl I.up an bO bO) rfl rfl rfl ?_
   rintro O cj ⟨bk,rfl,ae⟩
   refine go4 ?_;refine bY (A:=[]) (by rw[lAz];exact Nat.succ_pos _) (fun ob cn Z aa=>?_);refine qT (A:=[]) 8 [] [(0,.q),(1,.q),(2,.q),(3,.q),(4,.q),(5,.q),(6,.q),(7,.c)] yA nX (by kernel_rfl) nX (go3 ?_);refine xN rfl (fun _ _=>qH (G+1) underlying22 sizeOf3 rfl rfl ⟨_,_,Z,aa⟩ oM (by simp only[lAz,lC,lN];omega)) rfl (go2 ?_);refine xN rfl (fun _ _=>qH G underlying22 sizeOf3 rfl rfl ⟨_,_,Z,aa⟩ oM (by simp only[lAz,lC,lN];omega)) rfl ?_;refine w_c rfl (rQ (A:=[]) (fun X=>lF (ρ:=rpI) G Z aa underlying22 sizeOf3 rfl rfl (by simp only[lAz,lC,lN];omega) ae) rfl (wP (by first|(simp;done)|grind)) ?_)
   rintro bn ci ⟨cm,rfl,ar⟩
   refine go6 ?_;refine gv ((xD G mh0 underlying22 sizeOf3 rfl rfl oM (by rw[gA (by simp only[lAz,lC,lN];omega)];simp only[lAz,lC,lN];omega) nP).cv (show _=zJ 1 O ((G*1+0)) from congrArg (zJ 1 O) (by rfl))) rfl (gJ (A:=[]) (F:=fun c_=>RL rpI h4 c_ ((fZ (D++[(0:Int)]) G).set G (↑i:Int))) (pE sizeOf3 (Pc.arr (Pc.here _) (0:Int) G (by rw[gA (by simp only[lAz,lC,lN];omega)];simp only[lAz,lC,lN];omega)) rfl nP rfl rfl ar (jD oM oM) rfl) ?_);intro ay aq;refine go8 ?_;refine gqL ((i+1),((fZ (D++[(0:Int)]) G).set G (↑i:Int)),O,ay,h4) ?_ ?_
   · exact⟨mle,aq,by omega,by rw[lD oM];have av:cV (zOM s D i) D.length=G:=by{rw[aw];exact zDS (fun e=>by first|omega|exact ac e.2)};rw[←av,hD];exact(if_pos ((au i oM).1 (Classical.not_not.1 ad))).symm⟩
   omega
  rw[yJ ab];refine tG ?_;refine w_c rfl (lE rfl rfl rfl rfl (uQ ?_));refine zI (zU (ρ:=rpI) (m:=1) (xs:=[(0:Int)]) (ps':=[(0,_)]) underlying22 fO rfl rfl rfl wD e2z (zH rfl (Pc.arr (Pc.here _) (0:Int) 0 dC) (jD dC dC) zW) (show 1*1≤16777216 from by decide) nP) rfl rfl rfl ?_
  rintro bo ck ⟨bl,rfl,ah⟩
  refine zY (A:=[]) (ρ:=rpI) ah ?_;intro h3 be am;refine xK (A:=[]) (zX (ρ:=rpI) (bytes:=8) underlying22 fO rfl rfl rfl rfl nP rfl rfl I.up am bO bO) rfl rfl rfl ?_
  rintro O cj ⟨bk,rfl,ae⟩
  refine go4 ?_;refine bY (A:=[]) (by rw[lAz];exact Nat.succ_pos _) (fun ob cn Z aa=>?_);refine qT (A:=[]) 8 [] [(0,.q),(1,.q),(2,.q),(3,.q),(4,.q),(5,.q),(6,.q),(7,.c)] yA nX (by kernel_rfl) nX (go3 ?_);refine xN rfl (fun _ _=>qH (G+1) underlying22 sizeOf3 rfl rfl ⟨_,_,Z,aa⟩ oM (by simp only[lAz,lC,lN];omega)) rfl (go2 ?_);refine xN rfl (fun _ _=>qH G underlying22 sizeOf3 rfl rfl ⟨_,_,Z,aa⟩ oM (by simp only[lAz,lC,lN];omega)) rfl ?_;refine w_c rfl (rQ (A:=[]) (fun X=>lF (ρ:=rpI) G Z aa underlying22 sizeOf3 rfl rfl (by simp only[lAz,lC,lN];omega) ae) rfl (wP (by first|(simp;done)|grind)) ?_)
  rintro bn ci ⟨cl,rfl,ap⟩
  refine go6 ?_;refine gv ((xD G mh0 underlying22 sizeOf3 rfl rfl oM (by rw[gA (by simp only[lAz,lC,lN];omega)];simp only[lAz,lC,lN];omega) nP).cv (show _=zJ 1 O ((G*1+0)) from congrArg (zJ 1 O) (by rfl))) rfl (gJ (A:=[]) (F:=fun c_=>RL rpI h3 c_ ((fZ (D++[(0:Int)]) G).set G (↑i:Int))) (pE sizeOf3 (Pc.arr (Pc.here _) (0:Int) G (by rw[gA (by simp only[lAz,lC,lN];omega)];simp only[lAz,lC,lN];omega)) rfl nP rfl rfl ap (jD oM oM) rfl) ?_);intro ax ao;refine go8 ?_;refine gqL ((i+1),((fZ (D++[(0:Int)]) G).set G (↑i:Int)),O,ax,h3) ?_ ?_
  · exact⟨mle,ao,by omega,by rw[lD oM];have av:cV (zOM s D i) D.length=G:=by{rw[aw];exact zDS (fun e=>by first|omega|exact ac e.2)};rw[←av,hD];exact(if_pos ((au i oM).1 (Classical.not_not.1 ad))).symm⟩
  omega
 have ei:i=s.1.length:=by omega
 refine uQ ?_;refine vJ (A:=[]) (ρ:=rpI) I.up ?_;intro h3 be ak;refine zC rfl rfl ?_;exact(Rp.Is.cast ak (by rw[hD,ei]))
end Go.Proofs.YtpkaegemlpaenaaGreat
namespace Go.Proofs.YtpkaegemlpaenaaGreat
open Bk Go Tryz
set_option linter.unusedVariables false
set_option linter.unusedSimpArgs false
set_option maxRecDepth 10000
set_option maxHeartbeats 1000000
attribute [local irreducible] GL GC GQ W OpV
theorem zCV{w0:World}{h0:Mem}(hs:MLe h0 (mem w0)){k m n j:Nat}{vs:Value}{s:Sq}(rs:(tSd k m n j).Is h0 vs s){f:Nat}{vix:Value}{ix:(List Int)}(rix:(rpS rpI).Is h0 vix ix)(hcd0:k≤1000)(hcd1:m≤100000)(hcd2:n≤100000)(hcd3:okS s)(hcd4:f<s.2.1.length)(hcd5:nmP s f)(hcd6:ix.length=s.1.length):
 Calls Tryz.prog 90 #[vs,vI ↑f,vix] w0 (Ret w0 h0 (fun h r=>(tFc (4*m+11) (m+n+11)).Is h r (nfF s ix f))):=by
 have hz:=hcd3.1.1.1;have hy:=hcd3.1.1.2;have es:=zBR s f;have ig:=yAU hcd4 hcd5;have ci:=hcd3.2.1 f hcd4;have ev:=nC (s:=s) (f:=↑f) hcd3.2.1;refine cb3 121 vs (vI ↑f) vix func90 hs ?_;refine go2 ?_;refine nB rs fun b3 ar aj=>(nA (ρ:=(tFc 1 1)) (X:=((zT,(0:Rat)),([],([]:List Nat)))) kU (yI (yI (wB (yN dC)) (yN dC)) (yI uV tS)) fun b6 aq db=>(go4 ?_));refine lX (xB fF pH aj) fun ho en=>(go1 ?_);refine cL (ev2 rfl rfl) call111 (fun w hs=>zIL (f:=f) hs en oM oM oM (by first|omega|exact hcd3.big) (by first|omega|exact hcd3.big) (by first|omega|exact hcd3.big) (by first|omega|exact hcd3.big)) fun an h1 ie em=>(go4 ?_);refine zL 15 _ [(14,(8,53,[.bool false,.slice none 0 0,.slice none 0 0,.bool false,.slice none 0 0,.slice none 0 0,.bool false,.slice none 0 0,.slice none 0 0,.bool false,.slice none 0 0,.slice none 0 0,.slice none 0 0,.string ⟨#[]⟩]))] [(0,.q),(1,.q),(2,.q),(3,.q),(4,.q),(5,.q),(7,.q),(8,.q),(9,.q),(10,.q),(11,.q),(12,.q),(6,.c),(13,.q),(14,.a),(15,.t)] yA (kW.cons rfl rfl (jK kU rfl rfl) kW.nil) (wI (by kernel_rfl)) (jM rfl rfl sQ) (fun r hr=>hr) (go1 ?_);refine wX rfl (xB tT (Pc.snd (Pc.fst pH)) aj) fun hn el=>(go1 ?_);refine wX rfl (xI zA f underlying36 bG el) fun hm ek=>(wX rfl (xF underlying53 sizeOf50 (Pc.fst pH) ek) fun hl ej=>(wX rfl (xA dE ej) fun hk eh=>(go1 ?_)));refine wX rfl (xB tT (Pc.snd (Pc.fst pH)) aj) fun hf ef=>(go1 ?_);refine wX rfl (xI zA f underlying36 bG ef) fun hd ee=>(wX rfl (xF underlying53 sizeOf9 (Pc.snd (Pc.snd pH)) ee) fun hc ed=>(wX rfl (xA ty9 ed) fun hb ec=>?_));obtain⟨rfl,co⟩:=kJ ec;refine w_c rfl (sC (ev1 rfl) call66 (fun w hs=>zOY hs eh oM oM) fun hj h2 id eg=>(wX rfl (xV (ρ:=(rpP (tPl (4*m+10) (m+n+10)) (rpP rpV kF))) (wG (ps':=[(0,_),(2,_)]) underlying53 kU rfl rfl (lI underlying53) e4z rfl (yI (yI (wB (yN oM)) (yN oM)) (yI pV tS)) (zH rfl (Pc.fst (Pc.here _)) eg (zH rfl (Pc.snd (Pc.snd (Pc.here _))) (bV co) zW)))) fun ha eb=>?_));refine w_a rfl rfl (fun b8=>?_);have da:(rpP (tPl 1 1) (rpP rpV kF)).R h2 [.bool false,.slice none 0 0,.slice none 0 0,.bool false,.slice none 0 0,.slice none 0 0,.bool false,.slice none 0 0,.slice none 0 0,.bool false,.slice none 0 0,.slice none 0 0,.slice none 0 0,.string ⟨#[]⟩] ((zT,(0:Rat)),((Value.slice none 0 0),([]:List Nat))):=(yI (yI (wB (yN dC)) (yN dC)) (yI pV tS));have bw:=(Le.p (Le.p (Le.t (Le.q (l:=4*m+10) oM)) (Le.q (l:=m+n+10) oM)) (Le.refl _)).R da;refine yO (A:=[]) rfl (uB sizeOf53 pH bw eb) fun cp ce=>(tG ?_);refine xH 22 1 ?_;have bz:=RL.nil (ρ:=rpS rpI) (h:=h2);refine xH 22 1 ?_;have bx:=RL.nil (ρ:=rpS rpI) (h:=h2);refine gcL (ι:=Nat×List (List Int)×List (List Int)×List Value×Value×List Value×Value×List Value×Mem) (fun(i,D,G,O,C,J,H,I,ma)=>(MLe h2 ma∧((rpP (tPl (4*m+11) (m+n+11)) (rpP rpV kF)).R ma O (scZ (s.2.1.getD f zA).1,(H,(s.2.1.getD f zA).2.2))∧RL (rpS rpI) ma J D∧RL (rpS rpI) ma I G∧H.oneCell'=true∧i≤(s.2.1.getD f zA).2.1.length∧D=zBE s ix f i∧G=ouL s ix f i),[(1,vI ↑f),(2,vix),(3,vP b3 0),(6,vP b6 0),(7,an),(8,vP b8 0),(9,C),(10,vI ↑i)],[.gs 22 1 H G.length I,.gs 22 1 C D.length J,.var b8 53 O,.var b6 53 aq,.var b3 39 ar],ma,(s.2.1.getD f zA).2.1.length-i)) (0,[],[],cp,(.slice none 0 0),[],(.slice none 0 0),[],h2) ?_ ?_
 · exact⟨mle,((Le.p (Le.p (Le.t (Le.q (l:=4*m+11) oM)) (Le.q (l:=m+n+11) oM)) (Le.refl _)).R ce),bz,bx,rfl,by omega,rfl,rfl⟩
 rintro⟨i,D,G,O,C,J,H,I,ma⟩ ⟨fs,aa,Z,ac,bo,ia,hD,hG⟩
 refine yW ?_;have ij:D.length≤i:=by rw[hD];exact zLP s ix f i
 have ih:G.length≤i:=by rw[hG];exact rO _ _ i
 refine gc9 (fun cn=>?_) fun cn=>?_
 ·
  refine iX ?_;refine xH 3 1 ?_;have bf:=RL.nil (ρ:=rpI) (h:=ma);refine gcL (ι:=Nat×List Int×Value×List Value×Mem) (fun(q,EL,U,ae,mb)=>(MLe ma mb∧(RL rpI mb ae EL∧q≤((s.2.1.getD f zA).2.1.getD i []).length∧EL=nwL s ix f i q),[(1,vI ↑f),(2,vix),(3,vP b3 0),(6,vP b6 0),(7,an),(8,vP b8 0),(9,C),(10,vI ↑i),(11,U),(12,vI ↑q)],[.gs 3 1 U EL.length ae,.gs 22 1 H G.length I,.gs 22 1 C D.length J,.var b8 53 O,.var b6 53 aq,.var b3 39 ar],mb,((s.2.1.getD f zA).2.1.getD i []).length-q)) (0,[],(.slice none 0 0),[],ma) ?_ ?_
  · exact⟨mle,bf,by omega,rfl⟩
  rintro⟨q,EL,U,ae,mb⟩ ⟨fr,ai,hw,hE⟩
  refine yW ?_;have ii:EL.length=q:=by rw[hE];exact xL _ _
  have ch:=ci.2 i oM;refine go5 ?_;refine lX (xB tT (Pc.snd (Pc.fst pH)) aj) fun gz ea=>(go1 ?_);refine lX (xI zA f underlying36 bG ea) fun gy dz=>(lX (xF underlying53 sizeOf51 (Pc.snd (Pc.fst pH)) dz) fun gx dy=>(lX (xA cK dy) fun gw dx=>(go1 ?_)));refine lX (xI [] i underlying51 fG dx) fun gu dw=>(lX (xA fG dw) fun gt hp=>(gc4 (fun cm=>?_) fun cm=>?_))
  ·
   refine go8 ?_;refine lX (xB tT (Pc.snd (Pc.fst pH)) aj) fun gr dv=>(go1 ?_);refine lX (xI zA f underlying36 bG dv) fun gq du=>(lX (xF underlying53 sizeOf51 (Pc.snd (Pc.fst pH)) du) fun go dt=>(lX (xA cK dt) fun gn dr=>(go1 ?_)));refine lX (xI [] i underlying51 fG dr) fun gm dq=>(lX (xA fG dq) fun gk dp=>(go1 ?_));refine lX (xI (0:Int) q underlying22 ty3 dp) fun gj dn=>(lX (xA ty3 dn) fun gh dm=>?_);obtain⟨rfl,fu,fo⟩:=jZ dm;refine zGW (F:=fun v_=>AtP rpI mb v_ (ix.getD ((((s.2.1.getD f zA).2.1.getD i []).getD q 0).toNat) (0:Int))) (bN (0:Int) ((((s.2.1.getD f zA).2.1.getD i []).getD q 0).toNat) underlying22 ty3 rfl rfl rix.up (by(have:=hcd5 i oM q oM;omega)) (by(have:=hcd5 i oM q oM;omega)) nP) zC6 rfl ?_;intro gg dl;refine lX (xA ty3 dl) fun gf dk=>?_;obtain⟨rfl,ft,fm⟩:=jZ dk;refine zI (zU (ρ:=rpI) (m:=1) (xs:=[(ix.getD ((((s.2.1.getD f zA).2.1.getD i []).getD q 0).toNat) (0:Int))]) (ps':=[(0,_)]) underlying22 fO rfl rfl rfl wD e2z (zH rfl (Pc.arr (Pc.here _) (0:Int) 0 dC) (jD oM oM) zW) (show 1*1≤16777216 from by decide) nP) rfl rfl rfl ?_
   rintro ge hv ⟨fw,rfl,cd⟩
   refine zY (A:=[]) (ρ:=rpI) cd ?_;intro h3 cl bb;refine xK (A:=[]) (qP (zX (ρ:=rpI) (bytes:=8) underlying22 fO rfl rfl rfl rfl nP rfl rfl ai.up bb bO bO)) rfl rfl rfl ?_
   rintro cz hu ⟨fp,ct,rfl,cc⟩
   refine go9 ?_;refine gqL ((q+1),(EL++[(ix.getD ((((s.2.1.getD f zA).2.1.getD i []).getD q 0).toNat) (0:Int))]),cz,ct,h3) ?_ ?_
   · exact⟨mle,cc,by omega,by rw[hE];rfl⟩
   omega
  have eq:q=((s.2.1.getD f zA).2.1.getD i []).length:=by omega
  have ch:=ci.2 i oM;refine go8 ?_;refine zY (A:=[]) (ρ:=rpI) ai.up ?_;intro h3 cl ba;refine cL (ev1 rfl) call138 (fun w hs=>zKY hs ba oM) fun bv h4 ck ak=>?_;replace ak:=Rp.Is.cast (y:=(nfL s ix f i)) ak (by rw[hE,eq];rfl);refine go8 ?_;refine lX (xI [] i underlying76 uJ em) fun gc dj=>(lX (xA uJ dj) fun gb di=>(cL (ev1 rfl) call131 (fun w hs=>rK hs di oM (by first|omega|(have:=ev.2 i;rw[←es.2 i] at this;omega))) fun ga h5 ic dh=>(cL (ev1 rfl) call48 (fun w hs=>qF hs dh dC) fun cy h6 ib df=>?_)));obtain rfl:cy=vI (xC (uT ((fT s f).getD i []) 0 1 ((fT s f).getD i []).length)):=df;have eo:=yY (uT ((fT s f).getD i []) 0 1 ((fT s f).getD i []).length);refine gc3 (fun ab=>?_) fun ab=>?_
  ·
   refine go3 ?_;refine lX (bM (xB cK (Pc.snd (Pc.fst pH)) aa)) fun fz de=>?_;subst de;refine go1 ?_;refine zI (zU (ρ:=(rpS rpI)) (m:=1) (xs:=[(nfL s ix f i)]) (ps':=[(0,_)]) underlying51 jP rfl rfl rfl uV e2z (zH rfl (Pc.arr (Pc.here _) [] 0 dC) ak.up zW) (show 1*1≤16777216 from by decide) nP) rfl rfl rfl ?_
   rintro fy ht ⟨fv,rfl,cb⟩
   refine zY (A:=[]) (ρ:=(rpS rpI)) cb ?_;intro h7 bq az;refine xK (A:=[]) (qP (zX (ρ:=(rpS rpI)) (bytes:=24) underlying51 jP rfl rfl rfl rfl nP rfl rfl ac.up az bO bO)) rfl rfl rfl ?_
   rintro cw hq ⟨au,cq,rfl,ca⟩
   refine go1 ?_;refine yE (A:=[_,_]) (uB sizeOf51 (Pc.snd (Pc.fst pH)) aa (zAH au)) fun bt bl=>(qA ?_);refine gqL ((i+1),D,(G++[(nfL s ix f i)]),bt,C,J,cw,cq,h7) ?_ ?_
   · exact⟨mle,bl,Z.up,ca,au,by omega,by rw[hD];exact(if_pos ab).symm,by rw[hG];exact dT (p:=zH4 s f) ab⟩
   omega
  refine go5 ?_;refine gv (jU mh1 underlying51 rfl) rfl (go5 ?_);refine gcL (ι:=Nat×Mem) (fun(M,mk)=>(MLe h6 mk∧(M≤D.length∧cV (zWJ (nfL s ix f i) D) D.length=cV (zWJ (nfL s ix f i) D) M),[(1,vI ↑f),(2,vix),(3,vP b3 0),(6,vP b6 0),(7,an),(8,vP b8 0),(9,C),(10,vI ↑i),(11,bv),(13,vI ↑M)],[.gs 22 1 H G.length I,.gs 22 1 C D.length J,.var b8 53 O,.var b6 53 aq,.var b3 39 ar],mk,M)) (D.length,h6) ?_ ?_
  · exact⟨mle,by omega,rfl⟩
  rintro⟨M,mk⟩ ⟨fq,hx,cj⟩
  refine yW ?_;refine go5 ?_;refine uS (ι:=Mem) 10 (fun m_=>MLe mk m_) (fun _=>[(97,vB (((0:Int)<(↑M:Int))∧((cI (nfL s ix f i) (D.getD (M-1) []))<(0:Int)))),(1,vI ↑f),(2,vix),(3,vP b3 0),(6,vP b6 0),(7,an),(8,vP b8 0),(9,C),(10,vI ↑i),(11,bv),(13,vI ↑M)]) (fun _=>[.gs 22 1 H G.length I,.gs 22 1 C D.length J,.var b8 53 O,.var b6 53 aq,.var b3 39 ar]) (fun m_=>m_) ?_ ?_
  ·
   refine zS ((0:Int)<(↑M:Int)) (fun hg=>?_) (fun hg=>?_)
   ·
    refine gT hg rfl (go9 ?_);refine gv ((xD (M-1) mh1 underlying51 sizeOf22 rfl rfl oM oM nP).cv (show _=zJ 1 C (((M-1)*1+0)) from congrArg (zJ 1 C) (by rfl))) rfl (go1 ?_);refine zGW (F:=fun v_=>(rpS rpI).Is mk v_ (D.getD (M-1) [])) (wL fG (Pc.arr (Pc.here _) [] (M-1) oM) rfl nP rfl Z.up rfl) (tW mh1) rfl ?_;intro fx dd;refine go1 ?_;refine cL (ev2 rfl rfl) call139 (fun w hs=>zA3 hs ak.up dd) fun cu h7 bq dc=>?_;obtain rfl:cu=vI (cI (nfL s ix f i) (D.getD (M-1) [])):=dc;have eu:=iY (nfL s ix f i) (D.getD (M-1) []);refine go4 ?_;refine zQ h7 bq ⟨?_,rfl,rfl,rfl,rfl,rfl,rfl,rfl,rfl,rfl,rfl,trivial⟩ rfl rfl;exact congrArg some (yU hg)
   refine gF hg rfl (uA ?_);refine zQ mk (MLe.refl _) ⟨?_,rfl,rfl,rfl,rfl,rfl,rfl,rfl,rfl,rfl,rfl,trivial⟩ rfl rfl;exact congrArg some (yV hg)
  intro ao bu;refine sE ?_;refine gc2 (fun am=>?_) fun am=>?_
  ·
   refine go9 ?_;refine gqL ((M-1),ao) ?_ ?_ (he:=⟨rfl,rfl,rfl,rfl,rfl,rfl,rfl,rfl,rfl,congrArg (fun z=>some (vI z)) oM,trivial⟩)
   · exact⟨mle,by omega,by rw[cj];exact zL0 oM am.2⟩
   omega
  refine go8 ?_;refine zI (zU (ρ:=(rpS rpI)) (m:=1) (xs:=[[]]) (ps':=[(0,_)]) underlying51 jP rfl rfl rfl uV e2z (zH rfl (Pc.arr (Pc.here _) [] 0 dC) (mD _) zW) (show 1*1≤16777216 from by decide) nP) rfl rfl rfl ?_
  rintro fh fl ⟨fb,rfl,bi⟩
  refine zY (A:=[]) (ρ:=(rpS rpI)) bi ?_;intro h7 bq ay;refine xK (A:=[_]) (qP (zX (ρ:=(rpS rpI)) (bytes:=24) underlying51 jP rfl rfl rfl rfl nP rfl rfl Z.up ay bO bO)) rfl rfl rfl ?_
  rintro ah fk ⟨ep,fa,rfl,bh⟩
  refine go4 ?_;refine bY (A:=[_]) (by rw[lAz];exact Nat.succ_pos _) (fun ob ik bm bn=>?_);refine qT (A:=[_]) 8 [] [(0,.q),(1,.q),(2,.q),(3,.q),(4,.q),(5,.q),(6,.q),(7,.c)] yA nX (by kernel_rfl) nX (go3 ?_);refine xN rfl (fun _ _=>qH (M+1) underlying51 sizeOf22 rfl rfl ⟨_,_,bm,bn⟩ oM (by simp only[lAz,lC,lN];omega)) rfl (go2 ?_);refine xN rfl (fun _ _=>qH M underlying51 sizeOf22 rfl rfl ⟨_,_,bm,bn⟩ oM (by simp only[lAz,lC,lN];omega)) rfl ?_;refine w_c rfl (rQ (A:=[_]) (fun X=>lF (ρ:=(rpS rpI)) M bm bn underlying51 sizeOf22 rfl rfl (by simp only[lAz,lC,lN];omega) bh) rfl (wP (by first|(simp;done)|grind)) ?_)
  rintro fg fj ⟨ey,rfl,be⟩
  refine go6 ?_;refine gv ((xD M mh1 underlying51 sizeOf22 rfl rfl oM (by rw[gA (by simp only[lAz,lC,lN];omega)];simp only[lAz,lC,lN];omega) nP).cv (show _=zJ 1 ah ((M*1+0)) from congrArg (zJ 1 ah) (by rfl))) rfl (gJ (A:=[_]) (F:=fun c_=>RL (rpS rpI) h7 c_ ((fZ (D++[[]]) M).set M (nfL s ix f i))) (pE sizeOf22 (Pc.arr (Pc.here _) [] M (by rw[gA (by simp only[lAz,lC,lN];omega)];simp only[lAz,lC,lN];omega)) rfl nP rfl rfl be ak.up rfl) ?_);intro bs bd;refine go8 ?_;refine gqL ((i+1),((fZ (D++[[]]) M).set M (nfL s ix f i)),G,O,ah,bs,H,I,h7) ?_ ?_
  · exact⟨mle,aa.up,bd,ac.up,bo,by omega,by rw[lD oM];have er:cV (zWJ (nfL s ix f i) D) D.length=M:=by{rw[cj];exact zDS (fun e=>am ⟨by omega,e.2⟩)};rw[←er,hD];exact(if_neg ab).symm,by rw[hG];exact dU (p:=zH4 s f) ab⟩
  omega
 have ei:i=(s.2.1.getD f zA).2.1.length:=by omega
 refine go8 ?_;refine lX (bM (xB cK (Pc.snd (Pc.fst pH)) aa)) fun ff cg=>?_;subst cg;refine go1 ?_;refine zY (A:=[_]) (ρ:=(rpS rpI)) Z.up ?_;intro h3 cl ax;refine xK (A:=[]) (qP (zX (ρ:=(rpS rpI)) (bytes:=24) underlying51 jP rfl rfl rfl rfl nP rfl rfl ac.up ax bO bO)) rfl rfl rfl ?_
 rintro fe fi ⟨bp,ez,rfl,bg⟩
 refine go1 ?_;refine yE (A:=[_]) (uB sizeOf51 (Pc.snd (Pc.fst pH)) aa (zAH bp)) fun br ad=>(go4 ?_);refine zY (A:=[]) (ρ:=(rpS rpI)) bg ?_;intro h4 ck aw;replace ad:=ad.mono ck;have bk:(tFc (4*m+11) (m+n+11)).R h4 br ((scZ (s.2.1.getD f zA).1,(H,(s.2.1.getD f zA).2.2)).1,((G++D),((scZ (s.2.1.getD f zA).1,(H,(s.2.1.getD f zA).2.2)).2).2)):=zJV ad aw;refine lX (xB bG pH bk) fun fd cf=>?_;have av:=(Le.p (Le.p (Le.t (Le.q (l:=4*m+11) oM)) (Le.q (l:=m+n+11) oM)) (Le.refl _)).R db;refine yE (A:=[_]) (uB sizeOf53 pH av cf) fun ew bj=>(go3 ?_);refine uR (tU (t:=6) bG mh1 rfl bj) ?_;intro fc ap bc;refine yS (fun E S=>yD rfl ap E S) ?_;exact(Rp.Is.cast bc (by rw[hD,hG,ei];rfl))
end Go.Proofs.YtpkaegemlpaenaaGreat
namespace Go.Proofs.YtpkaegemlpaenaaGreat
open Bk Go Tryz
set_option linter.unusedVariables false
set_option linter.unusedSimpArgs false
set_option maxRecDepth 10000
set_option maxHeartbeats 1000000
attribute [local irreducible] GL GC GQ W OpV
theorem zOX{w0:World}{h0:Mem}(hs:MLe h0 (mem w0)){k m n j:Nat}{vs:Value}{s:Sq}(rs:(tSd k m n j).Is h0 vs s)(hcd0:s.2.1.length≤100000):
 Calls Tryz.prog 141 #[vs] w0 (Ret w0 h0 (fun h r=>(rpS tE5).Is h r (szZ s))):=by
 refine cb1 52 vs func141 hs ?_;refine go2 ?_;refine nB rs fun b1 aq I=>(rV ?_);refine xH 200 5 ?_;have ae:=RL.nil (ρ:=rpP rpI (rpP rpI (rpP rpI (rpP rpI rpI)))) (h:=h0);refine gcL (ι:=Nat×List (Int×Int×Int×Int×Int)×Value×List Value×Mem) (fun(f,D,C,G,mf)=>(MLe h0 mf∧(RL tE5 mf G D∧f≤s.2.1.length∧D=zYT s f),[(1,vP b1 0),(3,C),(4,vI ↑f)],[.gs 200 5 C D.length G,.var b1 39 aq],mf,s.2.1.length-f)) (0,[],(.slice none 0 0),[],h0) ?_ ?_
 · exact⟨mle,ae,by omega,rfl⟩
 rintro⟨f,D,C,G,mf⟩ ⟨bh,H,cg,hD⟩
 refine yW ?_;have ch:D.length≤f:=by rw[hD];exact rO _ _ f
 refine go5 ?_;refine lX (xB tT (Pc.snd (Pc.fst pH)) I) fun v7 r7=>(gc4 (fun bg=>?_) fun bg=>?_)
 ·
  refine go7 ?_;refine lX (xB tT (Pc.snd (Pc.fst pH)) I) fun bx be=>(go1 ?_);refine lX (xI zA f underlying36 bG be) fun bw bd=>(lX (xF underlying53 sizeOf51 (Pc.snd (Pc.fst pH)) bd) fun bv bc=>(lX (xA cK bc) fun bu bb=>(cL (ev1 rfl) call178 (fun w hs=>oL hs bb) fun av h1 an ba=>?_)));obtain rfl:av=vB (vfP (((s.2.1.getD f zA).2).1)):=ba;refine go1 ?_;refine uS (ι:=Mem) 6 (fun m_=>MLe h1 m_) (fun _=>[(25,vB ((¬(vfP (((s.2.1.getD f zA).2).1)))∨(¬(nmP s (↑f:Int).toNat)))),(1,vP b1 0),(3,C),(4,vI ↑f)]) (fun _=>[.gs 200 5 C D.length G,.var b1 39 aq]) (fun m_=>m_) ?_ ?_
  ·
   refine zS (¬(vfP (((s.2.1.getD f zA).2).1))) (fun z=>?_) (fun z=>?_)
   ·
    refine gT z rfl (go6 ?_);refine zQ h1 (MLe.refl _) ⟨?_,rfl,rfl,rfl,trivial⟩ rfl rfl;exact congrArg some (wU z)
   refine gF z rfl (go1 ?_);refine lX (xB fF pH I) fun bt az=>(go3 ?_);refine cL (ev2 rfl rfl) call158 (fun w hs=>zE4 hs az oM oM oM (by first|omega|exact Nat.le_trans (Classical.not_not.1 z).1.2 dC|exact fun l hl=>Nat.le_trans ((Classical.not_not.1 z).2 l hl).1.2 dC) (by first|omega|exact Nat.le_trans (Classical.not_not.1 z).1.2 dC|exact fun l hl=>Nat.le_trans ((Classical.not_not.1 z).2 l hl).1.2 dC) (by first|omega|exact Nat.le_trans (Classical.not_not.1 z).1.2 dC|exact fun l hl=>Nat.le_trans ((Classical.not_not.1 z).2 l hl).1.2 dC)) fun au h2 U ay=>?_;obtain rfl:au=vB (nmP s (↑f:Int).toNat):=ay;refine go4 ?_;refine zQ h2 U ⟨?_,rfl,rfl,rfl,trivial⟩ rfl rfl;exact congrArg some (wV z)
  intro M am;refine sE ?_;refine gc2 (fun J=>?_) fun J=>?_
  ·
   have O:szP s f:=J;refine go3 ?_;refine cL (vs:=[vI (1),_,vI (-1),vI (-1)]) e4z call179 (fun w hs=>iS hs dC dC oM oM dC dC dC dC) fun bs h2 U ax=>(zI (zU (ρ:=tE5) (m:=1) (xs:=[dg (1:Int) (↑f:Int) (-1:Int) (-1:Int)]) (ps':=[(0,_)]) underlying133 qQ rfl rfl rfl (yI wD (yI wD (yI wD (yI wD wD)))) e2z (zH rfl (Pc.arr (Pc.here _) e50 0 dC) ax zW) (show 1*5≤16777216 from by decide) nP) rfl rfl rfl ?_)
   rintro br cf ⟨bk,rfl,ak⟩
   refine zY (A:=[]) (ρ:=tE5) ak ?_;intro h3 bf ad;refine xK (A:=[]) (zX (ρ:=tE5) (bytes:=40) underlying133 qQ rfl rfl rfl rfl nP rfl rfl H.up ad bO bO) rfl rfl rfl ?_
   rintro ar ce ⟨ap,rfl,aj⟩
   refine go9 ?_;refine gqL ((f+1),(D++[dg (1:Int) (↑f:Int) (-1:Int) (-1:Int)]),ar,ap,h3) ?_ ?_
   · exact⟨mle,aj,by omega,by rw[hD];exact dT O⟩
   omega
  have O:¬szP s f:=J;refine go8 ?_;refine gqL ((f+1),D,C,G,M) ?_ ?_
  · exact⟨mle,H.up,by omega,by rw[hD];exact dU O⟩
  omega
 have ef:f=s.2.1.length:=by omega
 refine go9 ?_;refine lX (xB uJ (Pc.fst pH) I) fun bq cb=>(go2 ?_);refine gU 6 40 (vB (((512:Int)<(↑(s.1).length:Int))∨((256:Int)<(↑(s.2.1).length:Int)))) ?_ ?_
 ·
  refine zS ((512:Int)<(↑(s.1).length:Int)) (fun z=>?_) (fun z=>?_)
  ·
   refine gT z rfl (go6 ?_);refine gqU ?_;exact congrArg some (wU z)
  refine gF z rfl (go3 ?_);refine lX (xB tT (Pc.snd (Pc.fst pH)) I) fun bp ca=>(go6 ?_);refine gqU ?_;exact congrArg some (wV z)
 refine gU 6 46 (vB ((((512:Int)<(↑(s.1).length:Int))∨((256:Int)<(↑(s.2.1).length:Int)))∨((1024:Int)<(↑(s.2.2).length:Int)))) ?_ ?_
 ·
  refine zS (((512:Int)<(↑(s.1).length:Int))∨((256:Int)<(↑(s.2.1).length:Int))) (fun z=>?_) (fun z=>?_)
  ·
   refine gT z rfl (go6 ?_);refine gqU ?_;exact congrArg some (wU z)
  refine gF z rfl (go3 ?_);refine lX (xB yBZ (Pc.snd (Pc.snd pH)) I) fun bo bz=>(go6 ?_);refine gqU ?_;exact congrArg some (wV z)
 refine gc2 (fun ao=>?_) fun ao=>?_
 ·
  have Z:zL5 s:=by unfold zL5;omega
  refine go2 ?_;refine cL (vs:=[vI (2),vI (-1),vI (-1),vI (-1)]) e4z call179 (fun w hs=>iS hs dC dC dC dC dC dC dC dC) fun bn h1 an aw=>(zI (zU (ρ:=tE5) (m:=1) (xs:=[dg (2:Int) (-1:Int) (-1:Int) (-1:Int)]) (ps':=[(0,_)]) underlying133 qQ rfl rfl rfl (yI wD (yI wD (yI wD (yI wD wD)))) e2z (zH rfl (Pc.arr (Pc.here _) e50 0 dC) aw zW) (show 1*5≤16777216 from by decide) nP) rfl rfl rfl ?_)
  rintro bm cd ⟨bj,rfl,ai⟩
  refine zY (A:=[]) (ρ:=tE5) ai ?_;intro h2 U ac;refine xK (A:=[]) (zX (ρ:=tE5) (bytes:=40) underlying133 qQ rfl rfl rfl rfl nP rfl rfl H.up ac bO bO) rfl rfl rfl ?_
  rintro bl cc ⟨bi,rfl,ah⟩
  refine uA ?_;refine vJ (A:=[]) (ρ:=tE5) ah ?_;intro h3 bf ab;refine zC rfl rfl ?_;exact(Rp.Is.cast ab (by rw[hD,ef];exact(if_pos Z).symm))
 have Z:¬zL5 s:=by unfold zL5;omega
 refine go9 ?_;refine vJ (A:=[]) (ρ:=tE5) H.up ?_;intro h1 an aa;refine zC rfl rfl ?_;exact(Rp.Is.cast aa (by rw[hD,ef];exact(if_neg Z).symm))
theorem zOV{w0:World}{h0:Mem}(hs:MLe h0 (mem w0)){k m n j:Nat}{vs:Value}{s:Sq}(rs:(tSd k m n j).Is h0 vs s)(hcd0:s.1.length≤100000)(hcd1:k≤100000000):
 Calls Tryz.prog 142 #[vs] w0 (Ret w0 h0 (fun h r=>(rpS tE5).Is h r (zHG s s.1.length))):=by
 refine cb1 35 vs func142 hs ?_;refine go2 ?_;refine nB rs fun b1 ai M=>(rV ?_);refine xH 200 5 ?_;have Z:=RL.nil (ρ:=rpP rpI (rpP rpI (rpP rpI (rpP rpI rpI)))) (h:=h0);refine gcL (ι:=Nat×List (Int×Int×Int×Int×Int)×Value×List Value×Mem) (fun(f,D,z,C,U)=>(MLe h0 U∧(RL tE5 U C D∧f≤s.1.length∧D=zHG s f),[(1,vP b1 0),(3,z),(4,vI ↑f)],[.gs 200 5 z D.length C,.var b1 39 ai],U,s.1.length-f)) (0,[],(.slice none 0 0),[],h0) ?_ ?_
 · exact⟨mle,Z,by omega,rfl⟩
 rintro⟨f,D,z,C,U⟩ ⟨ax,G,bn,hD⟩
 refine yW ?_;have bo:D.length≤f:=by rw[hD];exact rO _ _ f
 refine go5 ?_;refine lX (xB uJ (Pc.fst pH) M) fun v8 r8=>(gc4 (fun ae=>?_) fun ae=>?_)
 ·
  refine uA ?_;refine gcL (ι:=Nat×Mem) (fun(q,mb)=>(MLe U mb∧(q≤f∧∀u,u<q→¬gp s.1 f=gp s.1 u),[(1,vP b1 0),(3,z),(4,vI ↑f),(5,vI ↑q)],[.gs 200 5 z D.length C,.var b1 39 ai],mb,f-q)) (0,U) ?_ ?_
  · exact⟨mle,by omega,fun u h=>by omega⟩
  rintro⟨q,mb⟩ ⟨ay,bk,ac⟩
  refine yW ?_;refine gc8 (fun ad=>?_) fun ad=>?_
  ·
   refine go5 ?_;refine zL 11 _ [] [(0,.q),(1,.q),(2,.q),(3,.q),(4,.q),(5,.q),(6,.q),(7,.q),(8,.q),(9,.q),(10,.c)] yA nX (by kernel_rfl) nX (fun r hr=>hr) (go1 ?_);refine wX rfl (xB uJ (Pc.fst pH) M) fun bh av=>(go1 ?_);refine wX rfl (xI zT f underlying35 zN av) fun bg au=>(wX rfl (xA zN au) fun bf ar=>(go1 ?_));refine wX rfl (xB uJ (Pc.fst pH) M) fun be aq=>(go1 ?_);refine wX rfl (xI zT q underlying35 zN aq) fun bd ap=>(wX rfl (xA zN ap) fun bc ao=>?_);refine w_c rfl (sC (ev2 rfl rfl) call35 (fun w hs=>zE2 hs ar ao oM) fun ak h1 aw an=>?_);obtain rfl:ak=vB ((s.1.getD f zT)=(s.1.getD q zT)):=an;refine gc2 (fun H=>?_) fun H=>?_
   ·
    have O:twP s f:=⟨q,by omega,H⟩;refine go4 ?_;refine cL (vs:=[vI (37),vI (-1),vI (-1),_]) e4z call179 (fun w hs=>iS hs dC dC dC dC dC dC oM oM) fun bb h2 bm am=>(zI (zU (ρ:=tE5) (m:=1) (xs:=[dg (37:Int) (-1:Int) (-1:Int) (↑f:Int)]) (ps':=[(0,_)]) underlying133 qQ rfl rfl rfl (yI wD (yI wD (yI wD (yI wD wD)))) e2z (zH rfl (Pc.arr (Pc.here _) e50 0 dC) am zW) (show 1*5≤16777216 from by decide) nP) rfl rfl rfl ?_)
    rintro ba bj ⟨az,rfl,ab⟩
    refine zY (A:=[]) (ρ:=tE5) ab ?_;intro h3 bl J;refine xK (A:=[]) (zX (ρ:=tE5) (bytes:=40) underlying133 qQ rfl rfl rfl rfl nP rfl rfl G.up J bO bO) rfl rfl rfl ?_
    rintro aj bi ⟨ah,rfl,aa⟩
    refine rV ?_;refine gqL ((f+1),(D++[dg (37:Int) (-1:Int) (-1:Int) (↑f:Int)]),aj,ah,h3) ?_ ?_
    · exact⟨mle,aa,by omega,by rw[hD];exact dT O⟩
    omega
   refine go8 ?_;refine gqL ((q+1),h1) ?_ ?_
   · exact⟨mle,by omega,vG (Q:=fun u=>¬gp s.1 f=gp s.1 u) ac H⟩
   omega
  have O:¬twP s f:=fun⟨u,h1,h2⟩=>ac u oM h2;refine qA ?_;refine gqL ((f+1),D,z,C,mb) ?_ ?_
  · exact⟨mle,G.up,by omega,by rw[hD];exact dU O⟩
  omega
 have ef:f=s.1.length:=by omega
 refine uQ ?_;refine vJ (A:=[]) (ρ:=tE5) G.up ?_;intro h1 aw I;refine zC rfl rfl ?_;exact(Rp.Is.cast I (by rw[hD,ef]))
theorem zKZ{w0:World}{h0:Mem}(hs:MLe h0 (mem w0)){k m n j:Nat}{vs:Value}{s:Sq}(rs:(tSd k m n j).Is h0 vs s)(hcd0:k≤1000)(hcd1:m≤100000)(hcd2:n≤100000)(hcd3:s.1.length≤100000)(hcd4:∀f,f<s.2.1.length→(s.2.1.getD f zA).2.1.length≤10000∧∀l,l<(s.2.1.getD f zA).2.1.length→((s.2.1.getD f zA).2.1.getD l []).length≤10000)(hcd5:s.2.1.length≤1000)(hcd6:s.1.length≤100000)(hcd7:∀f,f<s.2.1.length→(s.2.1.getD f zA).2.1.length≤16∧∀l,l<(s.2.1.getD f zA).2.1.length→((s.2.1.getD f zA).2.1.getD l []).length≤64):
 Calls Tryz.prog 143 #[vs] w0 (Ret w0 h0 (fun h r=>(rpS tE5).Is h r (plZ s))):=by
 refine cb1 74 vs func143 hs ?_;refine go2 ?_;refine nB rs fun b1 ao ak=>(iX ?_);refine xH 200 5 ?_;have ax:=RL.nil (ρ:=rpP rpI (rpP rpI (rpP rpI (rpP rpI rpI)))) (h:=h0);refine xH 200 5 ?_;have aw:=RL.nil (ρ:=rpP rpI (rpP rpI (rpP rpI (rpP rpI rpI)))) (h:=h0);refine gcL (ι:=Nat×List (Int×Int×Int×Int×Int)×List (Int×Int×Int×Int×Int)×Value×List Value×Value×List Value×Mem) (fun(f,D,G,Z,aa,H,U,ma)=>(MLe h0 ma∧(RL tE5 ma aa D∧RL tE5 ma U G∧f≤s.2.1.length∧D=zNU s f∧G=zKT s f),[(1,vP b1 0),(3,Z),(4,H),(5,vI ↑f)],[.gs 200 5 H G.length U,.gs 200 5 Z D.length aa,.var b1 39 ao],ma,s.2.1.length-f)) (0,[],[],(.slice none 0 0),[],(.slice none 0 0),[],h0) ?_ ?_
 · exact⟨mle,ax,aw,by omega,rfl,rfl⟩
 rintro⟨f,D,G,Z,aa,H,U,ma⟩ ⟨ct,ac,ae,ej,hD,hG⟩
 refine yW ?_;have em:D.length≤f:=by rw[hD];exact rO _ _ f
 have ek:G.length≤1024*f:=by rw[hG];exact zRZ hcd7 f oM
 have bg:=nC (s:=s) (f:=↑f) hcd7;refine go5 ?_;refine lX (xB tT (Pc.snd (Pc.fst pH)) ak) fun dx dz=>(gc4 (fun bk=>?_) fun bk=>?_)
 ·
  refine go4 ?_;refine qN (ι:=List (Int×Int×Int×Int×Int)×Value×List Value×Mem) (fun(ZR,z,C,mz)=>MLe ma mz∧(RL tE5 mz C ZR∧ZR=zNU s (f+1))) (fun(ZR,z,C,mz)=>[(1,vP b1 0),(3,z),(4,H),(5,vI ↑f)]) (fun(ZR,z,C,mz)=>[.gs 200 5 H G.length U,.gs 200 5 z ZR.length C,.var b1 39 ao]) (fun(ZR,z,C,mz)=>mz) ?_ ?_
  ·
   refine go3 ?_;refine lX (xB tT (Pc.snd (Pc.fst pH)) ak) fun dw ck=>(go1 ?_);refine lX (xI zA f underlying36 bG ck) fun dv cj=>(lX (xF underlying53 sizeOf50 (Pc.fst pH) cj) fun du ci=>(lX (xF underlying50 sizeOf31 (Pc.fst pH) ci) fun dt ch=>(lX (xA zN ch) fun dr cg=>(cL (ev1 rfl) call80 (fun w hs=>zOT hs cg oM) fun bq h1 ah cf=>?_))));obtain rfl:bq=vB ((((s.2.1.getD f zA).1).1)=zT):=cf;refine gc2 (fun aj=>?_) fun aj=>?_
   ·
    refine go3 ?_;refine cL (vs:=[vI (9),_,vI (-1),vI (-1)]) e4z call179 (fun w hs=>iS hs dC dC oM oM dC dC dC dC) fun dq h2 bf ce=>(zI (zU (ρ:=tE5) (m:=1) (xs:=[dg (9:Int) (↑f:Int) (-1:Int) (-1:Int)]) (ps':=[(0,_)]) underlying133 qQ rfl rfl rfl (yI wD (yI wD (yI wD (yI wD wD)))) e2z (zH rfl (Pc.arr (Pc.here _) e50 0 dC) ce zW) (show 1*5≤16777216 from by decide) nP) rfl rfl rfl ?_)
    rintro dp ed ⟨cz,rfl,bc⟩
    refine zY (A:=[]) (ρ:=tE5) bc ?_;intro h3 be au;refine xK (A:=[_]) (zX (ρ:=tE5) (bytes:=40) underlying133 qQ rfl rfl rfl rfl nP rfl rfl ac.up au bO bO) rfl rfl rfl ?_
    rintro bp ec ⟨bm,rfl,bb⟩
    refine go2 ?_;refine zQ ((D++[dg (9:Int) (↑f:Int) (-1:Int) (-1:Int)]),bp,bm,h3) ?_ e4z rfl rfl;refine⟨((ah.trans bf).trans be),?_⟩;refine⟨bb,?_⟩;exact(by rw[hD];exact dT aj)
   refine go1 ?_;refine zQ (D,Z,aa,h1) ?_ e4z rfl rfl;refine⟨ah,?_⟩;refine⟨ac.up,?_⟩;exact(by rw[hD];exact dU aj)
  rintro⟨ZR,z,C,mz⟩ ⟨co,hZ⟩
  refine yW ?_;obtain⟨av,hZ⟩:=hZ;refine go2 ?_;refine lX (xB fF pH ak) fun dn cd=>(go1 ?_);refine cL (ev2 rfl rfl) call118 (fun w hs=>zA2 hs cd oM oM (by first|omega|exact hcd4) (by first|omega|exact hcd4)) fun ay h1 ah bd=>(go9 ?_);refine gcL (ι:=Nat×List (Int×Int×Int×Int×Int)×Value×List Value×Mem) (fun(l,G1,J,O,mb)=>(MLe h1 mb∧(RL tE5 mb O G1∧l≤(uH s ↑f).length∧G1=zKT s f++ofL s f l),[(1,vP b1 0),(3,z),(4,J),(5,vI ↑f),(6,ay),(7,vI ↑l)],[.gs 200 5 J G1.length O,.gs 200 5 z ZR.length C,.var b1 39 ao],mb,(uH s ↑f).length-l)) (0,G,H,U,h1) ?_ ?_
  · exact⟨mle,ae.up,by omega,by rw[hG];exact(List.append_nil _).symm⟩
  rintro⟨l,G1,J,O,mb⟩ ⟨cq,ad,ee,an⟩
  refine yW ?_;have cn:=zCQ (s:=s) hcd7 f l;have cw:G1.length≤1024*f+1024:=by rw[an,lAz,←hG];have:=bg.1;omega
  refine gc9 (fun bj=>?_) fun bj=>?_
  ·
   refine uA ?_;refine gcL (ι:=Nat×List (Int×Int×Int×Int×Int)×Value×List Value×Mem) (fun(i,G2,I,M,mc)=>(MLe mb mc∧(RL tE5 mc M G2∧i≤((uH s ↑f).getD l []).length∧G2=zKT s f++ofL s f l++ofX s f l i),[(1,vP b1 0),(3,z),(4,I),(5,vI ↑f),(6,ay),(7,vI ↑l),(8,vI ↑i)],[.gs 200 5 I G2.length M,.gs 200 5 z ZR.length C,.var b1 39 ao],mc,((uH s ↑f).getD l []).length-i)) (0,G1,J,O,mb) ?_ ?_
   · exact⟨mle,ad,by omega,by rw[an];exact(List.append_nil _).symm⟩
   rintro⟨i,G2,I,M,mc⟩ ⟨cp,ab,eg,am⟩
   refine yW ?_;have cu:=bg.2 l;have cm:(ofX s f l i).length≤i:=rO _ _ i;have cv:G2.length≤1024*f+2048:=by rw[am,lAz,←an];omega
   refine go6 ?_;refine lX (xI [] l underlying76 uJ bd) fun dm cc=>(lX (xA uJ cc) fun dl dy=>(gc4 (fun bi=>?_) fun bi=>?_))
   ·
    refine go5 ?_;refine zL 15 _ [] [(0,.q),(1,.q),(2,.q),(3,.q),(4,.q),(5,.q),(6,.q),(7,.q),(8,.q),(9,.q),(10,.q),(11,.q),(12,.q),(13,.c),(14,.q)] yA nX (wI (by kernel_rfl)) nX (fun r hr=>hr) (go1 ?_);refine wX rfl (xB tT (Pc.snd (Pc.fst pH)) ak) fun dk cb=>(go1 ?_);refine wX rfl (xI zA f underlying36 bG cb) fun dj ca=>(wX rfl (xF underlying53 sizeOf50 (Pc.fst pH) ca) fun di bz=>(wX rfl (xA dE bz) fun dh bx=>(go2 ?_)));refine wX rfl (xI [] l underlying76 uJ bd) fun df bw=>(wX rfl (xA uJ bw) fun de bv=>(go1 ?_));refine wX rfl (xI zT i underlying35 zN bv) fun dd bu=>(wX rfl (xA zN bu) fun dc bt=>?_);refine w_c rfl (sC (ev2 rfl rfl) call23 (fun w hs=>zOU hs bx bt oM oM oM) fun bo h2 bf bs=>?_);obtain rfl:bo=vI (xC (wO ((s.2.1.getD f zA).1).1 (((uH s (↑f:Int)).getD l []).getD i zT)-((s.2.1.getD f zA).1).2)):=bs;have cl:=yY (wO ((s.2.1.getD f zA).1).1 (((uH s (↑f:Int)).getD l []).getD i zT)-((s.2.1.getD f zA).1).2);refine gc3 (fun ai=>?_) fun ai=>?_
    ·
     refine go5 ?_;refine cL (vs:=[vI (31),_,_,_]) e4z call179 (fun w hs=>iS hs dC dC oM oM oM oM oM oM) fun db h3 be br=>(zI (zU (ρ:=tE5) (m:=1) (xs:=[dg (31:Int) (↑f:Int) (↑l:Int) (↑i:Int)]) (ps':=[(0,_)]) underlying133 qQ rfl rfl rfl (yI wD (yI wD (yI wD (yI wD wD)))) e2z (zH rfl (Pc.arr (Pc.here _) e50 0 dC) br zW) (show 1*5≤16777216 from by decide) nP) rfl rfl rfl ?_)
     rintro da eb ⟨cy,rfl,ba⟩
     refine zY (A:=[]) (ρ:=tE5) ba ?_;intro h4 eh ar;refine xK (A:=[]) (zX (ρ:=tE5) (bytes:=40) underlying133 qQ rfl rfl rfl rfl nP rfl rfl ab.up ar bO bO) rfl rfl rfl ?_
     rintro bn ea ⟨bl,rfl,az⟩
     refine go9 ?_;refine gqL ((i+1),(G2++[dg (31:Int) (↑f:Int) (↑l:Int) (↑i:Int)]),bn,bl,h4) ?_ ?_
     · exact⟨mle,az,by omega,by rw[am,List.append_assoc,show ofX s f l i++_=_ from dT (p:=ofP s f l) ai];rfl⟩
     omega
    refine go8 ?_;refine gqL ((i+1),G2,I,M,h2) ?_ ?_
    · exact⟨mle,ab.up,by omega,by rw[am,show ofX s f l i=_ from dU (p:=ofP s f l) ai];rfl⟩
    omega
   have ei:i=((uH s ↑f).getD l []).length:=by omega
   refine qA ?_;refine gqL ((l+1),G2,I,M,mc) ?_ ?_
   · exact⟨mle,ab.up,by omega,by rw[am,ei,List.append_assoc];rfl⟩
   omega
  have el:l=(uH s ↑f).length:=by omega
  refine qA ?_;refine gqL ((f+1),ZR,G1,z,C,J,O,mb) ?_ ?_
  · exact⟨mle,av.up,ad,by omega,hZ,by rw[an,el];rfl⟩
  omega
 have ef:f=s.2.1.length:=by omega
 refine go9 ?_;refine gv (jU mh1 underlying133 rfl) rfl (gc3 (fun bh=>?_) fun bh=>?_)
 ·
  refine go8 ?_;refine vJ (A:=[_]) (ρ:=tE5) ac.up ?_;intro h1 ah aq;refine zC rfl rfl ?_;exact(Rp.Is.cast aq (by rw[hD,ef];exact(if_pos (by rw[←ef,←hD];omega)).symm))
 refine go9 ?_;refine vJ (A:=[]) (ρ:=tE5) ae.up ?_;intro h1 ah ap;refine zC rfl rfl ?_;exact(Rp.Is.cast ap (by rw[hG,ef];exact(if_neg (by rw[←ef,←hD];omega)).symm))
theorem zE3{w0:World}{h0:Mem}(hs:MLe h0 (mem w0)){k:Nat}{vL:Value}{L:(List (List Tq))}(rL:(tLL k).Is h0 vL L)(hcd0:k≤100000)(hcd1:∀l,l<L.length→(L.getD l []).length≤1000)(hcd2:L.length≤100000):
 Calls Tryz.prog 86 #[vL] w0 (Ret w0 h0 (fun _ r=>r=vI (ouZ L))):=by
 refine cb1 21 vL func86 hs ?_;refine mW ?_;refine gcL (ι:=Nat×Mem) (fun(m,M)=>(MLe h0 M∧(m≤L.length),[(0,vL),(3,vI (zBA L m)),(4,vI ↑m)],[],M,L.length-m)) (0,h0) ?_ ?_
 · exact⟨mle,oM⟩
 rintro⟨m,M⟩ ⟨Z,ad⟩
 refine yW ?_;have hor:=z5 L m;have ae:=hcd1 m;refine gc9 (fun U=>?_) fun U=>?_
 ·
  refine go8 ?_;refine lX (xI [] m underlying76 uJ rL) fun ac J=>(lX (xA uJ J) fun ab I=>(cL (ev1 rfl) call131 (fun w hs=>rK hs I oM oM) fun aa h1 ai H=>(cL (ev1 rfl) call48 (fun w hs=>qF hs H dC) fun D h2 ah G=>?_)));obtain rfl:D=vI (xC (uT (L.getD m []) 0 1 (L.getD m []).length)):=G;have O:=yY (uT (L.getD m []) 0 1 (L.getD m []).length);refine gc3 (fun C=>?_) fun C=>?_
  ·
   refine uQ ?_;refine gqL ((m+1),h2) ?_ ?_ (he:=⟨rfl,congrArg (fun z=>some (vI z)) (ou_t C),rfl,trivial⟩)
   · exact⟨mle,oM⟩
   omega
  refine go8 ?_;refine gqL ((m+1),h2) ?_ ?_ (he:=⟨rfl,congrArg (fun z=>some (vI z)) (ou_f C),rfl,trivial⟩)
  · exact⟨mle,oM⟩
  omega
 refine uQ ?_;refine zC rfl rfl ?_;have em:m=L.length:=by omega
 subst em
 rfl
end Go.Proofs.YtpkaegemlpaenaaGreat
namespace Go.Proofs.YtpkaegemlpaenaaGreat
open Bk Go Tryz
set_option linter.unusedVariables false
set_option linter.unusedSimpArgs false
set_option maxRecDepth 10000
set_option maxHeartbeats 1000000
attribute [local irreducible] GL GC GQ W OpV
theorem zO1{w0:World}{h0:Mem}(hs:MLe h0 (mem w0)){k m n j:Nat}{vs:Value}{s:Sq}(rs:(tSd k m n j).Is h0 vs s)(hcd0:k≤1000)(hcd1:m≤100000)(hcd2:n≤100000)(hcd3:okS s):
 Calls Tryz.prog 144 #[vs] w0 (Ret w0 h0 (fun h r=>(rpS tE5).Is h r (neZ s))):=by
 have cj:=hcd3.1.1.1;have ci:=hcd3.1.1.2;refine cb1 45 vs func144 hs ?_;refine go2 ?_;refine nB rs fun b1 bf au=>(iX ?_);refine xH 200 5 ?_;have an:=RL.nil (ρ:=rpP rpI (rpP rpI (rpP rpI (rpP rpI rpI)))) (h:=h0);refine xH 200 5 ?_;have am:=RL.nil (ρ:=rpP rpI (rpP rpI (rpP rpI (rpP rpI rpI)))) (h:=h0);refine gcL (ι:=Nat×List (Int×Int×Int×Int×Int)×List (Int×Int×Int×Int×Int)×Value×List Value×Value×List Value×Mem) (fun(f,D,G,J,M,H,I,ma)=>(MLe h0 ma∧(RL tE5 ma M D∧RL tE5 ma I G∧f≤s.2.1.length∧D=zT3 s f∧G=zZ2 s f),[(1,vP b1 0),(3,J),(4,H),(5,vI ↑f)],[.gs 200 5 H G.length I,.gs 200 5 J D.length M,.var b1 39 bf],ma,s.2.1.length-f)) (0,[],[],(.slice none 0 0),[],(.slice none 0 0),[],h0) ?_ ?_
 · exact⟨mle,an,am,by omega,rfl,rfl⟩
 rintro⟨f,D,G,J,M,H,I,ma⟩ ⟨br,U,O,ck,hD,hG⟩
 refine yW ?_;have cm:D.length≤f:=by rw[hD];exact rO _ _ f
 have cl:G.length≤f:=by rw[hG];exact rO _ _ f
 have az:=zBR s f;have ba:=nC (s:=s) (f:=↑f) hcd3.2.1;have ch:=zIU (fT s f) 0 1;refine go5 ?_;refine lX (xB tT (Pc.snd (Pc.fst pH)) au) fun cb cc=>(gc4 (fun bc=>?_) fun bc=>?_)
 ·
  refine go6 ?_;refine lX (xB fF pH au) fun ca bo=>(go1 ?_);refine cL (ev2 rfl rfl) call111 (fun w hs=>zIL (f:=f) hs bo oM oM oM (by first|omega|exact hcd3.big) (by first|omega|exact hcd3.big) (by first|omega|exact hcd3.big) (by first|omega|exact hcd3.big)) fun bj h1 ay av=>(go3 ?_);refine qN (ι:=List (Int×Int×Int×Int×Int)×Value×List Value×Mem) (fun(ZR,C,z,mz)=>MLe h1 mz∧(RL tE5 mz z ZR∧ZR=zT3 s (f+1))) (fun(ZR,C,z,mz)=>[(1,vP b1 0),(3,C),(4,H),(5,vI ↑f),(6,bj)]) (fun(ZR,C,z,mz)=>[.gs 200 5 H G.length I,.gs 200 5 C ZR.length z,.var b1 39 bf]) (fun(ZR,C,z,mz)=>mz) ?_ ?_
  ·
   refine go3 ?_;refine cL (ev1 rfl) call85 (fun w hs=>zE1 hs av oM (by first|omega|exact hcd3.2.2 f oM)) fun bz h2 ak bn=>?_;obtain⟨ac,rfl,aj⟩:=bn
   change (rpS rpI).Is h2 ac (tE (fT s f) 0 1) at aj
   refine rM ?_;refine cnd (fun ab=>?_) fun ab=>?_
   ·
    refine go4 ?_;refine cL (vs:=[_,_,vI (-1),vI (-1)]) e4z call179 (fun w hs=>iS hs oM oM oM oM dC dC dC dC) fun bx h3 ax bm=>(zI (zU (ρ:=tE5) (m:=1) (xs:=[dg (vS (fT s f) 0 1) (↑f:Int) (-1:Int) (-1:Int)]) (ps':=[(0,_)]) underlying133 qQ rfl rfl rfl (yI wD (yI wD (yI wD (yI wD wD)))) e2z (zH rfl (Pc.arr (Pc.here _) e50 0 dC) bm zW) (show 1*5≤16777216 from by decide) nP) rfl rfl rfl ?_)
    rintro bw cg ⟨bt,rfl,ar⟩
    refine zY (A:=[]) (ρ:=tE5) ar ?_;intro h4 aw ai;refine xK (A:=[_]) (zX (ρ:=tE5) (bytes:=40) underlying133 qQ rfl rfl rfl rfl nP rfl rfl U.up ai bO bO) rfl rfl rfl ?_
    rintro bi cf ⟨be,rfl,aq⟩
    refine go2 ?_;refine zQ ((D++[dg (vS (fT s f) 0 1) (↑f:Int) (-1:Int) (-1:Int)]),bi,be,h4) ?_ e5 rfl rfl;refine⟨((ak.trans ax).trans aw),?_⟩;refine⟨aq,?_⟩;exact(by rw[hD];exact dT ab)
   refine go1 ?_;refine zQ (D,J,M,h2) ?_ e5 rfl rfl;refine⟨ak,?_⟩;refine⟨U.up,?_⟩;exact(by rw[hD];exact dU ab)
  rintro⟨ZR,C,z,mz⟩ ⟨bq,hZ⟩
  refine yW ?_;obtain⟨Z,hZ⟩:=hZ;refine go3 ?_;refine cL (ev1 rfl) call86 (fun w hs=>zE3 hs av.up oM (by first|omega|exact fun l hl=>(by rw[az.2 l];exact Nat.le_trans (ba.2 l) dC)) (by first|omega|exact fun l hl=>(by rw[az.2 l];exact Nat.le_trans (ba.2 l) dC))) fun bh h2 ak bl=>?_;obtain rfl:bh=vI (ouZ (fT s f)):=bl;have bp:=z5 (fT s f) (fT s f).length;refine gc3 (fun aa=>?_) fun aa=>?_
  ·
   refine go3 ?_;refine cL (vs:=[vI (33),_,vI (-1),vI (-1)]) e4z call179 (fun w hs=>iS hs dC dC oM oM dC dC dC dC) fun bv h3 ax bk=>(zI (zU (ρ:=tE5) (m:=1) (xs:=[dg (33:Int) (↑f:Int) (-1:Int) (-1:Int)]) (ps':=[(0,_)]) underlying133 qQ rfl rfl rfl (yI wD (yI wD (yI wD (yI wD wD)))) e2z (zH rfl (Pc.arr (Pc.here _) e50 0 dC) bk zW) (show 1*5≤16777216 from by decide) nP) rfl rfl rfl ?_)
   rintro bu ce ⟨bs,rfl,ap⟩
   refine zY (A:=[]) (ρ:=tE5) ap ?_;intro h4 aw ah;refine xK (A:=[]) (zX (ρ:=tE5) (bytes:=40) underlying133 qQ rfl rfl rfl rfl nP rfl rfl O.up ah bO bO) rfl rfl rfl ?_
   rintro bg cd ⟨bd,rfl,ao⟩
   refine go9 ?_;refine gqL ((f+1),ZR,(G++[dg (33:Int) (↑f:Int) (-1:Int) (-1:Int)]),C,z,bg,bd,h4) ?_ ?_
   · exact⟨mle,Z.up,ao,by omega,hZ,by rw[hG];exact dT aa⟩
   omega
  refine go8 ?_;refine gqL ((f+1),ZR,G,C,z,H,I,h2) ?_ ?_
  · exact⟨mle,Z.up,O.up,by omega,hZ,by rw[hG];exact dU aa⟩
  omega
 have ef:f=s.2.1.length:=by omega
 refine go9 ?_;refine gv (jU mh1 underlying133 rfl) rfl (gc3 (fun bb=>?_) fun bb=>?_)
 ·
  refine go8 ?_;refine vJ (A:=[_]) (ρ:=tE5) U.up ?_;intro h1 ay ae;refine zC rfl rfl ?_;exact(Rp.Is.cast ae (by rw[hD,ef];exact(if_pos (by rw[←ef,←hD];omega)).symm))
 refine go9 ?_;refine vJ (A:=[]) (ρ:=tE5) O.up ?_;intro h1 ay ad;refine zC rfl rfl ?_;exact(Rp.Is.cast ad (by rw[hG,ef];exact(if_neg (by rw[←ef,←hD];omega)).symm))
theorem zO2{w0:World}{h0:Mem}(hs:MLe h0 (mem w0)){k m n j:Nat}{vs:Value}{s:Sq}(rs:(tSd k m n j).Is h0 vs s)(hcd0:k≤1000)(hcd1:m≤100000)(hcd2:n≤100000)(hcd3:okS s):
 Calls Tryz.prog 97 #[vs] w0 (Ret w0 h0 (fun h r=>(rpS tE5).Is h r (zTT s))):=by
 have aq:=hcd3.1.1.1;have ap:=hcd3.1.1.2;refine cb1 34 vs func97 hs ?_;refine go2 ?_;refine nB rs fun b1 az z=>(go6 ?_);refine lX (xB fF pH z) fun v7 r7=>(cL (ev1 rfl) call141 (fun w hs=>zOX hs r7 (by first|omega|exact hcd3|exact hcd3.big|exact hcd3.mem|exact hcd3.2.1)) fun v8 h1 ay r8=>(zBF (fun H=>?_) fun H=>?_))
 ·
  refine go8 ?_;refine zC rfl rfl ?_;exact(Rp.Is.cast r8 (by exact(if_pos oM).symm))
 refine go5 ?_;refine lX (xB fF pH z) fun ao ac=>(cL (ev1 rfl) call142 (fun w hs=>zOV hs ac (by first|omega|exact hcd3|exact hcd3.big|exact hcd3.mem|exact hcd3.2.1) oM) fun an h2 ax ab=>(zBF (fun G=>?_) fun G=>?_))
 ·
  refine go8 ?_;refine zC rfl rfl ?_;exact(Rp.Is.cast ab (by exact((if_neg oM).trans (if_pos oM)).symm))
 refine go5 ?_;refine lX (xB fF pH z) fun am aa=>(cL (ev1 rfl) call143 (fun w hs=>zKZ hs aa oM oM oM (by first|omega|exact hcd3|exact hcd3.big|exact hcd3.mem|exact hcd3.2.1) (by first|omega|exact hcd3|exact hcd3.big|exact hcd3.mem|exact hcd3.2.1) (by first|omega|exact hcd3|exact hcd3.big|exact hcd3.mem|exact hcd3.2.1) (by first|omega|exact hcd3|exact hcd3.big|exact hcd3.mem|exact hcd3.2.1) (by first|omega|exact hcd3|exact hcd3.big|exact hcd3.mem|exact hcd3.2.1)) fun ak h3 aw Z=>(zBF (fun D=>?_) fun D=>?_))
 ·
  refine go8 ?_;refine zC rfl rfl ?_;exact(Rp.Is.cast Z (by exact((if_neg oM).trans ((if_neg oM).trans (if_pos oM))).symm))
 refine go5 ?_;refine lX (xB fF pH z) fun aj U=>(cL (ev1 rfl) call144 (fun w hs=>zO1 hs U oM oM oM (by first|omega|exact hcd3|exact hcd3.big|exact hcd3.mem|exact hcd3.2.1)) fun ai h4 av O=>(zBF (fun C=>?_) fun C=>?_))
 ·
  refine go8 ?_;refine zC rfl rfl ?_;exact(Rp.Is.cast O (by exact((if_neg oM).trans ((if_neg oM).trans ((if_neg oM).trans (if_pos oM)))).symm))
 refine go4 ?_;refine lX (xB fF pH z) fun ah M=>(cL (ev1 rfl) call136 (fun w hs=>zE5 hs M (by first|omega|exact hcd3|exact hcd3.big|exact hcd3.mem|exact hcd3.2.1) (by first|omega|exact hcd3|exact hcd3.big|exact hcd3.mem|exact hcd3.2.1)) fun ae h5 au J=>(cL (ev1 rfl) call145 (fun w hs=>zIE hs J) fun ad h6 ar I=>(go4 ?_)));refine zC rfl rfl ?_;exact(Rp.Is.cast I (by exact((if_neg oM).trans ((if_neg oM).trans ((if_neg oM).trans (if_neg oM)))).symm))
theorem zOW{w0:World}{h0:Mem}(hs:MLe h0 (mem w0)){k m n j:Nat}{vs:Value}{s:Sq}(rs:(tSd k m n j).Is h0 vs s)(hcd0:k≤1000)(hcd1:m≤100000)(hcd2:n≤100000)(hcd3:okS s):
 Calls Tryz.prog 62 #[vs] w0 (Ret w0 h0 (fun _ r=>r=vB (fX s))):=by
 refine cb1 7 vs func62 hs ?_;refine go2 ?_;refine nB rs fun G D z=>(go5 ?_);refine lX (xB fF pH z) fun v3 r3=>(cL (ev1 rfl) call97 (fun w hs=>zO2 hs r3 oM oM oM (by first|omega|exact hcd3)) fun v4 h1 C r4=>(go6 ?_));refine zC rfl rfl ?_;exact jI (by unfold fX;omega)
end Go.Proofs.YtpkaegemlpaenaaGreat
namespace Go.Proofs.YtpkaegemlpaenaaGreat
open Bk Go Tryz
set_option linter.unusedVariables false
set_option linter.unusedSimpArgs false
set_option maxRecDepth 10000
set_option maxHeartbeats 1000000
attribute [local irreducible] GL GC GQ W OpV
theorem zCW{w0:World}{h0:Mem}(hs:MLe h0 (mem w0)){k m n j:Nat}{vs:Value}{s:Sq}(rs:(tSd k m n j).Is h0 vs s)(hcd0:k≤1000)(hcd1:m≤100000)(hcd2:n≤100000)(hcd3:okS s):
 Calls Tryz.prog 47 #[vs] w0 (tK w0 h0 (fun h r L_=>∃vF cs,(rpP (tLs (k+1)) (rpP rpV (rpS (rpP rpI (rpP rpI (rpQ (j+1))))))).Is h r (nrP s,(vF,nrE s))∧L_=[.gs 53 14 vF (nrF s).length cs]∧vF.oneCell'=true∧RL (tFc (4*m+12) (m+n+12)) h cs (nrF s))):=by
 have ia:=hcd3.1.1.1;have hz:=hcd3.1.1.2;have hy:=hcd3.1.2;refine cb1 100 vs func47 hs ?_;refine go2 ?_;refine nB rs fun b1 ct am=>(nA (ρ:=(rpP (tLs 1) (rpP rpV (rpS (rpP rpI (rpP rpI (rpQ 1))))))) (X:=([],((Value.slice none 0 0),[]))) tX (yI uV (yI pV uV)) fun b2 cq dh=>(go5 ?_));refine lX (xB fF pH am) fun hn fg=>(cL (ev1 rfl) call62 (fun w hs=>zOW hs fg oM oM oM (by first|omega|exact hcd3)) fun ee h1 ii ff=>?_);obtain rfl:ee=vB (fX s):=ff;refine gc3 (fun ah=>?_) fun ah=>?_
 ·
  refine go2 ?_;refine lX (xV (ρ:=(rpP (tLs 1) (rpP rpV (rpS (rpP rpI (rpP rpI (rpQ 1))))))) (wG (ps':=[]) underlying39 tX rfl rfl (bK underlying39) trivial rfl (yI uV (yI pV uV)) zW)) fun hm fe=>(yE (A:=[]) (uB sizeOf39 pH dh fe) fun ge df=>(go4 ?_));rw[show nrF s=[] from if_neg ah];refine bC 53 14 ?_;have da:=RL.nil (ρ:=rpP (tPl (4*m+12) (m+n+12)) (rpP tII kF)) (h:=h1);refine uR (tU (t:=2) fF mh1 rfl df) ?_;intro gh ce cy;refine fC (.cons_cons _ (List.nil_sublist _)) (fun E S=>yD rfl ce E S) ?_;exact⟨_,_,(Rp.Is.cast (Rp.Is.le cy (Le.p (Le.s (Le.t (Le.q (l:=k+1) oM))) (Le.p (Le.refl _) (Le.s (Le.p (Le.refl _) (Le.p (Le.refl _) (Le.q (l:=j+1) oM))))))) (by rw[show nrP s=[] from if_neg ah,show nrE s=[] from if_neg ah])),rfl,rfl,da⟩
 refine go4 ?_;refine lX (xB fF pH am) fun hl fd=>?_;have bc:fX s:=Classical.not_not.1 ah;have av:=zYV bc;have hw:(fM s).length≤s.1.length:=zKS s s.1.length;refine cL (ev1 rfl) call89 (fun w hs=>zO0 hs fd oM (by first|omega|exact hcd3|exact av) (by first|omega|exact hcd3|exact av)) fun ed h2 ih ba=>?_;replace ba:=Rp.Is.cast (y:=(fM s)) ba (by rfl);refine go6 ?_;refine lX (xB uJ (Pc.fst pH) am) fun hk hp=>(go1 ?_);refine zI (zE9 (ρ:=rpI) (X:=(0:Int)) (by':=8) s.1.length underlying22 fO rfl rfl rfl rfl wD rfl rfl (by rfl) (by rfl) bO bO) rfl rfl rfl ?_
 rintro ec hv ⟨dq,rfl,de⟩
 refine go6 ?_;refine lX (xB yBZ (Pc.snd (Pc.snd pH)) am) fun hj fc=>(zFF 237 5 ?_);have cz:=RL.nil (ρ:=rpP rpI (rpP rpI (rpQ j))) (h:=h2);refine xK (A:=[]) (qP (zX (ρ:=(rpP rpI (rpP rpI (rpQ j)))) (bytes:=72) underlying37 zWH rfl rfl rfl rfl nP rfl rfl cz fc bO bO)) rfl rfl rfl ?_
 rintro hg hu ⟨fx,gg,rfl,dd⟩
 refine zY (A:=[]) (ρ:=(rpP rpI (rpP rpI (rpQ j)))) dd ?_;intro h3 ig cw;refine lX (xV (ρ:=(rpP rpV (rpP rpV (rpS (rpP rpI (rpP rpI (rpQ (j+1)))))))) (wG (ps':=[(2,_)]) underlying39 tX rfl rfl (bK underlying39) e2z rfl (yI pV (yI pV uV)) (zH rfl (Pc.snd (Pc.snd (Pc.here _))) (cw.le (Le.s (Le.p (Le.refl _) (Le.p (Le.refl _) (Le.q (l:=j+1) oM))))) zW))) fun hf fb=>(nA (ρ:=(rpP rpV (rpP rpV (rpS (rpP rpI (rpP rpI (rpQ 1))))))) (X:=((Value.slice none 0 0),((Value.slice none 0 0),[]))) tX (yI pV (yI pV uV)) fun b5 io eh=>?_);have cu:=(Le.p (Le.refl _) (Le.p (Le.refl _) (Le.s (Le.p (Le.refl _) (Le.p (Le.refl _) (Le.q (l:=j+1) oM)))))).R eh;refine yE (A:=[]) (uB sizeOf39 pH cu fb) fun dl bw=>(go9 ?_);refine xH 31 9 ?_;have bs:=RL.nil (ρ:=rpT (rpQ (k+1))) (h:=h3);refine gcL (ι:=Nat×List Int×List Tq×List Value×Value×List Value×Value×List Value×Mem) (fun(i,IX,PS,O,G,ar,M,aq,ma)=>(MLe h3 ma∧((rpP rpV (rpP rpV (rpS (rpP rpI (rpP rpI (rpQ (j+1))))))).R ma O (M,(Value.slice none 0 0,s.2.2))∧RL rpI ma ar IX∧RL (tPt (k+1)) ma aq PS∧M.oneCell'=true∧i≤(fM s).length∧IX=zLM s i∧PS=zV3 s i),[(1,vP b1 0),(2,vP b2 0),(3,ed),(4,G),(5,vP b5 0),(6,vI ↑i)],[.gs 31 9 M PS.length aq,.var b5 39 O,.gs 3 1 G IX.length ar,.var b2 39 cq,.var b1 39 ct],ma,(fM s).length-i)) (0,(List.replicate s.1.length (0:Int)),[],dl,ec,dq,(.slice none 0 0),[],h3) ?_ ?_
 · exact⟨mle,bw,de.up,bs,rfl,by omega,rfl,rfl⟩
 rintro⟨i,IX,PS,O,G,ar,M,aq,ma⟩ ⟨ga,I,ax,aw,fk,ib,hI,hP⟩
 refine yW ?_;have ik:IX.length=s.1.length:=by rw[hI];exact zAG s i
 have ij:PS.length=i:=by rw[hP];exact xL _ _
 refine gc9 (fun dj=>?_) fun dj=>?_
 ·
  refine go9 ?_;refine lX (xI (0:Int) i underlying22 ty3 ba) fun hd fa=>(lX (xA ty3 fa) fun hc ez=>?_);obtain⟨rfl,gc,fw⟩:=jZ ez;refine go1 ?_;refine gv ((xD (((fM s).getD i 0).toNat) mh2 underlying22 sizeOf3 rfl rfl (by(have:=oJ (s:=s) (i:=s.1.length) (k:=i) (show i<(bR s s.1.length).length by show i<(fM s).length;omega);show _;have h2:0≤(fM s).getD i 0∧(fM s).getD i 0<↑s.1.length:=this;omega)) (by(have:=oJ (s:=s) (i:=s.1.length) (k:=i) (show i<(bR s s.1.length).length by show i<(fM s).length;omega);show _;have h2:0≤(fM s).getD i 0∧(fM s).getD i 0<↑s.1.length:=this;omega)) nP).cv (show _=zJ 1 G ((((fM s).getD i 0).toNat*1+0)) from congrArg (zJ 1 G) (by rfl))) rfl (gJ (A:=[_,_]) (F:=fun c_=>RL rpI ma c_ (IX.set (((fM s).getD i 0).toNat) (↑i:Int))) (pE sizeOf3 (Pc.arr (Pc.here _) (0:Int) (((fM s).getD i 0).toNat) (by(have:=oJ (s:=s) (i:=s.1.length) (k:=i) (show i<(bR s s.1.length).length by show i<(fM s).length;omega);show _;have h2:0≤(fM s).getD i 0∧(fM s).getD i 0<↑s.1.length:=this;omega))) rfl nP rfl rfl ax (jD oM oM) rfl) ?_);intro cp br;refine go2 ?_;refine qT (A:=[]) 13 [] [(0,.q),(1,.q),(2,.q),(3,.q),(4,.q),(5,.q),(6,.q),(7,.q),(8,.q),(9,.q),(10,.c),(11,.c),(12,.q),(13,.t)] yA nX (wI (by kernel_rfl)) nX (go1 ?_);refine wX rfl (bM (xB uJ (Pc.fst pH) I)) fun hb ey=>?_;subst ey;refine go1 ?_;refine wX rfl (xB uJ (Pc.fst pH) am) fun ha ew=>(go2 ?_);refine wX rfl (xI (0:Int) i underlying22 ty3 ba) fun gz ev=>(wX rfl (xA ty3 ev) fun gy eu=>?_);obtain⟨rfl,gb,fv⟩:=jZ eu;refine mS (F:=fun v_=>AtP (tPt k) ma v_ (s.1.getD (((fM s).getD i 0).toNat) zT)) rfl (bN zT (((fM s).getD i 0).toNat) underlying35 zN rfl rfl ew (by(have:=oJ (s:=s) (i:=s.1.length) (k:=i) (show i<(bR s s.1.length).length by show i<(fM s).length;omega);show _;have h2:0≤(fM s).getD i 0∧(fM s).getD i 0<↑s.1.length:=this;omega)) (by(have:=oJ (s:=s) (i:=s.1.length) (k:=i) (show i<(bR s s.1.length).length by show i<(fM s).length;omega);show _;have h2:0≤(fM s).getD i 0∧(fM s).getD i 0<↑s.1.length:=this;omega)) nP) zC6 rfl ?_;intro gx es;refine wX rfl (xA zN es) fun gw er=>?_;refine w_c rfl (gM (fun X=>zU (ρ:=(tPt (k+1))) (m:=1) (xs:=[(s.1.getD (((fM s).getD i 0).toNat) zT)]) (ps':=[(0,_)]) underlying35 yX rfl rfl rfl (wB (yN oM)) e2z (zH rfl (Pc.arr (Pc.here _) zT 0 dC) (er.le (Le.t (Le.q (l:=k+1) oM))) zW) (show 1*9≤16777216 from by decide) nP) rfl ?_)
  rintro gu ht ⟨gf,rfl,dc⟩
  refine w_c rfl (vC (A:=[]) (ρ:=(tPt (k+1))) dc dK ?_);intro h4 ci bk;refine rQ (A:=[]) (fun X=>qP (zX (ρ:=(tPt (k+1))) (bytes:=168) underlying35 yX rfl rfl rfl rfl nP rfl rfl aw.up bk bO bO)) rfl (wP (by first|(simp;done)|grind)) ?_
  rintro eb hq ⟨bd,dp,rfl,db⟩
  refine go1 ?_;replace I:=I.mono ci;refine yO (A:=[_]) rfl (uB sizeOf35 (Pc.fst pH) I (zAH bd)) fun co bv=>(go8 ?_);refine gqL ((i+1),(IX.set (((fM s).getD i 0).toNat) (↑i:Int)),(PS++[(s.1.getD (((fM s).getD i 0).toNat) zT)]),co,G,cp,eb,dp,h4) ?_ ?_
  · exact⟨mle,bv,br.up,db,bd,by omega,by rw[hI];rfl,by rw[hP];rfl⟩
  omega
 have ei:i=(fM s).length:=by omega
 refine go8 ?_;refine zY (A:=[]) (ρ:=(tPt (k+1))) aw.up ?_;intro h4 ci bj;replace I:=I.mono ci;have bu:(rpP (tLs (k+1)) (rpP rpV (rpS (rpP rpI (rpP rpI (rpQ (j+1))))))).R h4 O (PS,(M,(Value.slice none 0 0,s.2.2)).2):=zYI I bj;refine go4 ?_;refine xH 53 14 ?_;have bq:=RL.nil (ρ:=rpP (tPl (4*m+12) (m+n+12)) (rpP tII kF)) (h:=h4);refine zLS (A:=[_,_]) (ρ:=rpI) ax.up ?_;intro h5 ie bi;refine gcL (ι:=Nat×List Fc×Value×List Value×Value×List Value×Mem) (fun(f,U,J,ad,D,ac,mb)=>(MLe h5 mb∧((rpS rpI).Is mb J (ixZ s)∧(rpP (tLs (k+1)) (rpP rpV (rpS (rpP rpI (rpP rpI (rpQ (j+1))))))).R mb ad (PS,(D,s.2.2))∧RL (tFc (4*m+12) (m+n+12)) mb ac U∧D.oneCell'=true∧f≤s.2.1.length∧U=y3 s f),[(1,vP b1 0),(2,vP b2 0),(4,J),(5,vP b5 0),(7,vI ↑f)],[.gs 53 14 D U.length ac,.var b5 39 ad,.var b2 39 cq,.var b1 39 ct],mb,s.2.1.length-f)) (0,[],G,O,(.slice none 0 0),[],h5) ?_ ?_
 · exact⟨mle,(Rp.Is.cast bi (by rw[hI,ei];rfl)),bu.up,bq.up,rfl,by omega,rfl⟩
 rintro⟨f,U,J,ad,D,ac,mb⟩ ⟨fz,aj,H,Z,cf,fm,hF⟩
 refine yW ?_;have il:U.length=f:=by rw[hF];exact zK5 s f
 have dk:=zR7 hcd3 f fm;refine go5 ?_;refine lX (xB tT (Pc.snd (Pc.fst pH)) am) fun gt ho=>(gc4 (fun di=>?_) fun di=>?_)
 ·
  refine go6 ?_;refine lX (xB fF pH am) fun gr eq=>(go2 ?_);refine cL (ev3 rfl rfl rfl) call90 (fun w hs=>zCV (f:=f) hs eq aj oM oM oM (by first|omega|exact hcd3|exact av f oM|exact zAG s _) (by first|omega|exact hcd3|exact av f oM|exact zAG s _) (by first|omega|exact hcd3|exact av f oM|exact zAG s _) (by first|omega|exact hcd3|exact av f oM|exact zAG s _)) fun gq h6 id ep=>(nA (ρ:=(tFc 1 1)) (X:=((zT,(0:Rat)),([],([]:List Nat)))) kU (yI (yI (wB (yN dC)) (yN dC)) (yI uV tS)) fun b8 im eg=>?_);have bf:=(Le.p (Le.p (Le.t (Le.q (l:=4*m+11) oM)) (Le.q (l:=m+n+11) oM)) (Le.refl _)).R eg;refine yE (A:=[]) (uB sizeOf53 pH bf ep) fun cn ak=>(go5 ?_);refine lX (bM (xB tT (Pc.snd (Pc.fst pH)) H)) fun go eo=>?_;subst eo;refine gv (jU mh1 underlying36 rfl) rfl (go5 ?_);refine gcL (ι:=Nat×Mem) (fun(C,mk)=>(MLe h6 mk∧(C≤U.length∧cV (zLF (nfF s (ixZ s) f) U) U.length=cV (zLF (nfF s (ixZ s) f) U) C),[(1,vP b1 0),(2,vP b2 0),(4,J),(5,vP b5 0),(7,vI ↑f),(8,vP b8 0),(9,vI ↑C)],[.var b8 53 cn,.gs 53 14 D U.length ac,.var b5 39 ad,.var b2 39 cq,.var b1 39 ct],mk,C)) (U.length,h6) ?_ ?_
  · exact⟨mle,by omega,rfl⟩
  rintro⟨C,mk⟩ ⟨fy,hx,ch⟩
  refine yW ?_;refine go2 ?_;refine zL 12 _ [] [(0,.q),(1,.q),(2,.q),(3,.q),(4,.q),(5,.q),(6,.q),(7,.q),(8,.q),(9,.q),(10,.c),(11,.q)] yA nX (wI (by kernel_rfl)) nX (fun r hr=>hr) (go3 ?_);refine qW ((0:Int)<(↑C:Int)) (fun ap=>?_) (fun ap=>?_)
  ·
   rw[xE ap];refine oX rfl (xB bG pH ak) fun gn en=>(go1 ?_);refine oX rfl (bM (xB tT (Pc.snd (Pc.fst pH)) H)) fun gm em=>?_;subst em;refine yM rfl rfl rfl (fun h' L' hh hR=>yQ rfl) rfl (go1 ?_);refine yM rfl rfl rfl (fun h' L' hh hR=>(xD (C-1) (hR _ mh1) underlying36 sizeOf53 rfl rfl oM oM nP).cv (show _=zJ 1 D (((C-1)*14+0)) from congrArg (zJ 1 D) (by rfl))) rfl (aH (F:=fun v_=>(tFc (4*m+12) (m+n+12)).Is mk v_ (U.getD (C-1) zA)) rfl rfl rfl (wL bG (Pc.arr (Pc.here _) zA (C-1) oM) rfl nP rfl Z.up rfl) (tW mh1) rfl ?_);intro gk el;refine w_c rfl (t7 rfl rfl (sC (ev2 rfl rfl) call91 (fun w hs=>zGL hs en el (by first|omega|exact Nat.le_trans (zC0 hcd3 oM) dC|exact Nat.le_trans (dk _ (by rw[hF];exact bW (by rw[←hF];omega))) dC) (by first|omega|exact Nat.le_trans (zC0 hcd3 oM) dC|exact Nat.le_trans (dk _ (by rw[hF];exact bW (by rw[←hF];omega))) dC)) fun ea h7 fl ek=>?_));obtain rfl:ea=vB (lsF (nfF s (ixZ s) f) (U.getD (C-1) zA)):=ek;refine gc3 (fun au=>?_) fun au=>?_
   ·
    refine go9 ?_;refine gqL ((C-1),h7) ?_ ?_ (he:=⟨rfl,rfl,rfl,rfl,rfl,rfl,congrArg (fun z=>some (vI z)) oM,trivial⟩)
    · exact⟨mle,by omega,by rw[ch];exact zL0 oM au⟩
    omega
   refine go8 ?_;refine lX (bM (xB tT (Pc.snd (Pc.fst pH)) H)) fun dz cd=>?_;subst cd;refine lX (xV (ρ:=(tFc 1 1)) (wG (ps':=[]) underlying53 kU rfl rfl (lI underlying53) trivial rfl (yI (yI (wB (yN dC)) (yN dC)) (yI uV tS)) zW)) fun dy cc=>(zI (zU (ρ:=(tFc 1 1)) (m:=1) (xs:=[((zT,(0:Rat)),([],([]:List Nat)))]) (ps':=[(0,_)]) underlying36 kU rfl rfl rfl (yI (yI (wB (yN dC)) (yN dC)) (yI uV tS)) e2z (zH rfl (Pc.arr (Pc.here _) zA 0 dC) cc zW) (show 1*14≤16777216 from by decide) nP) rfl rfl rfl ?_)
   rintro dx fj ⟨dn,rfl,az⟩
   refine zY (A:=[]) (ρ:=(tFc 1 1)) az ?_;intro h8 ic bh;refine xK (A:=[_]) (qP (zX (ρ:=(tFc (4*m+12) (m+n+12))) (bytes:=264) underlying36 kU rfl rfl rfl rfl nP rfl rfl Z.up (bh.le (Le.s (Le.p (Le.p (Le.t (Le.q (l:=4*m+12) oM)) (Le.q (l:=m+n+12) oM)) (Le.refl _)))) bO bO)) rfl rfl rfl ?_
   rintro ai fi ⟨ae,dm,rfl,ay⟩
   refine go1 ?_;refine yE (A:=[_,_]) (uB sizeOf36 (Pc.snd (Pc.fst pH)) H (zAH ae)) fun cm ab=>(go3 ?_);refine bY (A:=[_]) (by rw[lAz];exact Nat.succ_pos _) (fun ob ft an ao=>?_);refine qT (A:=[_]) 10 [] [(0,.q),(1,.q),(2,.q),(3,.q),(4,.q),(5,.q),(6,.q),(7,.q),(8,.q),(9,.c)] yA nX (by kernel_rfl) nX (go1 ?_);refine wX rfl (bM (xB tT (Pc.snd (Pc.fst pH)) ab)) fun dw cb=>?_;subst cb;refine go2 ?_;refine xN rfl (fun _ _=>qH (C+1) underlying36 sizeOf53 rfl rfl ⟨_,_,an,ao⟩ oM (by simp only[lAz,lC,lN];omega)) rfl (go1 ?_);refine wX rfl (bM (xB tT (Pc.snd (Pc.fst pH)) ab)) fun dv ca=>?_;subst ca;refine go1 ?_;refine xN rfl (fun _ _=>qH C underlying36 sizeOf53 rfl rfl ⟨_,_,an,ao⟩ oM (by simp only[lAz,lC,lN];omega)) rfl ?_;refine w_c rfl (rQ (A:=[_]) (fun X=>lF (ρ:=(tFc (4*m+12) (m+n+12))) C an ao underlying36 sizeOf53 rfl rfl (by simp only[lAz,lC,lN];omega) ay) rfl (wP (by first|(simp;done)|grind)) ?_)
   rintro du fh ⟨fs,rfl,bp⟩
   refine go4 ?_;refine lX (bM (xB tT (Pc.snd (Pc.fst pH)) ab)) fun dt bz=>?_;subst bz;refine go1 ?_;refine lX (xB bG pH ak) fun dr bx=>(gv ((xD C mh1 underlying36 sizeOf53 rfl rfl oM (by rw[gA (by simp only[lAz,lC,lN];omega)];simp only[lAz,lC,lN];omega) nP).cv (show _=zJ 1 ai ((C*14+0)) from congrArg (zJ 1 ai) (by rfl))) rfl (gJ (A:=[_]) (F:=fun c_=>RL (tFc (4*m+12) (m+n+12)) h8 c_ ((fZ (U++[((zT,(0:Rat)),([],([]:List Nat)))]) C).set C (nfF s (ixZ s) f))) (pE sizeOf53 (Pc.arr (Pc.here _) zA C (by rw[gA (by simp only[lAz,lC,lN];omega)];simp only[lAz,lC,lN];omega)) rfl nP rfl rfl bp (bx.le (Le.p (Le.p (Le.t (Le.q (l:=4*m+12) oM)) (Le.q (l:=m+n+12) oM)) (Le.refl _))) rfl) ?_));intro cl bo;refine go8 ?_;refine xM (A:=[]) ?_;refine gqL ((f+1),((fZ (U++[((zT,(0:Rat)),([],([]:List Nat)))]) C).set C (nfF s (ixZ s) f)),J,cm,ai,cl,h8) ?_ ?_
   · exact⟨mle,aj.up,ab,bo,ae,by omega,by rw[lD oM];have cg:cV (zLF (nfF s (ixZ s) f) U) U.length=C:=by{rw[ch];exact zDS (fun e=>by first|omega|exact au e.2)};rw[←cg,hF];rfl⟩
   omega
  rw[yJ ap];refine go7 ?_;refine w_c rfl (lE rfl rfl rfl rfl (uQ ?_));refine lX (bM (xB tT (Pc.snd (Pc.fst pH)) H)) fun dz cd=>?_;subst cd;refine lX (xV (ρ:=(tFc 1 1)) (wG (ps':=[]) underlying53 kU rfl rfl (lI underlying53) trivial rfl (yI (yI (wB (yN dC)) (yN dC)) (yI uV tS)) zW)) fun dy cc=>(zI (zU (ρ:=(tFc 1 1)) (m:=1) (xs:=[((zT,(0:Rat)),([],([]:List Nat)))]) (ps':=[(0,_)]) underlying36 kU rfl rfl rfl (yI (yI (wB (yN dC)) (yN dC)) (yI uV tS)) e2z (zH rfl (Pc.arr (Pc.here _) zA 0 dC) cc zW) (show 1*14≤16777216 from by decide) nP) rfl rfl rfl ?_)
  rintro dx fj ⟨dn,rfl,az⟩
  refine zY (A:=[]) (ρ:=(tFc 1 1)) az ?_;intro h7 fl bg;refine xK (A:=[_]) (qP (zX (ρ:=(tFc (4*m+12) (m+n+12))) (bytes:=264) underlying36 kU rfl rfl rfl rfl nP rfl rfl Z.up (bg.le (Le.s (Le.p (Le.p (Le.t (Le.q (l:=4*m+12) oM)) (Le.q (l:=m+n+12) oM)) (Le.refl _)))) bO bO)) rfl rfl rfl ?_
  rintro ai fi ⟨ae,dm,rfl,ay⟩
  refine go1 ?_;refine yE (A:=[_,_]) (uB sizeOf36 (Pc.snd (Pc.fst pH)) H (zAH ae)) fun ck aa=>(go3 ?_);refine bY (A:=[_]) (by rw[lAz];exact Nat.succ_pos _) (fun ob ft an ao=>?_);refine qT (A:=[_]) 10 [] [(0,.q),(1,.q),(2,.q),(3,.q),(4,.q),(5,.q),(6,.q),(7,.q),(8,.q),(9,.c)] yA nX (by kernel_rfl) nX (go1 ?_);refine wX rfl (bM (xB tT (Pc.snd (Pc.fst pH)) aa)) fun dw cb=>?_;subst cb;refine go2 ?_;refine xN rfl (fun _ _=>qH (C+1) underlying36 sizeOf53 rfl rfl ⟨_,_,an,ao⟩ oM (by simp only[lAz,lC,lN];omega)) rfl (go1 ?_);refine wX rfl (bM (xB tT (Pc.snd (Pc.fst pH)) aa)) fun dv ca=>?_;subst ca;refine go1 ?_;refine xN rfl (fun _ _=>qH C underlying36 sizeOf53 rfl rfl ⟨_,_,an,ao⟩ oM (by simp only[lAz,lC,lN];omega)) rfl ?_;refine w_c rfl (rQ (A:=[_]) (fun X=>lF (ρ:=(tFc (4*m+12) (m+n+12))) C an ao underlying36 sizeOf53 rfl rfl (by simp only[lAz,lC,lN];omega) ay) rfl (wP (by first|(simp;done)|grind)) ?_)
  rintro du fh ⟨fr,rfl,bn⟩
  refine go4 ?_;refine lX (bM (xB tT (Pc.snd (Pc.fst pH)) aa)) fun dt bz=>?_;subst bz;refine go1 ?_;refine lX (xB bG pH ak) fun dr bx=>(gv ((xD C mh1 underlying36 sizeOf53 rfl rfl oM (by rw[gA (by simp only[lAz,lC,lN];omega)];simp only[lAz,lC,lN];omega) nP).cv (show _=zJ 1 ai ((C*14+0)) from congrArg (zJ 1 ai) (by rfl))) rfl (gJ (A:=[_]) (F:=fun c_=>RL (tFc (4*m+12) (m+n+12)) h7 c_ ((fZ (U++[((zT,(0:Rat)),([],([]:List Nat)))]) C).set C (nfF s (ixZ s) f))) (pE sizeOf53 (Pc.arr (Pc.here _) zA C (by rw[gA (by simp only[lAz,lC,lN];omega)];simp only[lAz,lC,lN];omega)) rfl nP rfl rfl bn (bx.le (Le.p (Le.p (Le.t (Le.q (l:=4*m+12) oM)) (Le.q (l:=m+n+12) oM)) (Le.refl _))) rfl) ?_));intro cj bm;refine go8 ?_;refine xM (A:=[]) ?_;refine gqL ((f+1),((fZ (U++[((zT,(0:Rat)),([],([]:List Nat)))]) C).set C (nfF s (ixZ s) f)),J,ck,ai,cj,h7) ?_ ?_
  · exact⟨mle,aj.up,aa,bm,ae,by omega,by rw[lD oM];have cg:cV (zLF (nfF s (ixZ s) f) U) U.length=C:=by{rw[ch];exact zDS (fun e=>by first|omega|exact au e.2)};rw[←cg,hF];rfl⟩
  omega
 have ef:f=s.2.1.length:=by omega
 refine go7 ?_;refine lX (xB fF pH H) fun gj ej=>?_;have be:=(Le.p (Le.s (Le.t (Le.q (l:=k+1) oM))) (Le.p (Le.refl _) (Le.s (Le.p (Le.refl _) (Le.p (Le.refl _) (Le.q (l:=j+1) oM)))))).R dh;refine yE (A:=[_,_]) (uB sizeOf39 pH be ej) fun fq bt=>(go3 ?_);have fp:U=nrF s:=by rw[hF,ef];exact(if_pos bc).symm
 have fo:PS=nrP s:=by rw[hP,ei];exact(if_pos bc).symm
 subst fp;subst fo;refine uR (tU (t:=2) fF mh2 rfl bt) ?_;intro fu bb bl;refine fC (.cons_cons _ (List.nil_sublist _)) (fun E S=>yD rfl bb E S) ?_;exact⟨_,_,(Rp.Is.cast bl (by rw[show nrE s=s.2.2 from if_pos bc])),rfl,cf,Z.up⟩
end Go.Proofs.YtpkaegemlpaenaaGreat
namespace Bk
set_option linter.unusedVariables false
set_option linter.unusedSimpArgs false
open Go Go.RowKit
section
variable {P:Program}{n:Nat}{w0:World}{h0:Mem}{e:List (Nat×Value)}{L:List Res}{h:Mem}{Q:Exit→Act→World→Prop}{ds:Option Tmp}{ty:TypeId}{ps:String}{af:Array Edge}{gd:Option (Nat×Bool)}{α β:Type}
variable {E:TypeId}{cs:List Value}{v:Value}{ρ:Rp α}{σ:Rp β}{g:List α→β}{s:List α→β→List α}{xs:List α}{off k:Nat}
theorem zGG{w:World}{h':Mem}(hm:.gs E ρ.n v xs.length cs∈L)(pc:Pc (rpA xs.length ρ) off σ g s)(hp:0<σ.n)(r:RL ρ h cs xs)(S:St w0 h0 L h' w):
 ∃b o',∀d,zJ 1 v (off+d)=vP b (o'+off+d):=by
 have D:off+σ.n≤xs.length*ρ.n:=pc.fits;have C:=r.len;obtain⟨b,o',G,z,_⟩:=zHK (l:=1) (zGB hm S) (by decide) (show off+1≤cs.length by omega);refine⟨b,o',fun d=>?_⟩;rw[z];simp[zJ,qV,Nat.add_assoc]
theorem sU{x:Operand}(pc:Pc (rpA xs.length ρ) off σ g s)(hk:k=off)(hp:0<σ.n)(r:RL ρ h cs xs)(hm:.gs E ρ.n v xs.length cs∈L)(hx:zG e x=some (zJ 1 v k)):
 OpV P n w0 h0 ⟨ds,.nilCheck x,ty,ps,af,gd⟩ e L h (zJ 1 v k):=by
 subst hk;intro a w C S;obtain⟨b,o',H⟩:=zGG hm pc hp r S;have z:=H 0;rw[Nat.add_zero,Nat.add_zero] at z;rw[z] at hx ⊢;exact kM hx a w C S
theorem gV{t:TypeId}{x:Operand}{f:Nat}{fs:Array Field}{fl:Field}{m:Nat}(pc:Pc (rpA xs.length ρ) off σ g s)(hk:k=off)(hp:0<σ.n)(r:RL ρ h cs xs)(hm:.gs E ρ.n v xs.length cs∈L)(ht:P.underlying t=some (.struct fs))(hf:fs[f]?=some fl)(hsz:∀w,(Go.sizeOf fl.type).run P w=.ok (m+1) w)(hx:zG e x=some (zJ 1 v k)):
 OpV P n w0 h0 ⟨ds,.fieldAddr t x f,ty,ps,af,gd⟩ e L h (zJ 1 v (k+fl.offset)):=by
 subst hk;intro a w C S;obtain⟨b,o',H⟩:=zGG hm pc hp r S;have z:=H 0;rw[Nat.add_zero,Nat.add_zero] at z;rw[H];rw[z] at hx;exact xJ ht hf hsz hx a w C S
theorem tN{t E':TypeId}{x y:Operand}{m sz:Nat}{q:Int}(i:Nat)(pc:Pc (rpA xs.length ρ) off σ g s)(hk:k=off)(hp:0<σ.n)(r:RL ρ h cs xs)(hm:.gs E ρ.n v xs.length cs∈L)(ht:P.underlying t=some (.array m E'))(hsz:∀w,(Go.sizeOf E').run P w=.ok sz w)(hx:zG e x=some (zJ 1 v k))(hy:zG e y=some (vI q))(hq:q=(i:Int))(hi:i<m):
 OpV P n w0 h0 ⟨ds,.indexAddr t x y,ty,ps,af,gd⟩ e L h (zJ 1 v (k+i*sz)):=by
 subst hk;intro a w C S;obtain⟨b,o',H⟩:=zGG hm pc hp r S;have z:=H 0;rw[Nat.add_zero,Nat.add_zero] at z;rw[H];rw[z] at hx;exact zV i ht hsz hx hy hq hi a w C S
end
end Bk
namespace Go.Proofs.YtpkaegemlpaenaaGreat
open Bk Go Tryz
set_option linter.unusedVariables false
set_option linter.unusedSimpArgs false
set_option maxRecDepth 10000
set_option maxHeartbeats 1000000
attribute [local irreducible] GL GC GQ W OpV
theorem vZ{w0:World}{h0:Mem}(hs:MLe h0 (mem w0)){n:Int}(hn1:-9223372036854775808≤n)(hn2:n<9223372036854775808):
 Calls Tryz.prog 88 #[vI n] w0 (Ret w0 h0 (fun h r=>kF.Is h r (qZ ((n:Int):Rat)))):=by
 refine cb1 6 (vI n) func88 hs ?_;refine zM (zE (asg rfl rfl (zR (zF (zM (zE (mv rfl rfl (cL (ev1 rfl) call27 (fun w hs=>sW hs oM oM) fun v4 h1 U r4=>?_))))))));obtain⟨H,I,z,C,D,G⟩:=uX r4;subst z;refine cL (ev1 rfl) call134 (fun w hs=>zN9 hs C D oM) fun Z h2 O J=>?_;subst J;have M:=zBZ ((n:Int):Rat);refine asg rfl rfl (zR (zF (bX (zC rfl rfl ?_))));exact(bV (zTV ((n:Int):Rat)))
set_option maxHeartbeats 1000000 in
theorem zOZ{w0:World}{h0:Mem}(hs:MLe h0 (mem w0)){k l1 l2:Nat}{vL:Value}{L:(List (List Tq))}(rL:(tLL k).Is h0 vL L){vlo:Value}{lo:Rat}(rlo:(rpQ l1).Is h0 vlo lo){vhi:Value}{hi:Rat}(rhi:(rpQ l2).Is h0 vhi hi)(hcd0:k≤20)(hcd1:l1≤20)(hcd2:l2≤20)(hcd3:∀x,x∈L→lZ x)(hcd4:prE L lo hi=0→okS (prR L lo hi)):
 Calls Tryz.prog 46 #[vL,vlo,vhi] w0 (tK w0 h0 (fun h r L_=>∃u0 vF cs,r=.tuple #[u0,vI (prE L lo hi)]∧(rpP (tLs (k+l1+l2+20)) (rpP rpV (rpS (rpP rpI (rpP rpI (rpQ 5)))))).Is h u0 (prP L lo hi,(vF,[]))∧L_=[.gs 53 14 vF (prF L lo hi).length cs]∧vF.oneCell'=true∧RL (tFc (1000*k+1000*l1+1000*l2+2000) (1000*k+1000*l1+1000*l2+2000)) h cs (prF L lo hi))):=by
 refine cb3 341 vL vlo vhi func46 hs ?_;refine zM (zE (nB rlo fun b4 dz db=>(nB rhi fun b5 dy da=>(nA (ρ:=(rpP (tLs 1) (rpP rpV (rpS (rpP rpI (rpP rpI (rpQ 1))))))) (X:=([],((Value.slice none 0 0),[]))) tX (yI uV (yI pV uV)) fun b6 dx bh=>(asg (v:=vI (0)) rfl rfl (zR (zF (zM (zM (zE (mv rfl rfl (cL (ev1 rfl) call85 (fun w hs=>zE1 hs rL oM (by first|omega|exact hcd3)) fun zx h1 du ss=>?_))))))))))));obtain⟨jh,rfl,li⟩:=ss
 change (rpS rpI).Is h1 jh (tE L 0 1) at li
 refine mv rfl rfl (gv (kS (vs:=[_,_]) rfl rfl) rfl (gv (kS (vs:=[_,_]) rfl rfl) rfl (asg rfl rfl (asg rfl rfl (zR (zF (zM (zE (mv rfl rfl (gv (oF (q:=0) rfl rfl) rfl (zR (wQ (e':=[(0,_),(4,_),(5,_),(6,_),(9,_),(40,_)]) e6z (zF ?_)))))))))))));refine cnd (fun gk=>?_) fun gk=>?_
 ·
  refine zM (zE (lX (xV (ρ:=(rpP (tLs 1) (rpP rpV (rpS (rpP rpI (rpP rpI (rpQ 1))))))) (wG (ps':=[]) underlying39 tX rfl rfl (bK underlying39) trivial rfl (yI uV (yI pV uV)) zW)) fun zw sr=>(mv rfl rfl ?_)));replace bh:=bh.mono du;refine yE (A:=[]) (uB sizeOf39 pH bh sr) fun yy ns=>(asg rfl rfl (zR (zF (bX (aO ?_)))));obtain⟨e1,e2,e3⟩:=pr_1 (lo:=lo) (hi:=hi) gk;rw[e1,e2,e3];refine bC 53 14 ?_;have nq:=RL.nil (ρ:=rpP (tPl (1000*k+1000*l1+1000*l2+2000) (1000*k+1000*l1+1000*l2+2000)) (rpP tII kF)) (h:=h1);refine uR (tU (t:=6) fF mh1 rfl ns) ?_;intro ze lj no;refine fC (.cons_cons _ (List.nil_sublist _)) (fun E S=>jX rfl lj (sR rfl) E S) ?_;exact⟨_,_,_,rfl,(Rp.Is.le no (Le.p (Le.s (Le.t (Le.q (l:=k+l1+l2+20) oM))) (Le.p (Le.refl _) (Le.s (Le.p (Le.refl _) (Le.p (Le.refl _) (Le.q (l:=5) dC))))))),rfl,rfl,nq⟩
 refine uK (zF (zM (zM (zE (mv rfl rfl ?_)))));have gf:vS L 0 1=0:=Classical.not_not.1 gk;have dr:=zV5 gf;have ls:=zXU dr.2;replace rL:=rL.mono du;refine cL (ev1 rfl) call86 (fun w hs=>zE3 hs rL oM (by first|omega|exact fun l hl=>Nat.le_trans (dr.2 l hl) dC) (by first|omega|exact fun l hl=>Nat.le_trans (dr.2 l hl) dC)) fun rs h2 eg sq=>?_;obtain rfl:rs=vI (ouZ L):=sq;have tb:=z5 L L.length;refine gv (oF (q:=1) rfl rfl) rfl (zR (zF ?_));refine cnd (fun dw=>?_) fun dw=>?_
 ·
  refine zM (zE (lX (xV (ρ:=(rpP (tLs 1) (rpP rpV (rpS (rpP rpI (rpP rpI (rpQ 1))))))) (wG (ps':=[]) underlying39 tX rfl rfl (bK underlying39) trivial rfl (yI uV (yI pV uV)) zW)) fun zv sp=>?_));replace bh:=bh.mono (du.trans eg);refine yE (A:=[]) (uB sizeOf39 pH bh sp) fun yx nr=>(asg (v:=vI (33)) rfl rfl (zR (zF (bX (aO ?_)))));obtain⟨e1,e2,e3⟩:=yCS (lo:=lo) (hi:=hi) gf dw;rw[e1,e2,e3];refine bC 53 14 ?_;have np:=RL.nil (ρ:=rpP (tPl (1000*k+1000*l1+1000*l2+2000) (1000*k+1000*l1+1000*l2+2000)) (rpP tII kF)) (h:=h2);refine uR (tU (t:=6) fF mh1 rfl nr) ?_;intro uw im jw;refine fC (.cons_cons _ (List.nil_sublist _)) (fun E S=>jX rfl im (sR rfl) E S) ?_;exact⟨_,_,_,rfl,(Rp.Is.le jw (Le.p (Le.s (Le.t (Le.q (l:=k+l1+l2+20) oM))) (Le.p (Le.refl _) (Le.s (Le.p (Le.refl _) (Le.p (Le.refl _) (Le.q (l:=5) dC))))))),rfl,rfl,np⟩
 refine uK (zF (zM (zM (zE ?_))));replace db:=db.mono (du.trans eg);refine lX (xB yB pH db) fun zu so=>?_;replace da:=da.mono (du.trans eg);refine lX (xB yB pH da) fun zt sn=>(cL (ev2 rfl rfl) call17 (fun w hs=>kA hs so sn oM) fun rr h3 dt sm=>?_);obtain rfl:rr=vI (yP lo hi):=sm;have tq:=uN lo hi;refine gv (sD (q:=0) rfl rfl) rfl (zR (zF ?_));refine cnd (fun fb=>?_) fun fb=>?_
 ·
  refine zG0 (e':=[(6,_)]) ⟨rfl,trivial⟩ (zM (zE (lX (xV (ρ:=(rpP (tLs 1) (rpP rpV (rpS (rpP rpI (rpP rpI (rpQ 1))))))) (wG (ps':=[]) underlying39 tX rfl rfl (bK underlying39) trivial rfl (yI uV (yI pV uV)) zW)) fun zs sl=>?_)));replace bh:=bh.mono ((du.trans eg).trans dt);refine yE (A:=[]) (uB sizeOf39 pH bh sl) fun uh lh=>(asg (v:=vI (9)) rfl rfl (zR (zF (bX (aO ?_)))));obtain⟨e1,e2,e3⟩:=pr_9 gf (Classical.not_not.1 dw) fb;rw[e1,e2,e3];refine bC 53 14 ?_;have kh:=RL.nil (ρ:=rpP (tPl (1000*k+1000*l1+1000*l2+2000) (1000*k+1000*l1+1000*l2+2000)) (rpP tII kF)) (h:=h3);refine uR (tU (t:=6) fF mh1 rfl lh) ?_;intro uv il jv;refine fC (.cons_cons _ (List.nil_sublist _)) (fun E S=>jX rfl il (sR rfl) E S) ?_;exact⟨_,_,_,rfl,(Rp.Is.le jv (Le.p (Le.s (Le.t (Le.q (l:=k+l1+l2+20) oM))) (Le.p (Le.refl _) (Le.s (Le.p (Le.refl _) (Le.p (Le.refl _) (Le.q (l:=5) dC))))))),rfl,rfl,kh⟩
 refine uK (zF (zM (zE (nA (ρ:=(rpP rpV (rpP rpV (rpS (rpP rpI (rpP rpI (rpQ 1))))))) (X:=((Value.slice none 0 0),((Value.slice none 0 0),[]))) tX (yI pV (yI pV uV)) fun Z ea oa=>(zR (zF (zM (zE (asg rfl rfl (zR (zF (zM (zE ?_)))))))))))));refine asg rfl rfl (zR (zF (zM (zE (asg rfl rfl (zR (zF (zM (zM (zE (asg (v:=vI (0)) rfl rfl (zR (zF ?_)))))))))))));refine wR (xH 118 2 ?_);have kg:=RL.nil (ρ:=rpA 2 rpI) (h:=h3);refine xH 31 9 ?_;have kf:=RL.nil (ρ:=rpT (rpQ (k+1))) (h:=h3);refine xH 22 1 ?_;have ke:=RL.nil (ρ:=rpS rpI) (h:=h3);refine gcL (ι:=Nat×List (List Int)×List Tq×List (List Int)×Value×List Value×Value×List Value×Value×List Value×Mem) (fun(i,ED,I,II,ac,ar,D,bb,C,av,ma)=>(MLe h3 ma∧(RL (rpA 2 rpI) ma ar ED∧RL (tPt (k+1)) ma bb I∧RL (rpS rpI) ma av II∧i≤L.length∧ED.length=j1 L i∧I=ptB L i∧II=ptN L i),[(0,vL),(4,vP b4 0),(5,vP b5 0),(6,vP b6 0),(10,vP Z 0),(11,ac),(12,D),(13,C),(14,vI ↑i)],[.gs 22 1 C II.length av,.gs 31 9 D I.length bb,.gs 118 2 ac ED.length ar,.var Z 39 ea,.var b6 39 dx,.var b5 29 dy,.var b4 29 dz],ma,L.length-i)) (0,[],[],[],(.slice none 0 0),[],(.slice none 0 0),[],(.slice none 0 0),[],h3) ?_ ?_
 · exact⟨mle,kg,kf,ke,by omega,rfl,rfl,rfl⟩
 rintro⟨i,ED,I,II,ac,ar,D,bb,C,av,ma⟩ ⟨ce,kd,ai,ab,tn,rh,bi,cg⟩
 refine yW ?_;have tr:=zMN L i;have ra:=ls i tn;have hIl:II.length=i:=by rw[cg];exact xL _ _
 rw[←bi] at tr;refine zM (zM (zE (mv rfl rfl (mv rfl rfl ?_))));replace rL:=rL.mono ((eg.trans dt).trans ce);refine gv (uP underlying76 rfl rL) rfl (gv (yG rfl rfl) rfl (zR (zF ?_)));refine cnd (fun rf=>?_) fun rf=>?_
 ·
  refine uK (zF (zM (wR (zM (zE (asg rfl rfl (zR (zF (zM (zM (zE (asg (v:=vI (0)) rfl rfl (zR ?_)))))))))))));refine zF (wR (xH 3 1 ?_));have kc:=RL.nil (ρ:=rpI) (h:=ma);refine gcL (ι:=Nat×List Tq×List Int×Value×List Value×Value×List Value×Mem) (fun(q,B2,LN,J,bj,bc,dj,mb)=>(MLe ma mb∧(RL (tPt (k+1)) mb bj B2∧RL rpI mb dj LN∧q≤(L.getD i []).length∧B2=plB (ptB L i) (L.getD i []) q∧LN=plN (ptB L i) (L.getD i []) q),[(0,vL),(4,vP b4 0),(5,vP b5 0),(6,vP b6 0),(10,vP Z 0),(11,ac),(12,J),(13,C),(14,vI ↑i),(15,bc),(16,vI ↑q)],[.gs 3 1 bc LN.length dj,.gs 22 1 C II.length av,.gs 31 9 J B2.length bj,.gs 118 2 ac ED.length ar,.var Z 39 ea,.var b6 39 dx,.var b5 29 dy,.var b4 29 dz],mb,(L.getD i []).length-q)) (0,I,[],D,bb,(.slice none 0 0),[],ma) ?_ ?_
  · exact⟨mle,ai,kc,by omega,by rw[bi];rfl,rfl⟩
  rintro⟨q,B2,LN,J,bj,bc,dj,mb⟩ ⟨je,ah,bf,hq1,fe,iu⟩
  refine yW ?_;have ts:=zF9 (ptB L i) (L.getD i []) q;rw[←fe,←bi] at ts;have tt:LN.length=q:=by rw[iu];exact xL _ _
  have ij:=dr.2 i oM;refine zM (zM (zE (mv rfl rfl (mv rfl rfl (mv rfl rfl ?_)))));replace rL:=rL.mono je;refine lX (xI [] i underlying76 uJ rL) fun zr sk=>(lX (xA uJ sk) fun zq sj=>(gv (uP underlying35 rfl sj) rfl (gv (yG rfl rfl) rfl (zR (zF ?_)))));refine cnd (fun re=>?_) fun re=>?_
  ·
   refine uK (zF (zM (wR (zM (zE (asg (v:=vI (-1)) rfl rfl (zR (zF (zM (zM (zE (asg (v:=vI (0)) rfl rfl (zR ?_)))))))))))));refine zF (wR ?_);refine gcL (ι:=Nat×Mem) (fun(j,mj)=>(MLe mb mj∧(j≤B2.length),[(0,vL),(4,vP b4 0),(5,vP b5 0),(6,vP b6 0),(10,vP Z 0),(11,ac),(12,J),(13,C),(14,vI ↑i),(15,bc),(16,vI ↑q),(17,vI (u9 B2 ((L.getD i []).getD q zT) j)),(18,vI ↑j)],[.gs 3 1 bc LN.length dj,.gs 22 1 C II.length av,.gs 31 9 J B2.length bj,.gs 118 2 ac ED.length ar,.var Z 39 ea,.var b6 39 dx,.var b5 29 dy,.var b4 29 dz],mj,B2.length-j)) (0,mb) ?_ ?_
   · exact⟨mle,oM⟩
   rintro⟨j,mj⟩ ⟨co,qz⟩
   refine yW ?_;have hj1:=qz;have hfr:=zDL B2 ((L.getD i []).getD q zT) j;refine zM (zM (zE (mv rfl rfl (mv rfl rfl (gv (jU mh2 underlying35 rfl) rfl (gv (yG rfl rfl) rfl (zR (zF ?_))))))));refine cnd (fun rd=>?_) fun rd=>?_
   ·
    refine uK (zF (zM (wR (zM ?_))));refine zL 30 _ [] [(0,.q),(1,.q),(2,.q),(3,.q),(4,.q),(5,.q),(6,.q),(7,.q),(8,.q),(9,.q),(10,.q),(11,.q),(12,.q),(13,.c),(14,.q),(15,.q),(16,.q),(17,.q),(18,.q),(19,.q),(20,.q),(21,.q),(22,.q),(23,.q),(24,.q),(25,.q),(26,.q),(27,.q),(28,.c),(29,.q)] yA nX (wI (by kernel_rfl)) nX (fun r hr=>hr) (uW rfl rfl rfl (uW rfl rfl rfl (w_q rfl (fun h' L' hh hR=>(xD j (hR _ mh2) underlying35 sizeOf31 rfl rfl rfl bO nP).cv (show _=zJ 1 J ((j*9+0)) from congrArg (zJ 1 J) (by rfl))) rfl ?_)));replace ah:=ah.mono co;refine w_q rfl (fun h' L' hh hR=>(tN (sz:=3) (q:=0) 0 (Pc.arr (Pc.here _) zT j bO) rfl nP (ah.mono hh) (hR _ mh2) underlying31 sizeOf29 rfl rfl rfl dC).cv (show _=zJ 1 J ((j*9+0)) from congrArg (zJ 1 J) (by show(j*9+0)+0*3=(j*9+0);omega))) rfl (mS (F:=fun v_=>(rpQ (k+1)).Is mj v_ ((B2.getD j zT).x)) rfl (wL yB (Pc.arr (Pc.tx (Pc.here _)) zT j bO) rfl nP rfl ah rfl) (tW mh2) rfl ?_);intro zp si;refine uW rfl rfl rfl (uW rfl rfl rfl ?_);replace rL:=rL.mono co;refine wX rfl (xI [] i underlying76 uJ rL) fun zo sf=>(wX rfl (xA uJ sf) fun zn se=>(uW rfl rfl rfl (wX rfl (xI zT q underlying35 zN se) fun zm sd=>(mS (F:=fun v_=>AtP (rpQ k) mj v_ (((L.getD i []).getD q zT).x)) rfl (zEX (q:=0) 0 underlying31 sizeOf29 (Pc.tx (Pc.here _)) rfl rfl rfl sd rfl dC rfl) zC6 rfl ?_))));intro zl sc;refine wX rfl (xA yB sc) fun zk sb=>?_;refine w_c rfl (sC (ev2 rfl rfl) call73 (fun w hs=>tD hs si sb oM) fun rq h4 ap sa=>?_);obtain rfl:rq=vB (((B2.getD j zT).x)=(((L.getD i []).getD q zT).x)):=sa;refine uW rfl rfl rfl ?_;refine qW (((B2.getD j zT).x)=(((L.getD i []).getD q zT).x)) (fun eh=>?_) (fun eh=>?_)
    ·
     rw[xE eh];refine yM rfl rfl rfl (fun h' L' hh hR=>yQ rfl) rfl (yM rfl rfl rfl (fun h' L' hh hR=>yQ rfl) rfl (yM rfl rfl rfl (fun h' L' hh hR=>(xD j (hR _ mh2) underlying35 sizeOf31 rfl rfl rfl bO nP).cv (show _=zJ 1 J ((j*9+0)) from congrArg (zJ 1 J) (by rfl))) rfl ?_));replace ah:=ah.mono ap;refine yM rfl rfl rfl (fun h' L' hh hR=>(tN (sz:=3) (q:=1) 1 (Pc.arr (Pc.here _) zT j bO) rfl nP (ah.mono hh) (hR _ mh2) underlying31 sizeOf29 rfl rfl rfl dC).cv (show _=zJ 1 J ((j*9+3)) from congrArg (zJ 1 J) (by show(j*9+0)+1*3=(j*9+3);omega))) rfl (aH (F:=fun v_=>(rpQ (k+1)).Is h4 v_ ((B2.getD j zT).y)) rfl rfl rfl (wL yB (Pc.arr (Pc.ty (Pc.here _)) zT j bO) rfl nP rfl ah rfl) (tW mh2) rfl ?_);intro zj ry;refine yM rfl rfl rfl (fun h' L' hh hR=>yQ rfl) rfl (yM rfl rfl rfl (fun h' L' hh hR=>yQ rfl) rfl ?_);replace rL:=rL.mono ap;refine oX rfl (xI [] i underlying76 uJ rL) fun zi rx=>(oX rfl (xA uJ rx) fun zh rv=>(yM rfl rfl rfl (fun h' L' hh hR=>yQ rfl) rfl (oX rfl (xI zT q underlying35 zN rv) fun zg ru=>(aH (F:=fun v_=>AtP (rpQ k) h4 v_ (((L.getD i []).getD q zT).y)) rfl rfl rfl (zEX (q:=1) 1 underlying31 sizeOf29 (Pc.ty (Pc.here _)) rfl rfl rfl ru rfl dC rfl) zC6 rfl ?_))));intro zf rt;refine oX rfl (xA yB rt) fun yd qs=>?_;refine w_c rfl (t7 rfl rfl (sC (ev2 rfl rfl) call73 (fun w hs=>tD hs ry qs oM) fun nn h5 cl qr=>?_));obtain rfl:nn=vB (((B2.getD j zT).y)=(((L.getD i []).getD q zT).y)):=qr;refine xN rfl (fun _ _=>pF rfl rfl) rfl (pA (wQ (e':=[(0,_),(4,_),(5,_),(6,_),(10,_),(11,_),(12,_),(13,_),(14,_),(15,_),(16,_),(17,_),(18,_),(102,_)]) ⟨rfl,rfl,rfl,rfl,rfl,rfl,rfl,rfl,rfl,rfl,rfl,rfl,rfl,rfl,trivial⟩ (zF ?_)));refine cnd (fun en=>?_) fun en=>?_
     ·
      refine zE (mv rfl rfl (asg rfl rfl (zR (sH (zF (zE (mv rfl rfl (gv (zP (q:=1) rfl rfl oM oM) rfl (asg rfl rfl (zR ?_))))))))));refine gqL ((j+1),h5) ?_ ?_ (he:=⟨rfl,rfl,rfl,rfl,rfl,rfl,rfl,rfl,rfl,rfl,rfl,congrArg (fun z=>some (vI z)) (fd_t ⟨by assumption,en⟩),rfl,trivial⟩)
      · exact⟨mle,oM⟩
      omega
     refine uK (sH (zF (zE (mv rfl rfl (gv (zP (q:=1) rfl rfl oM oM) rfl (asg rfl rfl (zR ?_)))))));refine gqL ((j+1),h5) ?_ ?_ (he:=⟨rfl,rfl,rfl,rfl,rfl,rfl,rfl,rfl,rfl,rfl,rfl,congrArg (fun z=>some (vI z)) (yAX (fun e=>en e.2)),rfl,trivial⟩)
     · exact⟨mle,oM⟩
     omega
    rw[yJ eh];refine wT rfl rfl rfl rfl rfl (wT rfl rfl rfl rfl rfl (wT rfl rfl rfl rfl rfl (wT rfl rfl rfl rfl rfl (wT rfl rfl rfl rfl rfl (wT rfl rfl rfl rfl rfl (wT rfl rfl rfl rfl rfl (wT rfl rfl rfl rfl rfl (wT rfl rfl rfl rfl rfl (wT rfl rfl rfl rfl rfl (wT rfl rfl rfl rfl rfl (wT rfl rfl rfl rfl rfl (wT rfl rfl rfl rfl rfl ?_))))))))))));refine w_c rfl (lE rfl rfl rfl rfl (xN rfl (fun _ _=>pG rfl rfl) rfl (pA (wQ (e':=[(0,_),(4,_),(5,_),(6,_),(10,_),(11,_),(12,_),(13,_),(14,_),(15,_),(16,_),(17,_),(18,_),(102,_)]) ⟨rfl,rfl,rfl,rfl,rfl,rfl,rfl,rfl,rfl,rfl,rfl,rfl,rfl,rfl,trivial⟩ (zF (zFH rfl (uK (sH (zF (zE (mv rfl rfl (gv (zP (q:=1) rfl rfl oM oM) rfl (asg rfl rfl ?_)))))))))))));refine zR ?_;refine gqL ((j+1),h4) ?_ ?_ (he:=⟨rfl,rfl,rfl,rfl,rfl,rfl,rfl,rfl,rfl,rfl,rfl,congrArg (fun z=>some (vI z)) (yAX (fun e=>absurd e.1 (by assumption))),rfl,trivial⟩)
    · exact⟨mle,oM⟩
    omega
   refine kY (uF (uF (kX (zF (zM (zM (zE (mv rfl rfl (gv (yG (q:=0) rfl rfl) rfl (zR (zF ?_)))))))))));refine cnd (fun em=>?_) fun em=>?_
   ·
    have ej:j=B2.length:=by omega
    have dv:fdZ B2 ((L.getD i []).getD q zT)<0:=by unfold fdZ;rw[←ej];exact em
    refine zM (zE (mv rfl rfl (gv (jU mh2 underlying35 rfl) rfl (asg rfl rfl (zR (zF (zE (mv rfl rfl (mv rfl rfl (mv rfl rfl ?_))))))))));replace rL:=rL.mono co;refine lX (xI [] i underlying76 uJ rL) fun yc qp=>(lX (xA uJ qp) fun yb qo=>(mv rfl rfl (lX (xI zT q underlying35 zN qo) fun ya qn=>(lX (xA zN qn) fun xz qm=>(zI (zU (ρ:=(tPt (k+1))) (m:=1) (xs:=[((L.getD i []).getD q zT)]) (ps':=[(0,_)]) underlying35 yX rfl rfl rfl (wB (yN oM)) e2z (zH rfl (Pc.arr (Pc.here _) zT 0 dC) (qm.le (Le.t (Le.q (l:=k+1) oM))) zW) (show 1*9≤16777216 from by decide) nP) rfl rfl rfl ?_)))))
    rintro xy yt ⟨ur,rfl,ky⟩
    refine zY (A:=[]) (ρ:=(tPt (k+1))) ky ?_;intro h4 ap jt;replace ah:=ah.mono (co.trans ap);refine xK (A:=[_,_]) (qP (zX (ρ:=(tPt (k+1))) (bytes:=168) underlying35 yX rfl rfl rfl rfl nP rfl rfl ah jt bO bO)) rfl rfl rfl ?_
    rintro nm ys ⟨th,na,rfl,kx⟩
    refine asg rfl rfl (zR (wQ (e':=[(0,_),(4,_),(5,_),(6,_),(10,_),(11,_),(13,_),(14,_),(15,_),(16,_),(17,_),(12,_)]) ⟨rfl,rfl,rfl,rfl,rfl,rfl,rfl,rfl,rfl,rfl,rfl,rfl,trivial⟩ (zF (zE (mv rfl rfl (mv rfl rfl (zI (zU (ρ:=rpI) (m:=1) (xs:=[(↑B2.length:Int)]) (ps':=[(0,_)]) underlying22 fO rfl rfl rfl wD e2z (zH rfl (Pc.arr (Pc.here _) (0:Int) 0 dC) (jD oM oM) zW) (show 1*1≤16777216 from by decide) nP) rfl rfl rfl ?_)))))))
    rintro nl qw ⟨mz,rfl,ee⟩
    refine zY (A:=[]) (ρ:=rpI) ee ?_;intro h5 cl js;replace bf:=bf.mono ((co.trans ap).trans cl);refine xK (A:=[]) (qP (zX (ρ:=rpI) (bytes:=8) underlying22 fO rfl rfl rfl rfl nP rfl rfl bf js bO bO)) rfl rfl rfl ?_
    rintro fj qv ⟨lr,ev,rfl,ed⟩
    refine asg rfl rfl (zR (sH (zF (zE (mv rfl rfl (gv (zP (q:=1) rfl rfl oM oM) rfl (asg rfl rfl (zR ?_))))))));refine gqL ((q+1),(B2++[((L.getD i []).getD q zT)]),(LN++[(↑B2.length:Int)]),nm,na,fj,ev,h5) ?_ ?_
    · exact⟨mle,kx.up,ed,by omega,by rw[fe] at dv ⊢;exact(if_pos dv).symm,by rw[iu,show(↑B2.length:Int)=adN (plB (ptB L i) (L.getD i []) q) ((L.getD i []).getD q zT) from by rw[fe] at dv ⊢;exact(if_pos dv).symm];rfl⟩
    omega
   have ej:j=B2.length:=by omega
   have dv:¬fdZ B2 ((L.getD i []).getD q zT)<0:=by unfold fdZ;rw[←ej];exact em
   refine uK (zF (zE (mv rfl rfl (mv rfl rfl (zI (zU (ρ:=rpI) (m:=1) (xs:=[(u9 B2 ((L.getD i []).getD q zT) j)]) (ps':=[(0,_)]) underlying22 fO rfl rfl rfl wD e2z (zH rfl (Pc.arr (Pc.here _) (0:Int) 0 dC) (jD oM oM) zW) (show 1*1≤16777216 from by decide) nP) rfl rfl rfl ?_)))))
   rintro nl qw ⟨mz,rfl,ee⟩
   refine zY (A:=[]) (ρ:=rpI) ee ?_;intro h4 ap jr;replace bf:=bf.mono (co.trans ap);refine xK (A:=[]) (qP (zX (ρ:=rpI) (bytes:=8) underlying22 fO rfl rfl rfl rfl nP rfl rfl bf jr bO bO)) rfl rfl rfl ?_
   rintro fj qv ⟨lr,ev,rfl,ed⟩
   refine asg rfl rfl (zR (sH (wQ (e':=[(0,_),(4,_),(5,_),(6,_),(10,_),(11,_),(12,_),(13,_),(14,_),(16,_),(15,_)]) ⟨rfl,rfl,rfl,rfl,rfl,rfl,rfl,rfl,rfl,rfl,rfl,trivial⟩ (zF (zE (mv rfl rfl (gv (zP (q:=1) rfl rfl oM oM) rfl (asg rfl rfl (zR ?_)))))))));refine gqL ((q+1),B2,(LN++[(u9 B2 ((L.getD i []).getD q zT) j)]),J,bj,fj,ev,h4) ?_ ?_
   · exact⟨mle,ah.up,ed,by omega,by rw[fe] at dv ⊢;exact(if_neg dv).symm,by rw[iu,show u9 B2 ((L.getD i []).getD q zT) j=adN (plB (ptB L i) (L.getD i []) q) ((L.getD i []).getD q zT) from by rw[ej,fe] at *;exact(if_neg dv).symm];rfl⟩
   omega
  have ek:q=(L.getD i []).length:=by omega
  refine kY (uF (uF (kX (zF (zM (zE (mv rfl rfl (mv rfl rfl (zY (A:=[]) (ρ:=rpI) bf ?_)))))))));intro h4 ap bd;refine zI (zU (ρ:=(rpS rpI)) (m:=1) (xs:=[LN]) (ps':=[(0,_)]) underlying51 jP rfl rfl rfl uV e2z (zH rfl (Pc.arr (Pc.here _) [] 0 dC) bd zW) (show 1*1≤16777216 from by decide) nP) rfl rfl rfl ?_
  rintro xx yr ⟨uq,rfl,kw⟩
  refine zY (A:=[]) (ρ:=(rpS rpI)) kw ?_;intro h5 cl jq;replace ab:=ab.mono ((je.trans ap).trans cl);refine xK (A:=[]) (qP (zX (ρ:=(rpS rpI)) (bytes:=24) underlying51 jP rfl rfl rfl rfl nP rfl rfl ab jq bO bO)) rfl rfl rfl ?_
  rintro fi yq ⟨tg,gr,rfl,kv⟩
  refine asg rfl rfl (zR (wQ (e':=[(0,_),(4,_),(5,_),(6,_),(10,_),(11,_),(12,_),(14,_),(15,_),(13,_)]) e10 (zF (zM (zE (asg (v:=vI (0)) rfl rfl (zR (zF (wR ?_)))))))));refine gcL (ι:=Nat×List (List Int)×Value×List Value×Mem) (fun(e,E2,bt,di,me)=>(MLe h5 me∧(RL (rpA 2 rpI) me di E2∧e≤LN.length∧E2.length=j1 L i+e),[(0,vL),(4,vP b4 0),(5,vP b5 0),(6,vP b6 0),(10,vP Z 0),(11,bt),(12,J),(13,fi),(14,vI ↑i),(15,bc),(19,vI ↑e)],[.gs 22 1 fi (II++[LN]).length gr,.gs 31 9 J B2.length bj,.gs 118 2 bt E2.length di,.var Z 39 ea,.var b6 39 dx,.var b5 29 dy,.var b4 29 dz],me,LN.length-e)) (0,ED,ac,ar,h5) ?_ ?_
  · exact⟨mle,kd.up,by omega,rh⟩
  rintro⟨e,E2,bt,di,me⟩ ⟨qy,cu,rb,tv⟩
  refine yW ?_;have ij:=dr.2 i oM;refine zM (zM (zE (mv rfl rfl (mv rfl rfl ?_))));replace bd:=bd.mono (cl.trans qy);refine gv (uP underlying22 rfl bd) rfl (gv (yG rfl rfl) rfl (zR (zF ?_)));refine cnd (fun lz=>?_) fun lz=>?_
  ·
   refine uK (zF (zM (wR ?_)));refine qT (A:=[_,_]) 17 [] [(0,.q),(1,.q),(2,.q),(3,.q),(4,.q),(5,.q),(6,.q),(7,.q),(8,.q),(9,.q),(10,.q),(11,.q),(12,.q),(13,.q),(14,.c),(15,.c),(16,.q)] yA nX (wI (by kernel_rfl)) nX (uW rfl rfl rfl (uW rfl rfl rfl (uW rfl rfl rfl (wX rfl (xI (0:Int) e underlying22 ty3 bd) fun xw ql=>(wX rfl (xA ty3 ql) fun xv qk=>?_)))));obtain⟨rfl,tm,sy⟩:=jZ qk;refine uW rfl rfl rfl (uW rfl rfl rfl (xN rfl (fun _ _=>zP (q:=1) rfl rfl oM oM) rfl (uW rfl rfl rfl (w_q rfl (fun h' L' hh hR=>uP underlying22 rfl (bd.mono hh)) rfl (xN rfl (fun _ _=>wJ rfl rfl oM oM) rfl (wX rfl (xI (0:Int) ((e+1)%LN.length) underlying22 ty3 bd (hi:=by exact Nat.mod_lt _ oM)) fun xu qj=>(wX rfl (xA ty3 qj) fun xt qi=>?_)))))));obtain⟨rfl,tl,sx⟩:=jZ qi;refine wX rfl (xV (ρ:=(rpA 2 rpI)) (xW (ps':=[(0,_),(1,_)]) underlying118 eQ rfl rfl sizeOf3 e4z rfl (zHB 2 wD) (zH rfl (Pc.arr (Pc.here _) (0:Int) 0 dC) (jD oM oM) (zH rfl (Pc.arr (Pc.here _) (0:Int) 1 dC) (jD oM oM) zW)))) fun xr qh=>?_;refine w_c rfl (gM (fun X=>zU (ρ:=(rpA 2 rpI)) (m:=1) (xs:=[[(LN.getD e (0:Int)),(LN.getD ((e+1)%LN.length) (0:Int))]]) (ps':=[(0,_)]) underlying117 eQ rfl rfl rfl (zHB 2 wD) e2z (zH rfl (Pc.arr (Pc.here _) (List.replicate 2 (0:Int)) 0 dC) qh zW) (show 1*2≤16777216 from by decide) nP) rfl ?_)
   rintro xq yp ⟨uo,rfl,ku⟩
   refine w_c rfl (vC (A:=[]) (ρ:=(rpA 2 rpI)) ku dK ?_);intro h6 dc jp;replace cu:=cu.mono dc;refine rQ (A:=[_,_]) (fun X=>qP (zX (ρ:=(rpA 2 rpI)) (bytes:=16) underlying117 eQ rfl rfl rfl rfl nP rfl rfl cu jp bO bO)) rfl (wP (by first|(simp;done)|grind)) ?_
   rintro nk yo ⟨tf,my,rfl,ks⟩
   refine zHE rfl rfl rfl (pA (sH (wQ (e':=[(0,_),(4,_),(5,_),(6,_),(10,_),(12,_),(13,_),(14,_),(15,_),(19,_),(11,_)]) ⟨rfl,rfl,rfl,rfl,rfl,rfl,rfl,rfl,rfl,rfl,rfl,trivial⟩ (zF (zE (mv rfl rfl (gv (zP (q:=1) rfl rfl oM oM) rfl (asg rfl rfl (zR ?_)))))))));refine gqL ((e+1),(E2++[[(LN.getD e (0:Int)),(LN.getD ((e+1)%LN.length) (0:Int))]]),nk,my,h6) ?_ ?_
   · exact⟨mle,ks,by omega,by rw[lAz,tv];rfl⟩
   omega
  have tu:E2.length=j1 L i+LN.length:=by omega
  refine kY (uF (uF (kX (sH (zF (zE (mv rfl rfl (gv (zP (q:=1) rfl rfl oM oM) rfl (asg rfl rfl (zR ?_))))))))));refine gqL ((i+1),E2,B2,(II++[LN]),bt,di,J,bj,fi,gr,me) ?_ ?_
  · exact⟨mle,cu,ah.up,kv.up,by omega,by rw[tu,tt,ek];rfl,by rw[fe,ek];rfl,by rw[cg,iu,ek];rfl⟩
  omega
 have ei:i=L.length:=by omega
 have to:=ls L.length oM;rw[ei] at rh bi cg;have hI1:II.length=L.length:=by rw[cg];exact xL _ _
 have mg:∀i,i<L.length→(II.getD i []).length=(L.getD i []).length:=fun i hi=>by rw[cg];exact zG7 hi
 have ga:∀i q,i<L.length→q<(II.getD i []).length→0≤(II.getD i []).getD q 0∧(II.getD i []).getD q 0<↑I.length:=fun i q hi hq=>by rw[cg] at hq ⊢;rw[bi];exact zTW hi hq
 refine kY (uF (uF (kX (zF (zM (zE (mv rfl rfl (gv (jU mh1 underlying35 rfl) rfl (asg rfl rfl (zR (zF (zM (zM ?_)))))))))))));refine zE (mv rfl rfl (gv (kO (p:=2) rfl rfl oM oM) rfl (gv (lO (q:=512) rfl rfl) rfl ?_)));refine gU 6 158 (vB (((512:Int)<((2:Int)*(↑I.length:Int)))∨((256:Int)<((↑ED.length:Int)+(2:Int))))) ?_ ?_
 ·
  refine zS ((512:Int)<((2:Int)*(↑I.length:Int))) (fun hg=>?_) (fun hg=>?_)
  ·
   refine gT hg rfl (aX rfl rfl rfl rfl rfl rfl (aX rfl rfl rfl rfl rfl rfl (aX rfl rfl rfl rfl rfl rfl (aX rfl rfl rfl rfl rfl rfl (gv (pF rfl rfl) rfl (zR (gqU ?_)))))));exact congrArg some (wU hg)
  refine gF hg rfl (iF rfl rfl rfl (mv rfl rfl (iF rfl rfl rfl (gv (jU mh2 underlying117 rfl) rfl (iF rfl rfl rfl (gv (zP (q:=2) rfl rfl oM oM) rfl (iF rfl rfl rfl (gv (lO (q:=256) rfl rfl) rfl (gv (pG rfl rfl) rfl (zR (gqU ?_)))))))))));exact congrArg some (wV hg)
 refine zR (zF ?_);refine cnd (fun ly=>?_) fun ly=>?_
 ·
  have ll:prB L:=by unfold prB;show 512<2*(ptB L L.length).length∨_;rw[←bi];omega
  refine zM (zE (lX (xV (ρ:=(rpP (tLs 1) (rpP rpV (rpS (rpP rpI (rpP rpI (rpQ 1))))))) (wG (ps':=[]) underlying39 tX rfl rfl (bK underlying39) trivial rfl (yI uV (yI pV uV)) zW)) fun xp qg=>?_));replace bh:=bh.mono (((du.trans eg).trans dt).trans ce);refine yE (A:=[_,_,_,_]) (uB sizeOf39 pH bh qg) fun ug lg=>(asg (v:=vI (2)) rfl rfl (zR (zF (bX (aO ?_)))));obtain⟨e1,e2,e3⟩:=pr_2 gf (Classical.not_not.1 dw) fb ll;rw[e1,e2,e3];refine bC 53 14 ?_;have kb:=RL.nil (ρ:=rpP (tPl (1000*k+1000*l1+1000*l2+2000) (1000*k+1000*l1+1000*l2+2000)) (rpP tII kF)) (h:=ma);refine uR (tU (t:=6) fF mh5 rfl lg) ?_;intro ut ik ju;refine fC (.cons_cons _ (List.nil_sublist _)) (fun E S=>jX rfl ik (sR rfl) E S) ?_;exact⟨_,_,_,rfl,(Rp.Is.le ju (Le.p (Le.s (Le.t (Le.q (l:=k+l1+l2+20) oM))) (Le.p (Le.refl _) (Le.s (Le.p (Le.refl _) (Le.p (Le.refl _) (Le.q (l:=5) dC))))))),rfl,rfl,kb⟩
 have ll:¬prB L:=by unfold prB;show ¬(512<2*(ptB L L.length).length∨_);rw[←bi];omega
 obtain⟨rc,rb,tp⟩:=pr_0 gf (Classical.not_not.1 dw) fb ll;refine uK (zF (zM (zM (zE (asg (v:=vI (0)) rfl rfl (zR (zF (wR (xH 31 9 ?_)))))))));have ka:=RL.nil (ρ:=rpT (rpQ (k+l1+l2+5))) (h:=ma);refine gcL (ι:=Nat×List Tq×List Value×Value×List Value×Mem) (fun(i,PP,ck,ca,eq,mp)=>(MLe ma mp∧((rpP rpV (rpP rpV (rpS (rpP rpI (rpP rpI (rpQ 1)))))).R mp ck (ca,(Value.slice none 0 0,[]))∧RL (tPt (k+l1+l2+5)) mp eq PP∧ca.oneCell'=true∧i≤2*I.length∧PP=zRF L lo hi i),[(4,vP b4 0),(5,vP b5 0),(6,vP b6 0),(10,vP Z 0),(12,D),(13,C),(20,vI (↑I.length:Int)),(21,vI ↑i)],[.gs 31 9 ca PP.length eq,.gs 22 1 C II.length av,.gs 31 9 D I.length bb,.gs 118 2 ac ED.length ar,.var Z 39 ck,.var b6 39 dx,.var b5 29 dy,.var b4 29 dz],mp,2*I.length-i)) (0,[],ea,(.slice none 0 0),[],ma) ?_ ?_
 · exact⟨mle,oa.up,ka,rfl,by omega,rfl⟩
 rintro⟨i,PP,ck,ca,eq,mp⟩ ⟨br,an,be,td,hi2,ir⟩
 refine yW ?_;have hPl:PP.length=i:=by rw[ir];exact xL _ _
 refine zM (zM (zE (mv rfl rfl (mv rfl rfl (gv (kO (p:=2) rfl rfl oM oM) rfl (gv (yG rfl rfl) rfl (zR (zF ?_))))))));refine cnd (fun lw=>?_) fun lw=>?_
 ·
  refine uK (zF (zM (wR (zM (zE ?_)))));replace db:=db.mono ((dt.trans ce).trans br);refine lX (xB yB pH db) fun xo qf=>(nA (ρ:=(rpQ 1)) (X:=(0:Rat)) xS (yN dC) fun b22 zc nz=>?_);have jl:=(Le.q (l:=l1+1) oM).R nz;refine yE (A:=[]) (uB sizeOf29 pH jl (qf.le (Le.q (l:=l1+1) oM))) fun uf fk=>(zR (zF (zM (zM (zE (mv rfl rfl (mv rfl rfl (gv (sD rfl rfl) rfl (zR (zF ?_))))))))));refine cnd (fun el=>?_) fun el=>?_
  ·
   refine zE ?_;replace da:=da.mono ((dt.trans ce).trans br);refine lX (xB yB pH da) fun xn qe=>?_;have jk:=(Le.q (l:=l1+l2+1) oM).R fk;refine yE (A:=[]) (uB sizeOf29 pH jk (qe.le (Le.q (l:=l1+l2+1) oM))) fun ue lf=>(zR (zF ?_));refine qT (A:=[_]) 21 [] [(0,.q),(1,.q),(2,.q),(3,.q),(4,.q),(5,.q),(6,.q),(7,.q),(8,.q),(9,.q),(10,.q),(11,.q),(12,.q),(13,.q),(14,.q),(15,.q),(16,.q),(17,.q),(18,.c),(19,.c),(20,.q),(21,.t)] yA nX (wI (by kernel_rfl)) nX (xN rfl (fun _ _=>(xJ underlying39 rfl sizeOf35 rfl).cv (show _=vP Z 0 from congrArg (vP Z) (by rfl))) rfl (wX rfl (bM (xB uJ (Pc.fst pH) an)) fun nj fx=>?_));subst fx;refine uW rfl rfl rfl (uW rfl rfl rfl (uW rfl rfl rfl (xN rfl (fun _ _=>wJ rfl rfl oM oM) rfl (w_q rfl (fun h' L' hh hR=>(xD (i%I.length) (hR _ mh2) underlying35 sizeOf31 rfl rfl rP (by exact Nat.mod_lt _ oM) nP).cv (show _=zJ 1 D (((i%I.length)*9+0)) from congrArg (zJ 1 D) (by rfl))) rfl ?_))));replace ai:=ai.mono br;refine w_q rfl (fun h' L' hh hR=>(tN (sz:=3) (q:=0) 0 (Pc.arr (Pc.here _) zT (i%I.length) (by exact Nat.mod_lt _ oM)) rfl nP (ai.mono hh) (hR _ mh2) underlying31 sizeOf29 rfl rfl rfl dC).cv (show _=zJ 1 D (((i%I.length)*9+0)) from congrArg (zJ 1 D) (by show((i%I.length)*9+0)+0*3=((i%I.length)*9+0);omega))) rfl (mS (F:=fun v_=>(rpQ (k+1)).Is mp v_ ((I.getD (i%I.length) zT).x)) rfl (wL yB (Pc.arr (Pc.tx (Pc.here _)) zT (i%I.length) (by exact Nat.mod_lt _ oM)) rfl nP rfl ai rfl) (tW mh2) rfl ?_);intro ni fw;refine uW rfl rfl rfl (uW rfl rfl rfl (uW rfl rfl rfl (xN rfl (fun _ _=>wJ rfl rfl oM oM) rfl (w_q rfl (fun h' L' hh hR=>(xD (i%I.length) (hR _ mh2) underlying35 sizeOf31 rfl rfl rP (by exact Nat.mod_lt _ oM) nP).cv (show _=zJ 1 D (((i%I.length)*9+0)) from congrArg (zJ 1 D) (by rfl))) rfl (w_q rfl (fun h' L' hh hR=>(tN (sz:=3) (q:=1) 1 (Pc.arr (Pc.here _) zT (i%I.length) (by exact Nat.mod_lt _ oM)) rfl nP (ai.mono hh) (hR _ mh2) underlying31 sizeOf29 rfl rfl rfl dC).cv (show _=zJ 1 D (((i%I.length)*9+3)) from congrArg (zJ 1 D) (by show((i%I.length)*9+0)+1*3=((i%I.length)*9+3);omega))) rfl (mS (F:=fun v_=>(rpQ (k+1)).Is mp v_ ((I.getD (i%I.length) zT).y)) rfl (wL yB (Pc.arr (Pc.ty (Pc.here _)) zT (i%I.length) (by exact Nat.mod_lt _ oM)) rfl nP rfl ai rfl) (tW mh2) rfl ?_))))));intro nh fv;refine wX rfl (xB yB pH lf) fun ng fu=>(wX rfl (xV (ρ:=(tPt (k+l1+l2+1))) (xW (ps':=[(0,_),(1,_),(2,_)]) underlying31 yX rfl rfl sizeOf29 e6z rfl (wB (yN oM)) (zH rfl (Pc.tx (Pc.here _)) (fw.le (Le.q (l:=k+l1+l2+1) oM)) (zH rfl (Pc.ty (Pc.here _)) (fv.le (Le.q (l:=k+l1+l2+1) oM)) (zH rfl (Pc.tz (Pc.here _)) (fu.le (Le.q (l:=k+l1+l2+1) oM)) zW))))) fun nf ft=>?_);refine w_c rfl (gM (fun X=>zU (ρ:=(tPt (k+l1+l2+1))) (m:=1) (xs:=[(T3.mk ((I.getD (i%I.length) zT).x) ((I.getD (i%I.length) zT).y) hi)]) (ps':=[(0,_)]) underlying35 yX rfl rfl rfl (wB (yN oM)) e2z (zH rfl (Pc.arr (Pc.here _) zT 0 dC) ft zW) (show 1*9≤16777216 from by decide) nP) rfl ?_)
   rintro ne qu ⟨mx,rfl,ec⟩
   refine w_c rfl (vC (A:=[]) (ρ:=(tPt (k+l1+l2+1))) ec dK ?_);intro h4 ap jo;replace be:=be.mono ap;refine rQ (A:=[_]) (fun X=>qP (zX (ρ:=(tPt (k+l1+l2+5))) (bytes:=168) underlying35 yX rfl rfl rfl rfl nP rfl rfl be (jo.le (Le.s (Le.t (Le.q (l:=k+l1+l2+5) oM)))) bO bO)) rfl (wP (by first|(simp;done)|grind)) ?_
   rintro fh qt ⟨cd,eu,rfl,eb⟩
   refine xN rfl (fun _ _=>(xJ underlying39 rfl sizeOf35 rfl).cv (show _=vP Z 0 from congrArg (vP Z) (by rfl))) rfl ?_;replace an:=an.mono ap;refine yO (A:=[_,_,_,_,_]) rfl (uB sizeOf35 (Pc.fst pH) an (zAH cd)) fun ms ld=>(pA (sH (wQ (e':=[(4,_),(5,_),(6,_),(10,_),(12,_),(13,_),(20,_),(21,_)]) e8 (zF (zE (mv rfl rfl (gv (zP (q:=1) rfl rfl oM oM) rfl (asg rfl rfl (zR (xM (A:=[]) ?_))))))))));refine gqL ((i+1),(PP++[(T3.mk ((I.getD (i%I.length) zT).x) ((I.getD (i%I.length) zT).y) hi)]),ms,fh,eu,h4) ?_ ?_
   · exact⟨mle,ld,eb,cd,by omega,by rw[ir,bi];exact congrArg (fun z=>zRF L lo hi i++[T3.mk _ _ z]) (if_pos (by have h9:=el;rw[bi] at h9;exact h9)).symm⟩
   omega
  refine uK (zF ?_);refine qT (A:=[_]) 21 [] [(0,.q),(1,.q),(2,.q),(3,.q),(4,.q),(5,.q),(6,.q),(7,.q),(8,.q),(9,.q),(10,.q),(11,.q),(12,.q),(13,.q),(14,.q),(15,.q),(16,.q),(17,.q),(18,.c),(19,.c),(20,.q),(21,.t)] yA nX (wI (by kernel_rfl)) nX (xN rfl (fun _ _=>(xJ underlying39 rfl sizeOf35 rfl).cv (show _=vP Z 0 from congrArg (vP Z) (by rfl))) rfl (wX rfl (bM (xB uJ (Pc.fst pH) an)) fun nj fx=>?_));subst fx;refine uW rfl rfl rfl (uW rfl rfl rfl (uW rfl rfl rfl (xN rfl (fun _ _=>wJ rfl rfl oM oM) rfl (w_q rfl (fun h' L' hh hR=>(xD (i%I.length) (hR _ mh2) underlying35 sizeOf31 rfl rfl rP (by exact Nat.mod_lt _ oM) nP).cv (show _=zJ 1 D (((i%I.length)*9+0)) from congrArg (zJ 1 D) (by rfl))) rfl ?_))));replace ai:=ai.mono br;refine w_q rfl (fun h' L' hh hR=>(tN (sz:=3) (q:=0) 0 (Pc.arr (Pc.here _) zT (i%I.length) (by exact Nat.mod_lt _ oM)) rfl nP (ai.mono hh) (hR _ mh2) underlying31 sizeOf29 rfl rfl rfl dC).cv (show _=zJ 1 D (((i%I.length)*9+0)) from congrArg (zJ 1 D) (by show((i%I.length)*9+0)+0*3=((i%I.length)*9+0);omega))) rfl (mS (F:=fun v_=>(rpQ (k+1)).Is mp v_ ((I.getD (i%I.length) zT).x)) rfl (wL yB (Pc.arr (Pc.tx (Pc.here _)) zT (i%I.length) (by exact Nat.mod_lt _ oM)) rfl nP rfl ai rfl) (tW mh2) rfl ?_);intro ni fw;refine uW rfl rfl rfl (uW rfl rfl rfl (uW rfl rfl rfl (xN rfl (fun _ _=>wJ rfl rfl oM oM) rfl (w_q rfl (fun h' L' hh hR=>(xD (i%I.length) (hR _ mh2) underlying35 sizeOf31 rfl rfl rP (by exact Nat.mod_lt _ oM) nP).cv (show _=zJ 1 D (((i%I.length)*9+0)) from congrArg (zJ 1 D) (by rfl))) rfl (w_q rfl (fun h' L' hh hR=>(tN (sz:=3) (q:=1) 1 (Pc.arr (Pc.here _) zT (i%I.length) (by exact Nat.mod_lt _ oM)) rfl nP (ai.mono hh) (hR _ mh2) underlying31 sizeOf29 rfl rfl rfl dC).cv (show _=zJ 1 D (((i%I.length)*9+3)) from congrArg (zJ 1 D) (by show((i%I.length)*9+0)+1*3=((i%I.length)*9+3);omega))) rfl (mS (F:=fun v_=>(rpQ (k+1)).Is mp v_ ((I.getD (i%I.length) zT).y)) rfl (wL yB (Pc.arr (Pc.ty (Pc.here _)) zT (i%I.length) (by exact Nat.mod_lt _ oM)) rfl nP rfl ai rfl) (tW mh2) rfl ?_))))));intro nh fv;refine wX rfl (xB yB pH fk) fun ng fu=>(wX rfl (xV (ρ:=(tPt (k+l1+1))) (xW (ps':=[(0,_),(1,_),(2,_)]) underlying31 yX rfl rfl sizeOf29 e6z rfl (wB (yN oM)) (zH rfl (Pc.tx (Pc.here _)) (fw.le (Le.q (l:=k+l1+1) oM)) (zH rfl (Pc.ty (Pc.here _)) (fv.le (Le.q (l:=k+l1+1) oM)) (zH rfl (Pc.tz (Pc.here _)) (fu.le (Le.q (l:=k+l1+1) oM)) zW))))) fun nf ft=>?_);refine w_c rfl (gM (fun X=>zU (ρ:=(tPt (k+l1+1))) (m:=1) (xs:=[(T3.mk ((I.getD (i%I.length) zT).x) ((I.getD (i%I.length) zT).y) lo)]) (ps':=[(0,_)]) underlying35 yX rfl rfl rfl (wB (yN oM)) e2z (zH rfl (Pc.arr (Pc.here _) zT 0 dC) ft zW) (show 1*9≤16777216 from by decide) nP) rfl ?_)
  rintro ne qu ⟨mx,rfl,ec⟩
  refine w_c rfl (vC (A:=[]) (ρ:=(tPt (k+l1+1))) ec dK ?_);intro h4 ap jn;replace be:=be.mono ap;refine rQ (A:=[_]) (fun X=>qP (zX (ρ:=(tPt (k+l1+l2+5))) (bytes:=168) underlying35 yX rfl rfl rfl rfl nP rfl rfl be (jn.le (Le.s (Le.t (Le.q (l:=k+l1+l2+5) oM)))) bO bO)) rfl (wP (by first|(simp;done)|grind)) ?_
  rintro fh qt ⟨cd,eu,rfl,eb⟩
  refine xN rfl (fun _ _=>(xJ underlying39 rfl sizeOf35 rfl).cv (show _=vP Z 0 from congrArg (vP Z) (by rfl))) rfl ?_;replace an:=an.mono ap;refine yO (A:=[_,_,_,_,_]) rfl (uB sizeOf35 (Pc.fst pH) an (zAH cd)) fun mo lc=>(pA (sH (wQ (e':=[(4,_),(5,_),(6,_),(10,_),(12,_),(13,_),(20,_),(21,_)]) e8 (zF (zE (mv rfl rfl (gv (zP (q:=1) rfl rfl oM oM) rfl (asg rfl rfl (zR (xM (A:=[]) ?_))))))))));refine gqL ((i+1),(PP++[(T3.mk ((I.getD (i%I.length) zT).x) ((I.getD (i%I.length) zT).y) lo)]),mo,fh,eu,h4) ?_ ?_
  · exact⟨mle,lc,eb,cd,by omega,by rw[ir,bi];exact congrArg (fun z=>zRF L lo hi i++[T3.mk _ _ z]) (if_neg (by have h9:=el;rw[bi] at h9;exact h9)).symm⟩
  omega
 have gm:PP=ppZ L lo hi:=by rw[ir,show i=2*I.length by omega,bi];rfl
 have yv:PP.length=2*I.length:=by rw[gm,bi];exact zZP
 refine kY (uF (uF (kX (zF (zM (zE (zY (A:=[]) (ρ:=(tPt (k+l1+l2+5))) be ?_)))))));intro h4 ap jm;replace an:=an.mono ap;have lb:(rpP (tLs (k+l1+l2+5)) (rpP rpV (rpS (rpP rpI (rpP rpI (rpQ 1)))))).R h4 ck (PP,(ca,(Value.slice none 0 0,[])).2):=zYI an jm;refine cL (vs:=[vI (1)]) ⟨rfl,trivial⟩ call27 (fun w hs=>sW hs dC dC) fun xm h5 cl qd=>(nA (ρ:=(rpQ 2)) (X:=(0:Rat)) xS (yN dC) fun nb za ny=>(yE (A:=[]) (uB sizeOf29 pH ny qd) fun ep cw=>(zR (zF (zM ?_)))));refine zL 10 _ [(9,(24,53,[.bool false,.slice none 0 0,.slice none 0 0,.bool false,.slice none 0 0,.slice none 0 0,.bool false,.slice none 0 0,.slice none 0 0,.bool false,.slice none 0 0,.slice none 0 0,.slice none 0 0,.string ⟨#[]⟩]))] [(0,.q),(1,.q),(2,.q),(5,.q),(3,.c),(4,.q),(6,.c),(7,.q),(8,.q),(9,.a),(10,.t)] yA (kW.cons rfl rfl (jK kU rfl rfl) kW.nil) (by kernel_rfl) (jM rfl rfl sQ) (fun r hr=>hr) (wX rfl (xV (ρ:=(rpQ 1)) (wG (ps':=[]) underlying29 xS rfl rfl (uL underlying29) trivial rfl (yN dC) zW)) fun xl fs=>(wX rfl (xV (ρ:=(rpQ 1)) (wG (ps':=[]) underlying29 xS rfl rfl (uL underlying29) trivial rfl (yN dC) zW)) fun xk fr=>(wX rfl (xB yB pH cw) fun xj qc=>?_)));replace db:=db.mono ((((dt.trans ce).trans br).trans ap).trans cl);refine wX rfl (xB yB pH db) fun xg fp=>?_;refine w_c rfl (sC (ev1 rfl) call87 (fun w hs=>iQ hs qc dC) fun xi h6 dc qb=>?_);replace fs:=fs.mono dc;replace fr:=fr.mono dc;refine wX rfl (xV (ρ:=(tPt 2)) (xW (ps':=[(0,_),(1,_),(2,_)]) underlying31 yX rfl rfl sizeOf29 e6z rfl (wB (yN dC)) (zH rfl (Pc.tx (Pc.here _)) (fs.le (Le.q (l:=2) dC)) (zH rfl (Pc.ty (Pc.here _)) (fr.le (Le.q (l:=2) dC)) (zH rfl (Pc.tz (Pc.here _)) qb zW))))) fun xh fq=>?_;refine w_c rfl ?_;replace fp:=fp.mono dc;refine sC (ev1 rfl) call87 (fun w hs=>iQ hs fp oM) fun xf h7 gh qa=>?_;replace fq:=fq.mono gh;refine wX rfl (xV (ρ:=(tPl 2 (l1+1))) (wG (ps':=[(0,_),(1,_)]) underlying50 mE rfl rfl (bJ underlying50) e4z rfl (yI (wB (yN dC)) (yN oM)) (zH rfl (Pc.fst (Pc.here _)) fq (zH rfl (Pc.snd (Pc.here _)) (qa.le (Le.q (l:=l1+1) oM)) zW)))) fun xe pz=>(wX rfl (xV (ρ:=(rpP (tPl 2 (l1+1)) (rpP rpV kF))) (wG (ps':=[(0,_),(2,_)]) underlying53 kU rfl rfl (lI underlying53) e4z rfl (yI (yI (wB (yN dC)) (yN oM)) (yI pV tS)) (zH rfl (Pc.fst (Pc.here _)) pz (zH rfl (Pc.snd (Pc.snd (Pc.here _))) (bV (show ByB [98,111,116,116,111,109] by unfold ByB;decide)) zW)))) fun xd py=>?_);refine w_a rfl rfl (fun cn=>?_);have nw:(rpP (tPl 1 1) (rpP rpV kF)).R h7 [.bool false,.slice none 0 0,.slice none 0 0,.bool false,.slice none 0 0,.slice none 0 0,.bool false,.slice none 0 0,.slice none 0 0,.bool false,.slice none 0 0,.slice none 0 0,.slice none 0 0,.string ⟨#[]⟩] ((zT,(0:Rat)),((Value.slice none 0 0),([]:List Nat))):=(yI (yI (wB (yN dC)) (yN dC)) (yI pV tS));have jj:=(Le.p (Le.p (Le.t (Le.q (l:=2) dC)) (Le.q (l:=l1+1) oM)) (Le.refl _)).R nw;refine yO (A:=[]) rfl (uB sizeOf53 pH jj py) fun mn la=>(pA (wQ (e':=[(5,_),(6,_),(10,_),(13,_),(20,_),(23,_),(24,_)]) e7 (zF (zM (zE (lX (xV (ρ:=(rpQ 1)) (wG (ps':=[]) underlying29 xS rfl rfl (uL underlying29) trivial rfl (yN dC) zW)) fun xc px=>(lX (xV (ρ:=(rpQ 1)) (wG (ps':=[]) underlying29 xS rfl rfl (uL underlying29) trivial rfl (yN dC) zW)) fun xb pw=>?_)))))));replace cw:=cw.mono (dc.trans gh);refine lX (xB yB pH cw) fun xa pv=>(lX (xV (ρ:=(tPt 2)) (xW (ps':=[(0,_),(1,_),(2,_)]) underlying31 yX rfl rfl sizeOf29 e6z rfl (wB (yN dC)) (zH rfl (Pc.tx (Pc.here _)) (px.le (Le.q (l:=2) dC)) (zH rfl (Pc.ty (Pc.here _)) (pw.le (Le.q (l:=2) dC)) (zH rfl (Pc.tz (Pc.here _)) pv zW))))) fun wz pu=>?_);replace da:=da.mono ((((((dt.trans ce).trans br).trans ap).trans cl).trans dc).trans gh);refine lX (xB yB pH da) fun wy pt=>(lX (xV (ρ:=(tPl 2 (l2+1))) (wG (ps':=[(0,_),(1,_)]) underlying50 mE rfl rfl (bJ underlying50) e4z rfl (yI (wB (yN dC)) (yN oM)) (zH rfl (Pc.fst (Pc.here _)) pu (zH rfl (Pc.snd (Pc.here _)) (pt.le (Le.q (l:=l2+1) oM)) zW)))) fun wx pq=>(lX (xV (ρ:=(rpP (tPl 2 (l2+1)) (rpP rpV kF))) (wG (ps':=[(0,_),(2,_)]) underlying53 kU rfl rfl (lI underlying53) e4z rfl (yI (yI (wB (yN dC)) (yN oM)) (yI pV tS)) (zH rfl (Pc.fst (Pc.here _)) pq (zH rfl (Pc.snd (Pc.snd (Pc.here _))) (bV (show ByB [116,111,112] by unfold ByB;decide)) zW)))) fun ww pp=>(nA (ρ:=(rpP (tPl 1 1) (rpP rpV kF))) (X:=((zT,(0:Rat)),((Value.slice none 0 0),([]:List Nat)))) kU (yI (yI (wB (yN dC)) (yN dC)) (yI pV tS)) fun cm yz nv=>?_)))
 have ji:=(Le.p (Le.p (Le.t (Le.q (l:=2) dC)) (Le.q (l:=l2+1) oM)) (Le.refl _)).R nv;refine yE (A:=[]) (uB sizeOf53 pH ji pp) fun mm kz=>(zR (zF (zM (zM (zE (asg (v:=vI (0)) rfl rfl (zR (zF (wR (xH 53 14 ?_))))))))));have jz:=RL.nil (ρ:=rpP (tPl (4*k+4*l1+4*l2+40) (100*k+100*l1+100*l2+1000)) (rpP tII kF)) (h:=h7);refine xH 22 1 ?_;have jy:=RL.nil (ρ:=rpS rpI) (h:=h7);refine xH 22 1 ?_;have jx:=RL.nil (ρ:=rpS rpI) (h:=h7);refine gcL (ι:=Nat×List Fc×List (List Int)×List (List Int)×List Value×List Value×List Value×Value×List Value×Value×List Value×Value×List Value×Mem) (fun(i,F0,C0,T0,cj,dh,ci,ay,ch,ao,eo,am,df,mq)=>(MLe h7 mq∧((rpP (tLs (k+l1+l2+5)) (rpP rpV (rpS (rpP rpI (rpP rpI (rpQ 1)))))).R mq cj (PP,(ay,([]:List En)))∧(rpP (tPl 5 (l1+l2+5)) (rpP rpV kF)).R mq dh ((T3.mk (0:Rat) (0:Rat) (-((1:Int):Rat)),-lo),(ao,[98,111,116,116,111,109]))∧(rpP (tPl 5 (l1+l2+5)) (rpP rpV kF)).R mq ci ((T3.mk (0:Rat) (0:Rat) ((1:Int):Rat),hi),(am,[116,111,112]))∧RL (tFc (4*k+4*l1+4*l2+40) (100*k+100*l1+100*l2+1000)) mq ch F0∧ay.oneCell'=true∧RL (rpS rpI) mq eo C0∧ao.oneCell'=true∧RL (rpS rpI) mq df T0∧am.oneCell'=true∧i≤II.length∧C0=yBJ L i∧T0=zYR L i∧F0=zN7 L lo hi i),[(6,vP b6 0),(10,vP Z 0),(13,C),(20,vI (↑I.length:Int)),(24,vP cn 0),(25,vP cm 0),(26,vI ↑i)],[.gs 22 1 am T0.length df,.gs 22 1 ao C0.length eo,.gs 53 14 ay F0.length ch,.var cm 53 ci,.var cn 53 dh,.var nb 29 ep,.gs 22 1 C II.length av,.gs 31 9 D I.length bb,.gs 118 2 ac ED.length ar,.var Z 39 cj,.var b6 39 dx,.var b5 29 dy,.var b4 29 dz],mq,II.length-i)) (0,[],[],[],ck,mn,mm,(.slice none 0 0),[],(.slice none 0 0),[],(.slice none 0 0),[],h7) ?_ ?_
 · exact⟨mle,lb.up,((Le.p (Le.p (Le.t (Le.q (l:=5) dC)) (Le.q (l:=l1+l2+5) oM)) (Le.refl _)).R la),((Le.p (Le.p (Le.t (Le.q (l:=5) dC)) (Le.q (l:=l1+l2+5) oM)) (Le.refl _)).R kz),jz,rfl,jy,rfl,jx,rfl,by omega,rfl,rfl,rfl⟩
 rintro⟨i,F0,C0,T0,cj,dh,ci,ay,ch,ao,eo,am,df,mq⟩ ⟨jd,cc,bg,au,ct,lm,cq,tc,bp,rj,hi3,iw,iq,iv⟩
 refine yW ?_;have hCl:C0.length=i:=by rw[iw];exact xL _ _
 have hTl:T0.length=i:=by rw[iq];exact xL _ _
 have hFl:F0.length=j1 L i:=by rw[iv];exact zQS oM
 have ra:=ls i oM;refine zM (zM (zE (mv rfl rfl (mv rfl rfl (gv (jU mh6 underlying51 rfl) rfl (gv (yG rfl rfl) rfl (zR (zF ?_))))))));refine cnd (fun lv=>?_) fun lv=>?_
 ·
  have jf:=mg i oM;have ij:=dr.2 i oM;refine uK (zF (zM (wR (zM ?_))));refine qT (A:=[_]) 10 [] [(0,.q),(1,.q),(2,.q),(3,.q),(4,.q),(5,.q),(6,.c),(7,.c),(8,.c),(9,.q),(10,.t)] yA nX (by kernel_rfl) nX (xN rfl (fun _ _=>(xJ underlying53 rfl sizeOf51 rfl).cv (show _=vP cn 12 from congrArg (vP cn) (by rfl))) rfl (wX rfl (bM (xB cK (Pc.snd (Pc.fst pH)) bg)) fun wv po=>?_));subst po;refine uW rfl rfl rfl (uW rfl rfl rfl (w_q rfl (fun h' L' hh hR=>(xD i (hR _ mh5) underlying51 sizeOf22 rfl rfl rfl bO nP).cv (show _=zJ 1 C ((i*1+0)) from congrArg (zJ 1 C) (by rfl))) rfl ?_));replace ab:=ab.mono (((((br.trans ap).trans cl).trans dc).trans gh).trans jd);refine mS (F:=fun v_=>(rpS rpI).Is mq v_ (II.getD i [])) rfl (wL fG (Pc.arr (Pc.here _) [] i bO) rfl nP rfl ab rfl) (tW mh5) rfl ?_;intro wu pn;refine w_c rfl (sC (ev1 rfl) call67 (fun w hs=>zIK hs pn oM) fun wt h8 bs pm=>?_);refine w_c rfl (gM (fun X=>zU (ρ:=(rpS rpI)) (m:=1) (xs:=[zJ8 (II.getD i []) (II.getD i []).length]) (ps':=[(0,_)]) underlying51 jP rfl rfl rfl uV e2z (zH rfl (Pc.arr (Pc.here _) [] 0 dC) pm zW) (show 1*1≤16777216 from by decide) nP) rfl ?_)
  rintro ws yn ⟨un,rfl,kr⟩
  refine w_c rfl (vC (A:=[]) (ρ:=(rpS rpI)) kr dK ?_);intro h9 cf hy;replace cq:=cq.mono (bs.trans cf);refine rQ (A:=[_]) (fun X=>qP (zX (ρ:=(rpS rpI)) (bytes:=24) underlying51 jP rfl rfl rfl rfl nP rfl rfl cq hy bO bO)) rfl (wP (by first|(simp;done)|grind)) ?_
  rintro fg ym ⟨ge,es,rfl,kq⟩
  refine xN rfl (fun _ _=>(xJ underlying53 rfl sizeOf51 rfl).cv (show _=vP cn 12 from congrArg (vP cn) (by rfl))) rfl ?_;replace bg:=bg.mono (bs.trans cf);refine yO (A:=[_,_,_,_]) rfl (uB sizeOf51 (Pc.snd (Pc.fst pH)) bg (zAH ge)) fun dl ii=>(pA (wQ (e':=[(6,_),(10,_),(13,_),(20,_),(24,_),(25,_),(26,_)]) e7 (zF (zM (zE (asg rfl rfl (zR (zF (zM (zM (zE (asg (v:=vI (0)) rfl rfl (zR ?_)))))))))))));refine zF (wR (xH 3 1 ?_));have ia:=RL.nil (ρ:=rpI) (h:=h9);refine gcL (ι:=Nat×List Int×Value×List Value×Mem) (fun(q,TL,cb,dk,mr)=>(MLe h9 mr∧(RL rpI mr dk TL∧q≤(II.getD i []).length∧TL=tpL L i q),[(6,vP b6 0),(10,vP Z 0),(13,C),(20,vI (↑I.length:Int)),(24,vP cn 0),(25,vP cm 0),(26,vI ↑i),(27,cb),(28,vI ↑q)],[.gs 3 1 cb TL.length dk,.gs 22 1 am T0.length df,.gs 22 1 fg (C0++[zJ8 (II.getD i []) (II.getD i []).length]).length es,.gs 53 14 ay F0.length ch,.var cm 53 ci,.var cn 53 dl,.var nb 29 ep,.gs 22 1 C II.length av,.gs 31 9 D I.length bb,.gs 118 2 ac ED.length ar,.var Z 39 cj,.var b6 39 dx,.var b5 29 dy,.var b4 29 dz],mr,(II.getD i []).length-q)) (0,[],(.slice none 0 0),[],h9) ?_ ?_
  · exact⟨mle,ia,by omega,rfl⟩
  rintro⟨q,TL,cb,dk,mr⟩ ⟨gg,bw,hq2,mc⟩
  refine yW ?_;have yu:TL.length=q:=by rw[mc];exact xL _ _
  have jf:=mg i oM;have ij:=dr.2 i oM;refine zM (zM (zE (mv rfl rfl (mv rfl rfl (mv rfl rfl (gv ((xD i mh7 underlying51 sizeOf22 rfl rfl rfl bO nP).cv (show _=zJ 1 C ((i*1+0)) from congrArg (zJ 1 C) (by rfl))) rfl ?_))))));replace ab:=ab.mono ((bs.trans cf).trans gg);refine zGW (F:=fun v_=>(rpS rpI).Is mr v_ (II.getD i [])) (wL fG (Pc.arr (Pc.here _) [] i bO) rfl nP rfl ab rfl) (tW mh7) rfl ?_;intro wq pk;refine gv (uP underlying22 rfl pk) rfl (gv (yG rfl rfl) rfl (zR (zF ?_)));refine cnd (fun lu=>?_) fun lu=>?_
  ·
   have ta:=ga i q oM oM;refine uK (zF (zM (wR (zE (mv rfl rfl (mv rfl rfl (mv rfl rfl (gv ((xD i mh7 underlying51 sizeOf22 rfl rfl rfl bO nP).cv (show _=zJ 1 C ((i*1+0)) from congrArg (zJ 1 C) (by rfl))) rfl (zGW (F:=fun v_=>(rpS rpI).Is mr v_ (II.getD i [])) (wL fG (Pc.arr (Pc.here _) [] i bO) rfl nP rfl ab rfl) (tW mh7) rfl ?_)))))))));intro wp pj;refine mv rfl rfl (lX (xI (0:Int) q underlying22 ty3 pj) fun wo pi=>(lX (xA ty3 pi) fun wm ph=>?_));obtain⟨rfl,tk,sw⟩:=jZ ph;refine mv rfl rfl (gv (zP rfl rfl (by(have:=ga i q oM oM;omega)) (by(have:=ga i q oM oM;omega))) rfl (zI (zU (ρ:=rpI) (m:=1) (xs:=[(((II.getD i []).getD q (0:Int))+(↑I.length:Int))]) (ps':=[(0,_)]) underlying22 fO rfl rfl rfl wD e2z (zH rfl (Pc.arr (Pc.here _) (0:Int) 0 dC) (jD oM oM) zW) (show 1*1≤16777216 from by decide) nP) rfl rfl rfl ?_))
   rintro wl yl ⟨um,rfl,kp⟩
   refine zY (A:=[]) (ρ:=rpI) kp ?_;intro ml bo hx;replace bw:=bw.mono bo;refine xK (A:=[]) (qP (zX (ρ:=rpI) (bytes:=8) underlying22 fO rfl rfl rfl rfl nP rfl rfl bw hx bO bO)) rfl rfl rfl ?_
   rintro nd yk ⟨te,mw,rfl,ko⟩
   refine asg rfl rfl (zR (sH (wQ (e':=[(6,_),(10,_),(13,_),(20,_),(24,_),(25,_),(26,_),(28,_),(27,_)]) ⟨rfl,rfl,rfl,rfl,rfl,rfl,rfl,rfl,rfl,trivial⟩ (zF (zE (mv rfl rfl (gv (zP (q:=1) rfl rfl oM oM) rfl (asg rfl rfl (zR ?_)))))))));refine gqL ((q+1),(TL++[(((II.getD i []).getD q (0:Int))+(↑I.length:Int))]),nd,mw,ml) ?_ ?_
   · exact⟨mle,ko,by omega,by rw[mc,cg,bi];rfl⟩
   omega
  have ek:q=(II.getD i []).length:=by omega
  refine kY (uF (uF (kX (zF (zM (zE (gv ((xJ underlying53 rfl sizeOf51 rfl).cv (show _=vP cm 12 from congrArg (vP cm) (by rfl))) rfl ?_)))))));replace au:=au.mono ((bs.trans cf).trans gg);refine lX (bM (xB cK (Pc.snd (Pc.fst pH)) au)) fun wk pg=>?_;subst pg;refine mv rfl rfl (zY (A:=[]) (ρ:=rpI) bw ?_);intro ml bo hw;refine zI (zU (ρ:=(rpS rpI)) (m:=1) (xs:=[TL]) (ps':=[(0,_)]) underlying51 jP rfl rfl rfl uV e2z (zH rfl (Pc.arr (Pc.here _) [] 0 dC) hw zW) (show 1*1≤16777216 from by decide) nP) rfl rfl rfl ?_
  rintro wj yj ⟨ul,rfl,kn⟩
  refine zY (A:=[]) (ρ:=(rpS rpI)) kn ?_;intro go cp hv;replace bp:=bp.mono ((((bs.trans cf).trans gg).trans bo).trans cp);refine xK (A:=[]) (qP (zX (ρ:=(rpS rpI)) (bytes:=24) underlying51 jP rfl rfl rfl rfl nP rfl rfl bp hv bO bO)) rfl rfl rfl ?_
  rintro jc yi ⟨gc,gq,rfl,km⟩
  refine gv ((xJ underlying53 rfl sizeOf51 rfl).cv (show _=vP cm 12 from congrArg (vP cm) (by rfl))) rfl ?_;replace au:=au.mono (bo.trans cp);refine yE (A:=[_,_,_]) (uB sizeOf51 (Pc.snd (Pc.fst pH)) au (zAH gc)) fun fd ih=>(zR (wQ (e':=[(6,_),(10,_),(13,_),(20,_),(24,_),(25,_),(26,_)]) e7 (zF (zM (zE (asg (v:=vI (0)) rfl rfl (zR (zF (wR ?_)))))))));refine gcL (ι:=Nat×List Fc×List Value×Value×List Value×Mem) (fun(q,F1,bz,ad,bx,mf)=>(MLe go mf∧((rpP (tLs (k+l1+l2+5)) (rpP rpV (rpS (rpP rpI (rpP rpI (rpQ 1)))))).R mf bz (PP,(ad,([]:List En)))∧RL (tFc (4*k+4*l1+4*l2+40) (100*k+100*l1+100*l2+1000)) mf bx F1∧ad.oneCell'=true∧q≤(II.getD i []).length∧F1=zN7 L lo hi i++sfX L lo hi i q),[(6,vP b6 0),(10,vP Z 0),(13,C),(20,vI (↑I.length:Int)),(24,vP cn 0),(25,vP cm 0),(26,vI ↑i),(29,vI ↑q)],[.gs 22 1 jc (T0++[TL]).length gq,.gs 22 1 fg (C0++[zJ8 (II.getD i []) (II.getD i []).length]).length es,.gs 53 14 ad F1.length bx,.var cm 53 fd,.var cn 53 dl,.var nb 29 ep,.gs 22 1 C II.length av,.gs 31 9 D I.length bb,.gs 118 2 ac ED.length ar,.var Z 39 bz,.var b6 39 dx,.var b5 29 dy,.var b4 29 dz],mf,(II.getD i []).length-q)) (0,F0,cj,ay,ch,go) ?_ ?_
  · exact⟨mle,cc.up,ct.up,lm,by omega,by rw[iv];exact(List.append_nil _).symm⟩
  rintro⟨q,F1,bz,ad,bx,mf⟩ ⟨qx,ak,bv,ip,hq3,mh⟩
  refine yW ?_;have yw:F1.length=j1 L i+q:=by rw[mh,lAz,zQS oM];exact congrArg _ (xL _ _)
  have jf:=mg i oM;have ij:=dr.2 i oM;have zz:=zBZ (((i:Int):Int):Rat);have zy:=zBZ (((q:Int):Int):Rat);have hqi:=cO (i:Int) oM oM;have hqk:=cO (q:Int) oM oM;refine zM (zM (zE (mv rfl rfl (mv rfl rfl (mv rfl rfl (gv ((xD i mh6 underlying51 sizeOf22 rfl rfl rfl bO nP).cv (show _=zJ 1 C ((i*1+0)) from congrArg (zJ 1 C) (by rfl))) rfl ?_))))));replace ab:=ab.mono ((bo.trans cp).trans qx);refine zGW (F:=fun v_=>(rpS rpI).Is mf v_ (II.getD i [])) (wL fG (Pc.arr (Pc.here _) [] i bO) rfl nP rfl ab rfl) (tW mh6) rfl ?_;intro wi pf;refine gv (uP underlying22 rfl pf) rfl (gv (yG rfl rfl) rfl (zR (zF ?_)));refine cnd (fun lt=>?_) fun lt=>?_
  ·
   have ta:=ga i q oM oM;have hrb:=ga i ((q+1)%(II.getD i []).length) oM (Nat.mod_lt _ oM);refine uK (zF (zM (wR (zM ?_))));refine zL 23 _ [] [(0,.q),(1,.q),(2,.q),(3,.q),(4,.q),(5,.q),(6,.q),(7,.q),(8,.q),(9,.q),(10,.q),(11,.q),(12,.q),(13,.q),(14,.q),(15,.q),(16,.q),(17,.q),(18,.q),(19,.q),(20,.q),(21,.q),(22,.q)] yA nX (wI (by kernel_rfl)) nX (fun r hr=>hr) (uW rfl rfl rfl (uW rfl rfl rfl (w_q rfl (fun h' L' hh hR=>(xD i (hR _ mh6) underlying51 sizeOf22 rfl rfl rfl bO nP).cv (show _=zJ 1 C ((i*1+0)) from congrArg (zJ 1 C) (by rfl))) rfl (mS (F:=fun v_=>(rpS rpI).Is mf v_ (II.getD i [])) rfl (wL fG (Pc.arr (Pc.here _) [] i bO) rfl nP rfl ab rfl) (tW mh6) rfl ?_))));intro wh pe;refine uW rfl rfl rfl (wX rfl (xI (0:Int) q underlying22 ty3 pe) fun wg pd=>(wX rfl (xA ty3 pd) fun wf pc=>?_));obtain⟨rfl,tj,sv⟩:=jZ pc;refine uW rfl rfl rfl (uW rfl rfl rfl (w_q rfl (fun h' L' hh hR=>(xD i (hR _ mh6) underlying51 sizeOf22 rfl rfl rfl bO nP).cv (show _=zJ 1 C ((i*1+0)) from congrArg (zJ 1 C) (by rfl))) rfl (mS (F:=fun v_=>(rpS rpI).Is mf v_ (II.getD i [])) rfl (wL fG (Pc.arr (Pc.here _) [] i bO) rfl nP rfl ab rfl) (tW mh6) rfl ?_)));intro we oz;refine uW rfl rfl rfl (xN rfl (fun _ _=>zP (q:=1) rfl rfl oM oM) rfl (uW rfl rfl rfl (uW rfl rfl rfl (w_q rfl (fun h' L' hh hR=>(xD i (hR _ mh6) underlying51 sizeOf22 rfl rfl rfl bO nP).cv (show _=zJ 1 C ((i*1+0)) from congrArg (zJ 1 C) (by rfl))) rfl (mS (F:=fun v_=>(rpS rpI).Is mf v_ (II.getD i [])) rfl (wL fG (Pc.arr (Pc.here _) [] i bO) rfl nP rfl ab rfl) (tW mh6) rfl ?_)))));intro wd oy;refine w_q rfl (fun h' L' hh hR=>uP underlying22 rfl (oy.mono hh)) rfl (xN rfl (fun _ _=>wJ rfl rfl oM oM) rfl (wX rfl (xI (0:Int) ((q+1)%(II.getD i []).length) underlying22 ty3 oz (hi:=by exact Nat.mod_lt _ oM)) fun wc ox=>(wX rfl (xA ty3 ox) fun wb ow=>?_)));obtain⟨rfl,ti,su⟩:=jZ ow;refine zHE rfl rfl rfl (zHE rfl rfl rfl (pA (wQ (e':=[(6,_),(10,_),(13,_),(20,_),(24,_),(25,_),(26,_),(29,_),(30,_),(31,_)]) e10 (zF (zM ?_)))));refine zL 12 _ [(11,(32,31,[.bool false,.slice none 0 0,.slice none 0 0,.bool false,.slice none 0 0,.slice none 0 0,.bool false,.slice none 0 0,.slice none 0 0]))] [(0,.q),(1,.q),(2,.q),(3,.q),(4,.q),(5,.q),(6,.q),(7,.q),(8,.q),(9,.q),(10,.c),(11,.a),(12,.t)] yA (kW.cons rfl rfl (jK yX rfl rfl) kW.nil) (wI (by kernel_rfl)) (jM rfl rfl sQ) (fun r hr=>hr) (xN rfl (fun _ _=>(xJ underlying39 rfl sizeOf35 rfl).cv (show _=vP Z 0 from congrArg (vP Z) (by rfl))) rfl (wX rfl (xB uJ (Pc.fst pH) ak) fun wa ou=>(uW rfl rfl rfl (wX rfl (xI zT (((II.getD i []).getD ((q+1)%(II.getD i []).length) 0).toNat) underlying35 zN ou (hi:=by(show _<PP.length;omega))) fun vz ot=>(wX rfl (xA zN ot) fun vy os=>(xN rfl (fun _ _=>(xJ underlying39 rfl sizeOf35 rfl).cv (show _=vP Z 0 from congrArg (vP Z) (by rfl))) rfl (wX rfl (xB uJ (Pc.fst pH) ak) fun vx or=>(uW rfl rfl rfl (wX rfl (xI zT (((II.getD i []).getD q 0).toNat) underlying35 zN or (hi:=by(show _<PP.length;omega))) fun vw oq=>(wX rfl (xA zN oq) fun vv oo=>?_))))))))));refine w_c rfl (sC (ev2 rfl rfl) call22 (fun w hs=>zR4 hs os oo oM) fun vu mi fa fo=>?_);replace fo:=Rp.Is.le fo (Le.t (Le.q (l:=4*k+4*l1+4*l2+23) oM));refine w_a rfl rfl (fun iz=>?_);have nu:(tPt 1).R mi [.bool false,.slice none 0 0,.slice none 0 0,.bool false,.slice none 0 0,.slice none 0 0,.bool false,.slice none 0 0,.slice none 0 0] zT:=(wB (yN dC));have gw:=(Le.t (Le.q (l:=4*k+4*l1+4*l2+23) oM)).R nu;refine yO (A:=[]) rfl (uB sizeOf31 pH gw fo) fun rn ey=>(pA (wQ (e':=[(6,_),(10,_),(13,_),(20,_),(24,_),(25,_),(26,_),(29,_),(30,_),(31,_),(32,_)]) ⟨rfl,rfl,rfl,rfl,rfl,rfl,rfl,rfl,rfl,rfl,rfl,trivial⟩ (zF (zM ?_))));refine zL 8 _ [(7,(33,31,[.bool false,.slice none 0 0,.slice none 0 0,.bool false,.slice none 0 0,.slice none 0 0,.bool false,.slice none 0 0,.slice none 0 0]))] [(0,.q),(1,.q),(2,.q),(3,.q),(5,.q),(4,.c),(6,.q),(7,.a),(8,.t)] yA (kW.cons rfl rfl (jK yX rfl rfl) kW.nil) (by kernel_rfl) (jM rfl rfl sQ) (fun r hr=>hr) (xN rfl (fun _ _=>(zV (sz:=3) (q:=1) 1 underlying31 sizeOf29 rfl rfl rfl dC).cv (show _=vP iz 3 from congrArg (vP iz) (by rfl))) rfl (wX rfl (xB yB (Pc.ty pH) ey) fun vt fm=>(xN rfl (fun _ _=>(zV (sz:=3) (q:=0) 0 underlying31 sizeOf29 rfl rfl rfl dC).cv (show _=vP iz 0 from congrArg (vP iz) (by rfl))) rfl (wX rfl (xB yB (Pc.tx pH) ey) fun vq on=>(wX rfl (xV (ρ:=(rpQ 1)) (wG (ps':=[]) underlying29 xS rfl rfl (uL underlying29) trivial rfl (yN dC) zW)) fun vo fl=>?_)))))
   refine w_c rfl (sC (ev1 rfl) call87 (fun w hs=>iQ hs on oM) fun vp uc ez ol=>?_);replace fm:=fm.mono ez;replace fl:=fl.mono ez;refine wX rfl (xV (ρ:=(tPt (4*k+4*l1+4*l2+23))) (xW (ps':=[(0,_),(1,_),(2,_)]) underlying31 yX rfl rfl sizeOf29 e6z rfl (wB (yN oM)) (zH rfl (Pc.tx (Pc.here _)) fm (zH rfl (Pc.ty (Pc.here _)) ol (zH rfl (Pc.tz (Pc.here _)) (fl.le (Le.q (l:=4*k+4*l1+4*l2+23) oM)) zW))))) fun vn ok=>?_;refine w_a rfl rfl (fun b33=>?_);have nt:(tPt 1).R uc [.bool false,.slice none 0 0,.slice none 0 0,.bool false,.slice none 0 0,.slice none 0 0,.bool false,.slice none 0 0,.slice none 0 0] zT:=(wB (yN dC));have gu:=(Le.t (Le.q (l:=4*k+4*l1+4*l2+23) oM)).R nt;refine yO (A:=[]) rfl (uB sizeOf31 pH gu ok) fun rm ew=>(pA (zF ?_));refine qT (A:=[_,_,_,_]) 32 [] [(0,.q),(1,.q),(2,.q),(3,.q),(4,.q),(5,.q),(6,.q),(7,.q),(8,.q),(11,.q),(12,.q),(13,.q),(14,.q),(15,.q),(16,.q),(17,.q),(18,.q),(21,.q),(25,.q),(0,.x [10,23,24,27] [9,10,22,23,24,26,27] [19,20]),(28,.c),(29,.c),(30,.c),(31,.q),(32,.t)] yA nX (by kernel_rfl) nX (xN rfl (fun _ _=>(xJ underlying39 rfl sizeOf36 rfl).cv (show _=vP Z 1 from congrArg (vP Z) (by rfl))) rfl ?_);replace ak:=ak.mono (fa.trans ez);refine wX rfl (bM (xB tT (Pc.snd (Pc.fst pH)) ak)) fun vm oj=>?_;subst oj;refine wX rfl (xB zN pH ew) fun vl bm=>(wX rfl (xB zN pH ew) fun vk dq=>(xN rfl (fun _ _=>(xJ underlying39 rfl sizeOf35 rfl).cv (show _=vP Z 0 from congrArg (vP Z) (by rfl))) rfl (wX rfl (xB uJ (Pc.fst pH) ak) fun vj oi=>(uW rfl rfl rfl (wX rfl (xI zT (((II.getD i []).getD q 0).toNat) underlying35 zN oi (hi:=by(show _<PP.length;omega))) fun vi oh=>(wX rfl (xA zN oh) fun vh dp=>(uW rfl rfl rfl (uW rfl rfl rfl (uW rfl rfl rfl (uW rfl rfl rfl (xN rfl (fun _ _=>zP rfl rfl oM oM) rfl (uW rfl rfl rfl (uW rfl rfl rfl ?_)))))))))))));refine xN rfl (fun _ _=>zP rfl rfl oM oM) rfl (uW rfl rfl rfl (uW rfl rfl rfl (w_xx (N:=9) rfl ?_)));refine zFU rfl rfl rfl rfl ?x2 ?x3
   case' x2=>
    refine sC (ev2 rfl rfl) call56 (fun w hs=>y1 hs dq dp oM) fun jb ri ax ba=>?_;replace ba:=Rp.Is.le ba (Le.q (l:=15*k+15*l1+15*l2+93) oM);refine fE rfl ?_;replace bm:=bm.mono ax;refine xX rfl (xV (ρ:=(tPl (4*k+4*l1+4*l2+23) (15*k+15*l1+15*l2+93))) (wG (ps':=[(0,_),(1,_)]) underlying50 mE rfl rfl (bJ underlying50) e4z rfl (yI (wB (yN oM)) (yN oM)) (zH rfl (Pc.fst (Pc.here _)) bm (zH rfl (Pc.snd (Pc.here _)) ba zW)))) fun ja U=>?_;refine zFU rfl rfl rfl rfl ?x4 ?x5
    case' x4=>
     refine sC (ev1 rfl) call88 (fun w hs=>vZ hs oM oM) fun dm gn aa az=>?_;obtain⟨rfl,bq⟩:=kJ az;refine fE rfl (aG rfl (fun _ _=>vD (pa:=([115]:List Nat)) (pb:=(qZ (((↑i:Int):Int):Rat))) rfl rfl (by first|omega|(simp only[lAz,lC,lN,List.length_drop,List.length_take];omega))) rfl (fE rfl (aG rfl (fun _ _=>vD (pa:=(([115]:List Nat)++(qZ (((↑i:Int):Int):Rat)))) (pb:=([46]:List Nat)) rfl rfl (by first|omega|(simp only[lAz,lC,lN,List.length_drop,List.length_take];omega))) rfl ?_)));refine zFU rfl rfl rfl rfl ?x6 ?x7
     case' x6=>
      refine sC (ev1 rfl) call88 (fun w hs=>vZ hs oM oM) fun bk de O ae=>?_;obtain⟨rfl,aq⟩:=kJ ae;refine fE rfl (aG rfl (fun _ _=>vD (pa:=((([115]:List Nat)++(qZ (((↑i:Int):Int):Rat)))++([46]:List Nat))) (pb:=(qZ (((↑q:Int):Int):Rat))) rfl rfl (by first|omega|(simp only[lAz,lC,lN,List.length_drop,List.length_take];omega))) rfl (zP1 rfl rfl (gM (fun X=>zU (ρ:=rpI) (m:=4) (xs:=(lU (II.getD i []) q I)) (ps':=[(0,_),(1,_),(2,_),(3,_)]) underlying22 fO rfl rfl rfl wD e8 (zH rfl (Pc.arr (Pc.here _) (0:Int) 0 dC) (jD oM oM) (zH rfl (Pc.arr (Pc.here _) (0:Int) 1 dC) (jD oM oM) (zH rfl (Pc.arr (Pc.here _) (0:Int) 2 dC) (jD oM oM) (zH rfl (Pc.arr (Pc.here _) (0:Int) 3 dC) (jD oM oM) zW)))) (show 4*1≤16777216 from by decide) nP) rfl ?_)));intro ff fy lk;obtain⟨er,rfl,G⟩:=lk;refine zP1 rfl rfl (vC (A:=[]) (ρ:=rpI) G dK ?_);intro dd M hu;refine gM (fun X=>zU (ρ:=(rpS rpI)) (m:=1) (xs:=[(lU (II.getD i []) q I)]) (ps':=[(0,_)]) underlying51 jP rfl rfl rfl uV e2z (zH rfl (Pc.arr (Pc.here _) [] 0 dC) hu zW) (show 1*1≤16777216 from by decide) nP) rfl ?_;intro bl bn aj;obtain⟨aw,rfl,H⟩:=aj;refine zD3 ?_;replace U:=U.mono ((aa.trans O).trans M)
     case' x7=>
      refine gM (fun X=>zU (ρ:=rpI) (m:=4) (xs:=(lU (II.getD i []) q I)) (ps':=[(0,_),(1,_),(2,_),(3,_)]) underlying22 fO rfl rfl rfl wD e8 (zH rfl (Pc.arr (Pc.here _) (0:Int) 0 dC) (jD oM oM) (zH rfl (Pc.arr (Pc.here _) (0:Int) 1 dC) (jD oM oM) (zH rfl (Pc.arr (Pc.here _) (0:Int) 2 dC) (jD oM oM) (zH rfl (Pc.arr (Pc.here _) (0:Int) 3 dC) (jD oM oM) zW)))) (show 4*1≤16777216 from by decide) nP) rfl ?_
      rintro ff fy ⟨er,rfl,G⟩
      refine zFU rfl rfl rfl rfl ?x8 ?x9
      case' x8=>
       refine sC (ev1 rfl) call88 (fun w hs=>vZ hs oM oM) fun bk de O ae=>?_;obtain⟨rfl,aq⟩:=kJ ae;refine fE rfl (aG rfl (fun _ _=>vD (pa:=((([115]:List Nat)++(qZ (((↑i:Int):Int):Rat)))++([46]:List Nat))) (pb:=(qZ (((↑q:Int):Int):Rat))) rfl rfl (by first|omega|(simp only[lAz,lC,lN,List.length_drop,List.length_take];omega))) rfl (zP1 rfl rfl ?_));replace G:=G.mono O;refine vC (A:=[]) (ρ:=rpI) G dK ?_;intro dd M ht;refine gM (fun X=>zU (ρ:=(rpS rpI)) (m:=1) (xs:=[(lU (II.getD i []) q I)]) (ps':=[(0,_)]) underlying51 jP rfl rfl rfl uV e2z (zH rfl (Pc.arr (Pc.here _) [] 0 dC) ht zW) (show 1*1≤16777216 from by decide) nP) rfl ?_;intro bl bn aj;obtain⟨aw,rfl,H⟩:=aj;refine zD3 ?_;replace U:=U.mono ((aa.trans O).trans M)
      case' x9=>
       refine vC (A:=[]) (ρ:=rpI) G dK ?_;intro de O hp;refine gM (fun X=>zU (ρ:=(rpS rpI)) (m:=1) (xs:=[(lU (II.getD i []) q I)]) (ps':=[(0,_)]) underlying51 jP rfl rfl rfl uV e2z (zH rfl (Pc.arr (Pc.here _) [] 0 dC) hp zW) (show 1*1≤16777216 from by decide) nP) rfl ?_
       rintro bl bn ⟨aw,rfl,H⟩
       refine zD2 rfl rfl (sC (ev1 rfl) call88 (fun w hs=>vZ hs oM oM) fun bk dd M ae=>?_);obtain⟨rfl,aq⟩:=kJ ae;refine fE rfl (aG rfl (fun _ _=>vD (pa:=((([115]:List Nat)++(qZ (((↑i:Int):Int):Rat)))++([46]:List Nat))) (pb:=(qZ (((↑q:Int):Int):Rat))) rfl rfl (by first|omega|(simp only[lAz,lC,lN,List.length_drop,List.length_take];omega))) rfl (zD3 ?_));replace U:=U.mono ((aa.trans O).trans M);replace H:=H.mono M
    case' x5=>
     refine gM (fun X=>zU (ρ:=rpI) (m:=4) (xs:=(lU (II.getD i []) q I)) (ps':=[(0,_),(1,_),(2,_),(3,_)]) underlying22 fO rfl rfl rfl wD e8 (zH rfl (Pc.arr (Pc.here _) (0:Int) 0 dC) (jD oM oM) (zH rfl (Pc.arr (Pc.here _) (0:Int) 1 dC) (jD oM oM) (zH rfl (Pc.arr (Pc.here _) (0:Int) 2 dC) (jD oM oM) (zH rfl (Pc.arr (Pc.here _) (0:Int) 3 dC) (jD oM oM) zW)))) (show 4*1≤16777216 from by decide) nP) rfl ?_
     rintro ff fy ⟨er,rfl,G⟩
     refine zFU rfl rfl rfl rfl ?x10 ?x11
     case' x10=>
      refine sC (ev1 rfl) call88 (fun w hs=>vZ hs oM oM) fun dm gn aa az=>?_;obtain⟨rfl,bq⟩:=kJ az;refine fE rfl (aG rfl (fun _ _=>vD (pa:=([115]:List Nat)) (pb:=(qZ (((↑i:Int):Int):Rat))) rfl rfl (by first|omega|(simp only[lAz,lC,lN,List.length_drop,List.length_take];omega))) rfl (fE rfl (aG rfl (fun _ _=>vD (pa:=(([115]:List Nat)++(qZ (((↑i:Int):Int):Rat)))) (pb:=([46]:List Nat)) rfl rfl (by first|omega|(simp only[lAz,lC,lN,List.length_drop,List.length_take];omega))) rfl ?_)));refine zFU rfl rfl rfl rfl ?x12 ?x13
      case' x12=>
       refine sC (ev1 rfl) call88 (fun w hs=>vZ hs oM oM) fun bk de O ae=>?_;obtain⟨rfl,aq⟩:=kJ ae;refine fE rfl (aG rfl (fun _ _=>vD (pa:=((([115]:List Nat)++(qZ (((↑i:Int):Int):Rat)))++([46]:List Nat))) (pb:=(qZ (((↑q:Int):Int):Rat))) rfl rfl (by first|omega|(simp only[lAz,lC,lN,List.length_drop,List.length_take];omega))) rfl (zP1 rfl rfl ?_));replace G:=G.mono (aa.trans O);refine vC (A:=[]) (ρ:=rpI) G dK ?_;intro dd M ho;refine gM (fun X=>zU (ρ:=(rpS rpI)) (m:=1) (xs:=[(lU (II.getD i []) q I)]) (ps':=[(0,_)]) underlying51 jP rfl rfl rfl uV e2z (zH rfl (Pc.arr (Pc.here _) [] 0 dC) ho zW) (show 1*1≤16777216 from by decide) nP) rfl ?_;intro bl bn aj;obtain⟨aw,rfl,H⟩:=aj;refine zD3 ?_;replace U:=U.mono ((aa.trans O).trans M)
      case' x13=>
       replace G:=G.mono aa;refine vC (A:=[]) (ρ:=rpI) G dK ?_;intro de O hn;refine gM (fun X=>zU (ρ:=(rpS rpI)) (m:=1) (xs:=[(lU (II.getD i []) q I)]) (ps':=[(0,_)]) underlying51 jP rfl rfl rfl uV e2z (zH rfl (Pc.arr (Pc.here _) [] 0 dC) hn zW) (show 1*1≤16777216 from by decide) nP) rfl ?_;intro bl bn aj;obtain⟨aw,rfl,H⟩:=aj;refine zD2 rfl rfl (sC (ev1 rfl) call88 (fun w hs=>vZ hs oM oM) fun bk dd M ae=>?_);obtain⟨rfl,aq⟩:=kJ ae;refine fE rfl (aG rfl (fun _ _=>vD (pa:=((([115]:List Nat)++(qZ (((↑i:Int):Int):Rat)))++([46]:List Nat))) (pb:=(qZ (((↑q:Int):Int):Rat))) rfl rfl (by first|omega|(simp only[lAz,lC,lN,List.length_drop,List.length_take];omega))) rfl (zD3 ?_));replace U:=U.mono ((aa.trans O).trans M);replace H:=H.mono M
     case' x11=>
      refine vC (A:=[]) (ρ:=rpI) G dK ?_;intro gn aa hm;refine gM (fun X=>zU (ρ:=(rpS rpI)) (m:=1) (xs:=[(lU (II.getD i []) q I)]) (ps':=[(0,_)]) underlying51 jP rfl rfl rfl uV e2z (zH rfl (Pc.arr (Pc.here _) [] 0 dC) hm zW) (show 1*1≤16777216 from by decide) nP) rfl ?_
      rintro bl bn ⟨aw,rfl,H⟩
      refine zD2 rfl rfl (sC (ev1 rfl) call88 (fun w hs=>vZ hs oM oM) fun dm de O az=>?_);obtain⟨rfl,bq⟩:=kJ az;refine fE rfl (aG rfl (fun _ _=>vD (pa:=([115]:List Nat)) (pb:=(qZ (((↑i:Int):Int):Rat))) rfl rfl (by first|omega|(simp only[lAz,lC,lN,List.length_drop,List.length_take];omega))) rfl (fE rfl (aG rfl (fun _ _=>vD (pa:=(([115]:List Nat)++(qZ (((↑i:Int):Int):Rat)))) (pb:=([46]:List Nat)) rfl rfl (by first|omega|(simp only[lAz,lC,lN,List.length_drop,List.length_take];omega))) rfl (zD2 rfl rfl (sC (ev1 rfl) call88 (fun w hs=>vZ hs oM oM) fun bk dd M ae=>?_)))));obtain⟨rfl,aq⟩:=kJ ae;refine fE rfl (aG rfl (fun _ _=>vD (pa:=((([115]:List Nat)++(qZ (((↑i:Int):Int):Rat)))++([46]:List Nat))) (pb:=(qZ (((↑q:Int):Int):Rat))) rfl rfl (by first|omega|(simp only[lAz,lC,lN,List.length_drop,List.length_take];omega))) rfl (zD3 ?_));replace U:=U.mono ((aa.trans O).trans M);replace H:=H.mono (O.trans M)
   case' x3=>
    refine gM (fun X=>zU (ρ:=rpI) (m:=4) (xs:=(lU (II.getD i []) q I)) (ps':=[(0,_),(1,_),(2,_),(3,_)]) underlying22 fO rfl rfl rfl wD e8 (zH rfl (Pc.arr (Pc.here _) (0:Int) 0 dC) (jD oM oM) (zH rfl (Pc.arr (Pc.here _) (0:Int) 1 dC) (jD oM oM) (zH rfl (Pc.arr (Pc.here _) (0:Int) 2 dC) (jD oM oM) (zH rfl (Pc.arr (Pc.here _) (0:Int) 3 dC) (jD oM oM) zW)))) (show 4*1≤16777216 from by decide) nP) rfl ?_
    rintro ff fy ⟨er,rfl,G⟩
    refine zFU rfl rfl rfl rfl ?x14 ?x15
    case' x14=>
     refine sC (ev2 rfl rfl) call56 (fun w hs=>y1 hs dq dp oM) fun jb ri ax ba=>?_;replace ba:=Rp.Is.le ba (Le.q (l:=15*k+15*l1+15*l2+93) oM);refine fE rfl ?_;replace bm:=bm.mono ax;refine xX rfl (xV (ρ:=(tPl (4*k+4*l1+4*l2+23) (15*k+15*l1+15*l2+93))) (wG (ps':=[(0,_),(1,_)]) underlying50 mE rfl rfl (bJ underlying50) e4z rfl (yI (wB (yN oM)) (yN oM)) (zH rfl (Pc.fst (Pc.here _)) bm (zH rfl (Pc.snd (Pc.here _)) ba zW)))) fun ja U=>?_;refine zFU rfl rfl rfl rfl ?x16 ?x17
     case' x16=>
      refine sC (ev1 rfl) call88 (fun w hs=>vZ hs oM oM) fun dm gn aa az=>?_;obtain⟨rfl,bq⟩:=kJ az;refine fE rfl (aG rfl (fun _ _=>vD (pa:=([115]:List Nat)) (pb:=(qZ (((↑i:Int):Int):Rat))) rfl rfl (by first|omega|(simp only[lAz,lC,lN,List.length_drop,List.length_take];omega))) rfl (fE rfl (aG rfl (fun _ _=>vD (pa:=(([115]:List Nat)++(qZ (((↑i:Int):Int):Rat)))) (pb:=([46]:List Nat)) rfl rfl (by first|omega|(simp only[lAz,lC,lN,List.length_drop,List.length_take];omega))) rfl ?_)));refine zFU rfl rfl rfl rfl ?x18 ?x19
      case' x18=>
       refine sC (ev1 rfl) call88 (fun w hs=>vZ hs oM oM) fun bk de O ae=>?_;obtain⟨rfl,aq⟩:=kJ ae;refine fE rfl (aG rfl (fun _ _=>vD (pa:=((([115]:List Nat)++(qZ (((↑i:Int):Int):Rat)))++([46]:List Nat))) (pb:=(qZ (((↑q:Int):Int):Rat))) rfl rfl (by first|omega|(simp only[lAz,lC,lN,List.length_drop,List.length_take];omega))) rfl (zP1 rfl rfl ?_));replace G:=G.mono ((ax.trans aa).trans O);refine vC (A:=[]) (ρ:=rpI) G dK ?_;intro dd M hk;refine gM (fun X=>zU (ρ:=(rpS rpI)) (m:=1) (xs:=[(lU (II.getD i []) q I)]) (ps':=[(0,_)]) underlying51 jP rfl rfl rfl uV e2z (zH rfl (Pc.arr (Pc.here _) [] 0 dC) hk zW) (show 1*1≤16777216 from by decide) nP) rfl ?_;intro bl bn aj;obtain⟨aw,rfl,H⟩:=aj;refine zD3 ?_;replace U:=U.mono ((aa.trans O).trans M)
      case' x19=>
       replace G:=G.mono (ax.trans aa);refine vC (A:=[]) (ρ:=rpI) G dK ?_;intro de O hj;refine gM (fun X=>zU (ρ:=(rpS rpI)) (m:=1) (xs:=[(lU (II.getD i []) q I)]) (ps':=[(0,_)]) underlying51 jP rfl rfl rfl uV e2z (zH rfl (Pc.arr (Pc.here _) [] 0 dC) hj zW) (show 1*1≤16777216 from by decide) nP) rfl ?_;intro bl bn aj;obtain⟨aw,rfl,H⟩:=aj;refine zD2 rfl rfl (sC (ev1 rfl) call88 (fun w hs=>vZ hs oM oM) fun bk dd M ae=>?_);obtain⟨rfl,aq⟩:=kJ ae;refine fE rfl (aG rfl (fun _ _=>vD (pa:=((([115]:List Nat)++(qZ (((↑i:Int):Int):Rat)))++([46]:List Nat))) (pb:=(qZ (((↑q:Int):Int):Rat))) rfl rfl (by first|omega|(simp only[lAz,lC,lN,List.length_drop,List.length_take];omega))) rfl (zD3 ?_));replace U:=U.mono ((aa.trans O).trans M);replace H:=H.mono M
     case' x17=>
      replace G:=G.mono ax;refine vC (A:=[]) (ρ:=rpI) G dK ?_;intro gn aa hf;refine gM (fun X=>zU (ρ:=(rpS rpI)) (m:=1) (xs:=[(lU (II.getD i []) q I)]) (ps':=[(0,_)]) underlying51 jP rfl rfl rfl uV e2z (zH rfl (Pc.arr (Pc.here _) [] 0 dC) hf zW) (show 1*1≤16777216 from by decide) nP) rfl ?_;intro bl bn aj;obtain⟨aw,rfl,H⟩:=aj;refine zD2 rfl rfl (sC (ev1 rfl) call88 (fun w hs=>vZ hs oM oM) fun dm de O az=>?_);obtain⟨rfl,bq⟩:=kJ az;refine fE rfl (aG rfl (fun _ _=>vD (pa:=([115]:List Nat)) (pb:=(qZ (((↑i:Int):Int):Rat))) rfl rfl (by first|omega|(simp only[lAz,lC,lN,List.length_drop,List.length_take];omega))) rfl (fE rfl (aG rfl (fun _ _=>vD (pa:=(([115]:List Nat)++(qZ (((↑i:Int):Int):Rat)))) (pb:=([46]:List Nat)) rfl rfl (by first|omega|(simp only[lAz,lC,lN,List.length_drop,List.length_take];omega))) rfl (zD2 rfl rfl (sC (ev1 rfl) call88 (fun w hs=>vZ hs oM oM) fun bk dd M ae=>?_)))));obtain⟨rfl,aq⟩:=kJ ae;refine fE rfl (aG rfl (fun _ _=>vD (pa:=((([115]:List Nat)++(qZ (((↑i:Int):Int):Rat)))++([46]:List Nat))) (pb:=(qZ (((↑q:Int):Int):Rat))) rfl rfl (by first|omega|(simp only[lAz,lC,lN,List.length_drop,List.length_take];omega))) rfl (zD3 ?_));replace U:=U.mono ((aa.trans O).trans M);replace H:=H.mono (O.trans M)
    case' x15=>
     refine vC (A:=[]) (ρ:=rpI) G dK ?_;intro ri ax hd;refine gM (fun X=>zU (ρ:=(rpS rpI)) (m:=1) (xs:=[(lU (II.getD i []) q I)]) (ps':=[(0,_)]) underlying51 jP rfl rfl rfl uV e2z (zH rfl (Pc.arr (Pc.here _) [] 0 dC) hd zW) (show 1*1≤16777216 from by decide) nP) rfl ?_
     rintro bl bn ⟨aw,rfl,H⟩
     refine zD2 rfl rfl ?_;replace dq:=dq.mono ax;replace dp:=dp.mono ax;refine sC (ev2 rfl rfl) call56 (fun w hs=>y1 hs dq dp oM) fun jb gn aa ba=>?_;replace ba:=Rp.Is.le ba (Le.q (l:=15*k+15*l1+15*l2+93) oM);refine fE rfl ?_;replace bm:=bm.mono (ax.trans aa);refine xX rfl (xV (ρ:=(tPl (4*k+4*l1+4*l2+23) (15*k+15*l1+15*l2+93))) (wG (ps':=[(0,_),(1,_)]) underlying50 mE rfl rfl (bJ underlying50) e4z rfl (yI (wB (yN oM)) (yN oM)) (zH rfl (Pc.fst (Pc.here _)) bm (zH rfl (Pc.snd (Pc.here _)) ba zW)))) fun ja U=>(zD2 rfl rfl (sC (ev1 rfl) call88 (fun w hs=>vZ hs oM oM) fun dm de O az=>?_));obtain⟨rfl,bq⟩:=kJ az;refine fE rfl (aG rfl (fun _ _=>vD (pa:=([115]:List Nat)) (pb:=(qZ (((↑i:Int):Int):Rat))) rfl rfl (by first|omega|(simp only[lAz,lC,lN,List.length_drop,List.length_take];omega))) rfl (fE rfl (aG rfl (fun _ _=>vD (pa:=(([115]:List Nat)++(qZ (((↑i:Int):Int):Rat)))) (pb:=([46]:List Nat)) rfl rfl (by first|omega|(simp only[lAz,lC,lN,List.length_drop,List.length_take];omega))) rfl (zD2 rfl rfl (sC (ev1 rfl) call88 (fun w hs=>vZ hs oM oM) fun bk dd M ae=>?_)))));obtain⟨rfl,aq⟩:=kJ ae;refine fE rfl (aG rfl (fun _ _=>vD (pa:=((([115]:List Nat)++(qZ (((↑i:Int):Int):Rat)))++([46]:List Nat))) (pb:=(qZ (((↑q:Int):Int):Rat))) rfl rfl (by first|omega|(simp only[lAz,lC,lN,List.length_drop,List.length_take];omega))) rfl (zD3 ?_));replace H:=H.mono ((aa.trans O).trans M);replace U:=U.mono (O.trans M)
   all_goals
    refine w_c rfl (vC (A:=[]) (ρ:=(rpS rpI)) H dK ?_);intro h18 gj hc;replace U:=U.mono gj;refine sX (xV (ρ:=(tFc (4*k+4*l1+4*l2+23) (15*k+15*l1+15*l2+93))) (wG (ps':=[(0,_),(1,_),(2,_)]) underlying53 kU rfl rfl (lI underlying53) e6z rfl (yI (yI (wB (yN oM)) (yN oM)) (yI uV tS)) (zH rfl (Pc.fst (Pc.here _)) U (zH rfl (Pc.snd (Pc.fst (Pc.here _))) hc (zH rfl (Pc.snd (Pc.snd (Pc.here _))) (bV ((((show ByB [115] by unfold ByB;decide).app bq).app (show ByB [46] by unfold ByB;decide)).app aq)) zW))))) fun vg og=>?_;refine w_c rfl (gM (fun X=>zU (ρ:=(tFc (4*k+4*l1+4*l2+23) (15*k+15*l1+15*l2+93))) (m:=1) (xs:=[(((nU PP ad (II.getD i []) q),wO (nU PP ad (II.getD i []) q) (pU PP ad ((II.getD i []).getD q 0))),([(lU (II.getD i []) q I)],(((([115]:List Nat)++(qZ (((↑i:Int):Int):Rat)))++([46]:List Nat))++(qZ (((↑q:Int):Int):Rat)))))]) (ps':=[(0,_)]) underlying36 kU rfl rfl rfl (yI (yI (wB (yN oM)) (yN oM)) (yI uV tS)) e2z (zH rfl (Pc.arr (Pc.here _) zA 0 dC) og zW) (show 1*14≤16777216 from by decide) nP) rfl ?_)
    rintro vf yh ⟨uk,rfl,kl⟩
    refine w_c rfl (vC (A:=[]) (ρ:=(tFc (4*k+4*l1+4*l2+23) (15*k+15*l1+15*l2+93))) kl dK ?_);intro tw jg hb;replace bv:=bv.mono (((((((fa.trans ez).trans ax).trans aa).trans O).trans M).trans gj).trans jg);refine rQ (A:=[_,_,_,_]) (fun X=>qP (zX (ρ:=(tFc (4*k+4*l1+4*l2+40) (100*k+100*l1+100*l2+1000))) (bytes:=264) underlying36 kU rfl rfl rfl rfl nP rfl rfl bv (hb.le (Le.s (Le.p (Le.p (Le.t (Le.q (l:=4*k+4*l1+4*l2+40) oM)) (Le.q (l:=100*k+100*l1+100*l2+1000) oM)) (Le.refl _)))) bO bO)) rfl (wP (by first|(simp;done)|grind)) ?_
    rintro nc yg ⟨gb,mu,rfl,kk⟩
    refine xN rfl (fun _ _=>(xJ underlying39 rfl sizeOf36 rfl).cv (show _=vP Z 1 from congrArg (vP Z) (by rfl))) rfl ?_;replace ak:=ak.mono (((((ax.trans aa).trans O).trans M).trans gj).trans jg);refine yO (A:=[_,_,_,_,_,_,_,_,_,_,_]) rfl (uB sizeOf36 (Pc.snd (Pc.fst pH)) ak (zAH gb)) fun iy ig=>(pA (sH (wQ (e':=[(6,_),(10,_),(13,_),(20,_),(24,_),(25,_),(26,_),(29,_)]) e8 (zF (zE (mv rfl rfl (gv (zP (q:=1) rfl rfl oM oM) rfl (asg rfl rfl (zR (xM (A:=[]) (xM (A:=[]) ?_)))))))))));refine gqL ((q+1),(F1++[(((nU PP ad (II.getD i []) q),wO (nU PP ad (II.getD i []) q) (pU PP ad ((II.getD i []).getD q 0))),([(lU (II.getD i []) q I)],(((([115]:List Nat)++(qZ (((↑i:Int):Int):Rat)))++([46]:List Nat))++(qZ (((↑q:Int):Int):Rat)))))]),iy,nc,mu,tw) ?_ ?_
    · exact⟨mle,ig,kk,gb,by omega,by rw[mh,gm,cg,bi,List.append_assoc];rfl⟩
    omega
  have ef:q=(II.getD i []).length:=by omega
  refine kY (uF (uF (kX (sH (zF (zE (mv rfl rfl (gv (zP (q:=1) rfl rfl oM oM) rfl (asg rfl rfl (zR ?_))))))))));refine gqL ((i+1),F1,(C0++[zJ8 (II.getD i []) (II.getD i []).length]),(T0++[TL]),bz,dl,fd,ad,bx,fg,es,jc,gq,mf) ?_ ?_
  · exact⟨mle,ak,ii.up,ih.up,bv,ip,kq.up,ge,km.up,gc,by omega,by rw[iw,cg];rfl,by rw[iq,mc,ek,cg];rfl,by rw[mh,ef,cg];rfl⟩
  omega
 have ud:i=(bxZ L).length:=by rw[yBE];omega
 rw[ud] at iw iq iv;refine kY (uF (uF (kX (zF (zM (zE (gv ((xJ underlying39 rfl sizeOf36 rfl).cv (show _=vP Z 1 from congrArg (vP Z) (by rfl))) rfl (lX (bM (xB tT (Pc.snd (Pc.fst pH)) cc)) fun ve oe=>?_))))))));subst oe;refine zY (A:=[_]) (ρ:=(rpS rpI)) cq ?_;intro h8 bs ha;replace bg:=bg.mono bs;have cz:(tFc 5 (l1+l2+5)).R h8 dh (((T3.mk (0:Rat) (0:Rat) (-((1:Int):Rat)),-lo),(ao,[98,111,116,116,111,109])).1,(C0,(((T3.mk (0:Rat) (0:Rat) (-((1:Int):Rat)),-lo),(ao,[98,111,116,116,111,109])).2).2)):=zJV bg ha;replace bp:=bp.mono bs;refine zY (A:=[]) (ρ:=(rpS rpI)) bp ?_;intro h9 cf gz;replace au:=au.mono (bs.trans cf);have ie:(tFc 5 (l1+l2+5)).R h9 ci (((T3.mk (0:Rat) (0:Rat) ((1:Int):Rat),hi),(am,[116,111,112])).1,(T0,(((T3.mk (0:Rat) (0:Rat) ((1:Int):Rat),hi),(am,[116,111,112])).2).2)):=zJV au gz;replace cz:=cz.mono cf;refine lX (xB bG pH cz) fun vd od=>(lX (xB bG pH ie) fun vc oc=>(zI (zU (ρ:=(tFc 5 (l1+l2+5))) (m:=2) (xs:=[(((T3.mk (0:Rat) (0:Rat) (-((1:Int):Rat)),-lo),(ao,[98,111,116,116,111,109])).1,(C0,(((T3.mk (0:Rat) (0:Rat) (-((1:Int):Rat)),-lo),(ao,[98,111,116,116,111,109])).2).2)),(((T3.mk (0:Rat) (0:Rat) ((1:Int):Rat),hi),(am,[116,111,112])).1,(T0,(((T3.mk (0:Rat) (0:Rat) ((1:Int):Rat),hi),(am,[116,111,112])).2).2))]) (ps':=[(0,_),(1,_)]) underlying36 kU rfl rfl rfl (yI (yI (wB (yN dC)) (yN oM)) (yI uV tS)) e4z (zH rfl (Pc.arr (Pc.here _) zA 0 dC) od (zH rfl (Pc.arr (Pc.here _) zA 1 dC) oc zW)) (show 2*14≤16777216 from by decide) nP) rfl rfl rfl ?_))
 rintro vb yf ⟨uj,rfl,kj⟩
 refine zY (A:=[]) (ρ:=(tFc 5 (l1+l2+5))) kj ?_;intro ml bo gy;replace ct:=ct.mono ((bs.trans cf).trans bo);refine xK (A:=[]) (qP (zX (ρ:=(tFc (4*k+4*l1+4*l2+40) (100*k+100*l1+100*l2+1000))) (bytes:=264) underlying36 kU rfl rfl rfl rfl nP rfl rfl ct (gy.le (Le.s (Le.p (Le.p (Le.t (Le.q (l:=4*k+4*l1+4*l2+40) oM)) (Le.q (l:=100*k+100*l1+100*l2+1000) oM)) (Le.refl _)))) bO bO)) rfl rfl rfl ?_
 rintro va ye ⟨ln,ui,rfl,ki⟩
 refine gv ((xJ underlying39 rfl sizeOf36 rfl).cv (show _=vP Z 1 from congrArg (vP Z) (by rfl))) rfl ?_;replace cc:=cc.mono ((bs.trans cf).trans bo);refine yE (A:=[_,_,_,_,_,_,_]) (uB sizeOf36 (Pc.snd (Pc.fst pH)) cc (zAH ln)) fun fc cy=>(zR (wQ (e':=[(6,_),(10,_)]) e2z (zF (zM (zE (zY (A:=[]) (ρ:=(tFc (4*k+4*l1+4*l2+40) (100*k+100*l1+100*l2+1000))) ki ?_))))));intro go cp gx;replace cy:=cy.mono cp;have id:(tSd (k+l1+l2+5) (4*k+4*l1+4*l2+40) (100*k+100*l1+100*l2+1000) 1).R go fc ((PP,(ay,([]:List En))).1,((F0++[(((T3.mk (0:Rat) (0:Rat) (-((1:Int):Rat)),-lo),(ao,[98,111,116,116,111,109])).1,(C0,(((T3.mk (0:Rat) (0:Rat) (-((1:Int):Rat)),-lo),(ao,[98,111,116,116,111,109])).2).2)),(((T3.mk (0:Rat) (0:Rat) ((1:Int):Rat),hi),(am,[116,111,112])).1,(T0,(((T3.mk (0:Rat) (0:Rat) ((1:Int):Rat),hi),(am,[116,111,112])).2).2))]),((PP,(ay,([]:List En))).2).2)):=zJV cy gx;have ic:(tSd (k+l1+l2+5) (4*k+4*l1+4*l2+40) (100*k+100*l1+100*l2+1000) 1).R go fc (prR L lo hi):=Rp.castR id (by rw[iv,gm,iw,iq];rfl);refine lX (xB fF pH ic) fun uy ob=>?_;refine jE (vs:=[_]) rfl rfl rfl rfl call47 ⟨rfl,trivial⟩ (fun w hs=>zCW hs ob oM oM oM (by first|omega|exact hcd4 rc)) ?_;intro ux mi zd fa dn;obtain⟨rp,ix,dn,rfl,io,bu⟩:=dn
 change RL (tFc (4*(4*k+4*l1+4*l2+40)+12) ((4*k+4*l1+4*l2+40)+(100*k+100*l1+100*l2+1000)+12)) mi ix (nrF (prR L lo hi)) at bu
 replace dn:=Rp.Is.le dn (Le.p (Le.s (Le.t (Le.q (l:=k+l1+l2+6) oM))) (Le.p (Le.refl _) (Le.s (Le.p (Le.refl _) (Le.p (Le.refl _) (Le.q (l:=2) oM))))));replace bu:=(Le.p (Le.p (Le.t (Le.q (l:=16*k+16*l1+16*l2+172) oM)) (Le.q (l:=104*k+104*l1+104*l2+1052) oM)) (Le.refl _)).rl bu;replace bh:=bh.mono ((((((((((((((du.trans eg).trans dt).trans ce).trans br).trans ap).trans cl).trans dc).trans gh).trans jd).trans bs).trans cf).trans bo).trans cp).trans fa);have gt:=(Le.p (Le.s (Le.t (Le.q (l:=k+l1+l2+6) oM))) (Le.p (Le.refl _) (Le.s (Le.p (Le.refl _) (Le.p (Le.refl _) (Le.q (l:=2) dC)))))).R bh;refine yE (A:=[_,_,_,_,_,_,_,_]) (uB sizeOf39 pH gt dn) fun rk ib=>(asg (v:=vI (0)) rfl rfl (zR (zF (bX ?_))));rw[rc,rb,tp];refine uR (tU (t:=6) fF (.tail _ mh7) rfl ib) ?_;intro ro fz hz;refine fC (.cons_cons _ (List.nil_sublist _)) (fun E S=>jX rfl fz (sR rfl) E S) ?_;exact⟨_,_,_,rfl,(Rp.Is.cast (Rp.Is.le hz (Le.p (Le.s (Le.t (Le.q (l:=k+l1+l2+20) oM))) (Le.p (Le.refl _) (Le.s (Le.p (Le.refl _) (Le.p (Le.refl _) (Le.q (l:=5) dC))))))) (by rw[show nrE (prR L lo hi)=[] from by unfold nrE;split<;>rfl])),rfl,io,((Le.p (Le.p (Le.t (Le.q (l:=1000*k+1000*l1+1000*l2+2000) oM)) (Le.q (l:=1000*k+1000*l1+1000*l2+2000) oM)) (Le.refl _)).rl bu)⟩
end Go.Proofs.YtpkaegemlpaenaaGreat
