/- Texts that the proof needs, part 5. -/
import Derived.Test.YtpkaegemlpaenaaGreatK4
import Derived.Scope
namespace Go.Proofs.YtpkaegemlpaenaaGreat
open Bk Go Tryz
set_option linter.unusedVariables false
set_option linter.unusedSimpArgs false
set_option maxRecDepth 10000
set_option maxHeartbeats 1000000
attribute [local irreducible] GL GC GQ W OpV
theorem zSL{w0:World}{h0:Mem}(hs:MLe h0 (mem w0)){n m:Int}(hm:0<m)(hm2:m<4611686018427387904):
 Calls Tryz.prog 44 #[vI n,vI m] w0 (Ret w0 h0 (fun _ r=>r=vI (zEE n m))):=by
 have C:=zB2 n hm;refine cb2 14 (vI n) (vI m) func44 hs ?_;refine go9 ?_;refine gv (zOK rfl rfl oM) rfl (zBF (fun z=>?_) fun z=>?_)
 ·
  refine tG ?_;refine zC rfl rfl ?_;rw[zEE,if_pos z]
 refine go9 ?_;refine zC rfl rfl ?_;rw[zEE,if_neg z]
theorem zLE{w0:World}{h0:Mem}(hs:MLe h0 (mem w0)){vl:Value}{xs:List Int}(hl:Is h0 vl xs):
 Calls Tryz.prog 9 #[vl] w0 (Ret w0 h0 (fun _ r=>r=vB ((↑xs.length:Int)≤500))):=by
 refine cb1 6 vl func9 hs ?_;refine go8 ?_;refine gv (zEY underlying22 rfl hl) rfl (go5 ?_);refine zC rfl rfl ?_
 rfl
theorem zO9{w0:World}{h0:Mem}(hs:MLe h0 (mem w0)){vl:Value}{xs:List Int}(hl:Is h0 vl xs):
 Calls Tryz.prog 11 #[vl] w0 (tK w0 h0 (fun _ r L=>∃b,r=vP b 0∧L=[.var b 72 [vl,vI ↑0]])):=by
 refine cb1 6 vl func11 hs ?_;refine go8 ?_;refine gv (xR (ps':=[(0,_)]) (vs:=[vl,vI 0]) underlying72 zS2 rfl (zRH underlying72) e2z (wK (A:=[]) (B:=[_]) (C:=[_]) (cs:=[_]) (off:=0) (size:=1) rfl rfl rfl rfl hl.cells qU)) rfl (zI (wF (cs:=[_,_]) rfl rfl) rfl rfl rfl ?_);intro D G z;obtain⟨H,rfl,rfl⟩:=z;refine go4 ?_;refine jQ rfl rfl ?_;exact⟨_,rfl,rfl⟩
theorem tQ{w0 w:World}{h0 h:Mem}{b k:Nat}{vl:Value}{xs:List Int}(hl:Is h vl xs)(hk:k≤xs.length){n:Int}(hn:0<n)(hn2:n<4611686018427387904){L:List Res}(hs:St w0 h0 (.var b 72 [vl,vI ↑k]::L) h w):
 Calls Tryz.prog 13 #[vP b 0,vI n] w (zD1 w0 h0 h L (fun g r q'=>∃k':Nat,∃z,q'=.var b 72 [vl,vI ↑k']∧k'≤xs.length∧(r=vI z∧0≤z∧z<n))):=by
 have J:=hl.lt63;refine tJ (n:=35) (e:=[(0,vP b 0),(1,vI n)]) (vs:=[vP b 0,vI n]) func13 rfl rfl (bL rfl) hs e2z (go7 ?_);refine zL 10 _ [] [(0,.q),(1,.q),(2,.q),(3,.q),(4,.q),(5,.q),(6,.q),(7,.q),(8,.q),(9,.q)] yA nX (by kernel_rfl) nX (fun r H=>H) (go1 ?_);refine xN rfl (fun _ _=>kM rfl) rfl (go3 ?_);refine xN rfl (fun _ _=>kM rfl) rfl (go2 ?_);refine w_q rfl (fun h' L' hh hR=>zEY underlying22 rfl (hl.mono hh)) rfl (gc3 (fun G=>?_) fun G=>?_)
 ·
  refine go7 ?_;refine jQ rfl rfl ?_;exact⟨_,(List.Sublist.refl _),(MLe.refl _),k,0,rfl,hk,rfl,by omega,hn⟩
 refine go5 ?_;refine gv (kM rfl) rfl (go3 ?_);refine gv (kM rfl) rfl (go1 ?_);refine xZ (A:=[]) (r':=.var b 72 [vl,vI ((↑k:Int)+(1:Int))]) (zK (k:=1) (cs:=[_,_]) (vs:=[_]) rfl rfl rfl rfl zXJ (bL rfl)) rfl rfl rfl (go3 ?_);refine zL 14 _ [] [(0,.q),(1,.q),(2,.q),(3,.q),(4,.q),(5,.q),(6,.q),(7,.q),(8,.q),(9,.q),(10,.q),(11,.q),(12,.c),(13,.q)] yA nX (by kernel_rfl) nX (fun r H=>H) (go1 ?_);refine xN rfl (fun _ _=>kM rfl) rfl (go3 ?_);refine xN rfl (fun _ _=>kM rfl) rfl (go3 ?_);refine w_q rfl (fun h' L' hh hR=>zH9 (k) underlying22 sizeOf3 rfl rfl (hl.mono hh) oM oM) rfl (w_q rfl (fun h' L' hh hR=>zKM isAgg3 rfl (hl.mono hh) oM) rfl (go1 ?_));refine w_c rfl (sC (ev2 rfl rfl) call44 (fun w hs=>zSL hs oM oM) fun M h1 I D=>?_);have C:=zLA ((xs).getD (k) 0) (q:=n) oM;subst D;refine go4 ?_;refine jQ rfl rfl ?_;exact⟨_,(List.Sublist.refl _),I,k+1,_,rfl,by omega,rfl,C.1,C.2⟩
end Go.Proofs.YtpkaegemlpaenaaGreat
namespace Go.Proofs.YtpkaegemlpaenaaGreat
open Bk Go Tryz
set_option linter.unusedVariables false
set_option linter.unusedSimpArgs false
set_option maxRecDepth 10000
set_option maxHeartbeats 1000000
attribute [local irreducible] GL GC GQ W OpV
end Go.Proofs.YtpkaegemlpaenaaGreat
namespace Go.Proofs.YtpkaegemlpaenaaGreat
open Bk Go Tryz
set_option linter.unusedVariables false
set_option linter.unusedSimpArgs false
set_option maxRecDepth 10000
set_option maxHeartbeats 1000000
attribute [local irreducible] GL GC GQ W OpV
theorem zRI{w0:World}{h0:Mem}(hs:MLe h0 (mem w0)){qa:Rat}{vna vda:Value}(hna:Us .u32 h0 vna (zB qa.num.natAbs))(hda:Us .u32 h0 vda (zB (wA qa.den))):
 Calls Tryz.prog 146 #[.agg #[vB (qa.num<0),vna,vda]] w0 (Ret w0 h0 (fun _ r=>r=.tuple #[vI (smZ qa),vB (smB qa)])):=by
 refine cb1 33 (.agg #[vB (qa.num<0),vna,vda]) func146 hs ?_;refine go2 ?_;refine zI (wF (cs:=[_,_,_]) rfl rfl) rfl rfl rfl ?_;intro v1 r1 M;obtain⟨b1,rfl,rfl⟩:=M;refine qA ?_;refine gU 6 14 (vB (((0:Int)<(↑(zB (wA qa.den)).length:Int))∨((1:Int)<(↑(zB qa.num.natAbs).length:Int)))) ?_ ?_
 ·
  refine zS ((0:Int)<(↑(zB (wA qa.den)).length:Int)) (fun I=>?_) (fun I=>?_)
  ·
   refine gT I rfl (go6 ?_);refine gqU ?_;exact congrArg some (wU I)
  refine gF I rfl (uA ?_);refine gqU ?_;exact congrArg some (wV I)
 refine gc2 (fun z=>?_) fun z=>?_
 ·
  refine go8 ?_;refine xY rfl rfl rfl ?_;obtain⟨U,O⟩:=yB9 z;rw[U,yJ O]
 refine zAK (fun D=>?_) fun D=>?_
 ·
  refine go8 ?_;refine xY rfl rfl rfl ?_;obtain⟨U,O⟩:=yB8 z D;rw[U,xE O]
 obtain⟨J,aa,G⟩:=zU3 z D;have Z:=zQI z;refine go6 ?_;refine gv (zO (q:=0) (0) underlying27 sizeOf124 rfl rfl hna rfl oM) rfl (go1 ?_);rw[J];refine gv (zCP (k:=.u32) underlying124 underlying2 rfl oM) rfl (zBF (fun C=>?_) fun C=>?_)
 ·
  have H:=C;refine go3 ?_;refine gv (lK rfl oM oM) rfl (go8 ?_);refine xY rfl rfl rfl ?_;exact zEP oM (Iff.trans oM G.symm)
 have H:=C;refine uQ ?_;refine xY rfl rfl rfl ?_;exact zEP oM (Iff.trans oM G.symm)
theorem gY{w0:World}{h0:Mem}(hs:MLe h0 (mem w0)){k:Nat}{va:Value}{a:Rat}(ra:(rpQ k).Is h0 va a):Calls Tryz.prog 146 #[va] w0 (Ret w0 h0 (fun _ r=>r=.tuple #[vI (smZ a),vB (smB a)])):=by
 obtain⟨D,G,rfl,z,C,H⟩:=uX ra;exact zRI hs z C
theorem zE7{w0:World}{h0:Mem}(hs:MLe h0 (mem w0)){n:Int}(hn1:-9223372036854775808≤n)(hn2:n<9223372036854775808):
 Calls Tryz.prog 148 #[vI n] w0 (Ret w0 h0 (fun _ r=>r=vI (zD5 n))):=by
 refine cb1 9 (vI n) func148 hs ?_;refine tG ?_;refine cnd (fun z=>?_) fun z=>?_
 ·
  refine go8 ?_;refine zC rfl rfl ?_;unfold zD5;rw[if_pos z]
 refine gc7 (fun C=>?_) fun C=>?_
 ·
  refine go8 ?_;refine zC rfl rfl ?_;unfold zD5;rw[if_neg z,if_pos C]
 refine go9 ?_;refine zC rfl rfl ?_;unfold zD5;rw[if_neg z,if_neg C]
theorem zAA{w0:World}{h0:Mem}(hs:MLe h0 (mem w0)){k:Nat}{vp:Value}{p:Tq}(rp:(tPt k).Is h0 vp p){i:Nat}{j:Nat}(hcd0:i<3)(hcd1:j<3):
 Calls Tryz.prog 213 #[vp,vI ↑i,vI ↑j] w0 (Ret w0 h0 (fun h r=>r=.tuple #[vI (smZ (p.at i)),vI (smZ (p.at j)),vB (smB (p.at i)∧smB (p.at j))])):=by
 refine cb3 33 vp (vI ↑i) (vI ↑j) func213 hs ?_;refine go2 ?_;refine nB rp fun D ac z=>(go8 ?_);refine gv ((zV (sz:=3) i underlying31 sizeOf29 rfl rfl rfl oM).cv (show _=vP D ((i*3+0)) from congrArg (vP D) oM)) rfl (lX (xB yB (Pc.ta pH i oM) z) fun Z J=>(cL (ev1 rfl) call146 (fun w hs=>gY hs J) fun U h1 ab I=>?_));obtain rfl:=I;refine uA ?_;refine gv ((zV (sz:=3) j underlying31 sizeOf29 rfl rfl rfl oM).cv (show _=vP D ((j*3+0)) from congrArg (vP D) oM)) rfl (lX (xB yB (Pc.ta pH j oM) z) fun O H=>(cL (ev1 rfl) call146 (fun w hs=>gY hs H) fun M h2 aa G=>?_));obtain rfl:=G;refine uQ ?_;refine gU 3 32 (vB ((smB (p.at i))∧(smB (p.at j)))) ?_ ?_
 ·
  refine zS (smB (p.at i)) (fun C=>?_) (fun C=>?_)
  ·
   refine gT C rfl (go4 ?_);refine gqU ?_;exact congrArg some (yU C)
  refine gF C rfl (go3 ?_);refine gqU ?_;exact congrArg some (yV C)
 refine go6 ?_;refine uY rfl rfl rfl rfl ?_
 rfl
theorem zA4{w0:World}{h0:Mem}(hs:MLe h0 (mem w0)){k:Nat}{va:Value}{a:Tq}(ra:(tPt k).Is h0 va a){vb:Value}{b:Tq}(rb:(tPt k).Is h0 vb b){vc:Value}{c:Tq}(rc:(tPt k).Is h0 vc c){i:Nat}{j:Nat}(hcd0:i<3)(hcd1:j<3)(hcd2:k≤1000000000):
 Calls Tryz.prog 206 #[va,vb,vc,vI ↑i,vI ↑j] w0 (Ret w0 h0 (fun _ r=>r=vI (orZ (pr a i j) (pr b i j) (pr c i j)))):=by
 refine qM (n:=100) (e:=[(0,va),(1,vb),(2,vc),(3,vI ↑i),(4,vI ↑j)]) (vs:=[va,vb,vc,vI ↑i,vI ↑j]) func206 rfl rfl (bL rfl) hs e5 (go2 ?_);refine nB ra fun I dd z=>(nB rb fun b6 dc M=>(nB rc fun b7 db J=>(go5 ?_)));refine lX (xB zN pH z) fun ch bh=>(go2 ?_);refine cL (ev3 rfl rfl rfl) call213 (fun w hs=>zAA (i:=i) (j:=j) hs bh oM oM) fun cg h1 cz bg=>?_;obtain rfl:=bg;refine qA ?_;refine lX (xB zN pH M) fun cf bf=>(go2 ?_);refine cL (ev3 rfl rfl rfl) call213 (fun w hs=>zAA (i:=i) (j:=j) hs bf oM oM) fun ce h2 cy be=>?_;obtain rfl:=be;refine qA ?_;refine lX (xB zN pH J) fun cd bd=>(go2 ?_);refine cL (ev3 rfl rfl rfl) call213 (fun w hs=>zAA (i:=i) (j:=j) hs bd oM oM) fun cc h3 cw bc=>?_;obtain rfl:=bc;refine rM ?_;refine gU 3 48 (vB ((smB (a.at i)∧smB (a.at j))∧(smB (b.at i)∧smB (b.at j)))) ?_ ?_
 ·
  refine zS (smB (a.at i)∧smB (a.at j)) (fun C=>?_) (fun C=>?_)
  ·
   refine gT C rfl (go4 ?_);refine gqU ?_;exact congrArg some (yU C)
  refine gF C rfl (go3 ?_);refine gqU ?_;exact congrArg some (yV C)
 refine gU 3 51 (vB (((smB (a.at i)∧smB (a.at j))∧(smB (b.at i)∧smB (b.at j)))∧(smB (c.at i)∧smB (c.at j)))) ?_ ?_
 ·
  refine zS ((smB (a.at i)∧smB (a.at j))∧(smB (b.at i)∧smB (b.at j))) (fun C=>?_) (fun C=>?_)
  ·
   refine gT C rfl (go4 ?_);refine gqU ?_;exact congrArg some (yU C)
  refine gF C rfl (go3 ?_);refine gqU ?_;exact congrArg some (yV C)
 refine gc2 (fun D=>?_) fun D=>?_
 ·
  obtain⟨⟨⟨am,ak⟩,aj,ai⟩,H,G⟩:=D;have cn:=(tR am).2;have cm:=(tR ak).2;have cl:=(tR aj).2;have ck:=(tR ai).2;have cj:=(tR H).2;have ci:=(tR G).2;have kp:=zRD (u:=smZ (b.at i)-smZ (a.at i)) (v:=smZ (c.at j)-smZ (a.at j)) oM oM oM oM;have kq:=zRD (u:=smZ (b.at j)-smZ (a.at j)) (v:=smZ (c.at i)-smZ (a.at i)) oM oM oM oM;refine go8 ?_;refine gv (kO rfl rfl oM oM) rfl (go6 ?_);refine gv (kO rfl rfl oM oM) rfl (go1 ?_);refine cL (ev1 rfl) call148 (fun w hs=>zE7 hs oM oM) fun ao h4 bi bb=>?_;obtain rfl:ao=vI (zD5 ((((smZ (b.at i))-(smZ (a.at i)))*((smZ (c.at j))-(smZ (a.at j))))-(((smZ (b.at j))-(smZ (a.at j)))*((smZ (c.at i))-(smZ (a.at i)))))):=bb;refine go5 ?_;refine zC rfl rfl ?_;exact congrArg vI (zRU (a:=pr a i j) (b:=pr b i j) (c:=pr c i j) ⟨am,ak⟩ ⟨aj,ai⟩ ⟨H,G⟩)
 refine go3 ?_;refine zL 16 _ [(15,(20,29,[.bool false,.slice none 0 0,.slice none 0 0]))] [(0,.q),(1,.q),(2,.q),(3,.q),(4,.q),(5,.q),(7,.q),(8,.q),(9,.q),(10,.q),(11,.q),(12,.q),(6,.c),(13,.c),(14,.c),(15,.a),(16,.t)] yA (kW.cons rfl rfl (jK xS rfl rfl) kW.nil) (wI (by kernel_rfl)) (jM rfl rfl sQ) (fun r hr=>hr) (go1 ?_);refine xN rfl (fun _ _=>(zV (sz:=3) i underlying31 sizeOf29 rfl rfl rfl oM).cv (show _=vP b6 ((i*3+0)) from congrArg (vP b6) oM)) rfl (wX rfl (xB yB (Pc.ta pH i oM) M) fun cb ba=>(go1 ?_));refine xN rfl (fun _ _=>(zV (sz:=3) i underlying31 sizeOf29 rfl rfl rfl oM).cv (show _=vP I ((i*3+0)) from congrArg (vP I) oM)) rfl (wX rfl (xB yB (Pc.ta pH i oM) z) fun ca az=>(go1 ?_));refine xN rfl (fun _ _=>(zV (sz:=3) j underlying31 sizeOf29 rfl rfl rfl oM).cv (show _=vP b7 ((j*3+0)) from congrArg (vP b7) oM)) rfl (wX rfl (xB yB (Pc.ta pH j oM) J) fun bx ay=>(go1 ?_));refine xN rfl (fun _ _=>(zV (sz:=3) j underlying31 sizeOf29 rfl rfl rfl oM).cv (show _=vP I ((j*3+0)) from congrArg (vP I) oM)) rfl (wX rfl (xB yB (Pc.ta pH j oM) z) fun bw ax=>?_);refine w_c rfl (sC (ev2 rfl rfl) call121 (fun w hs=>gH hs ba az oM) fun bz h4 bi ac=>?_);replace ac:=Rp.Is.le ac (Le.q (l:=2*k+1) oM);refine w_c rfl (sC (ev2 rfl rfl) call121 (fun w hs=>gH hs ay.up ax.up oM) fun bv h5 cu ab=>?_);replace ab:=Rp.Is.le ab (Le.q (l:=2*k+1) oM);refine w_c rfl (sC (ev2 rfl rfl) call153 (fun w hs=>jH hs ac.up ab oM) fun bu h6 ct aa=>?_);replace aa:=Rp.Is.le aa (Le.q (l:=4*k+2) oM);refine w_a rfl rfl (fun de=>?_);have ah:(rpQ 1).R h6 [.bool false,.slice none 0 0,.slice none 0 0] (0:Rat):=(yN dC);have ad:=(Le.q (l:=4*k+2) oM).R ah;refine yO (A:=[]) rfl (uB sizeOf29 pH ad aa) fun bl ae=>(go3 ?_);refine zL 18 _ [] [(0,.q),(1,.q),(2,.q),(3,.q),(4,.q),(5,.q),(6,.q),(8,.q),(9,.q),(10,.q),(11,.q),(12,.q),(13,.q),(7,.c),(14,.c),(15,.c),(16,.c),(17,.q)] yA nX (wI (by kernel_rfl)) nX (fun r hr=>hr) (wX rfl (xB yB pH ae) fun bt aw=>(go1 ?_));refine xN rfl (fun _ _=>(zV (sz:=3) j underlying31 sizeOf29 rfl rfl rfl oM).cv (show _=vP b6 ((j*3+0)) from congrArg (vP b6) oM)) rfl (wX rfl (xB yB (Pc.ta pH j oM) M) fun bs av=>(go1 ?_));refine xN rfl (fun _ _=>(zV (sz:=3) j underlying31 sizeOf29 rfl rfl rfl oM).cv (show _=vP I ((j*3+0)) from congrArg (vP I) oM)) rfl (wX rfl (xB yB (Pc.ta pH j oM) z) fun br au=>(go1 ?_));refine xN rfl (fun _ _=>(zV (sz:=3) i underlying31 sizeOf29 rfl rfl rfl oM).cv (show _=vP b7 ((i*3+0)) from congrArg (vP b7) oM)) rfl (wX rfl (xB yB (Pc.ta pH i oM) J) fun bp ar=>(go1 ?_));refine xN rfl (fun _ _=>(zV (sz:=3) i underlying31 sizeOf29 rfl rfl rfl oM).cv (show _=vP I ((i*3+0)) from congrArg (vP I) oM)) rfl (wX rfl (xB yB (Pc.ta pH i oM) z) fun bo aq=>?_);refine w_c rfl (sC (ev2 rfl rfl) call121 (fun w hs=>gH hs av au oM) fun bq h7 cq Z=>?_);replace Z:=Rp.Is.le Z (Le.q (l:=2*k+1) oM);refine w_c rfl (sC (ev2 rfl rfl) call121 (fun w hs=>gH hs ar.up aq.up oM) fun bn h8 cp U=>?_);replace U:=Rp.Is.le U (Le.q (l:=2*k+1) oM);refine w_c rfl (sC (ev2 rfl rfl) call153 (fun w hs=>jH hs Z.up U oM) fun bm h9 co O=>?_);replace O:=Rp.Is.le O (Le.q (l:=4*k+2) oM);refine w_c rfl (sC (ev2 rfl rfl) call182 (fun w hs=>cZ hs aw.up O oM) fun an da bk ap=>?_);obtain rfl:an=vI (yP (((b.at i)-(a.at i))*((c.at j)-(a.at j))) (((b.at j)-(a.at j))*((c.at i)-(a.at i)))):=ap;have bj:=uN (((b.at i)-(a.at i))*((c.at j)-(a.at j))) (((b.at j)-(a.at j))*((c.at i)-(a.at i)));refine go4 ?_;refine zC rfl rfl ?_;exact congrArg vI (zZT (pr a i j) (pr b i j) (pr c i j))
theorem y2{w0:World}{h0:Mem}(hs:MLe h0 (mem w0)){k:Nat}{va:Value}{a:Rat}(ra:(rpQ k).Is h0 va a){vb:Value}{b:Rat}(rb:(rpQ k).Is h0 vb b){vx:Value}{x:Rat}(rx:(rpQ k).Is h0 vx x)(hcd0:k≤1000000000):
 Calls Tryz.prog 212 #[va,vb,vx] w0 (Ret w0 h0 (fun _ r=>r=vB (qK a b x))):=by
 refine cb3 29 va vb vx func212 hs ?_;refine go2 ?_;refine nB ra fun b3 am I=>(nB rb fun b4 ak H=>(nB rx fun b5 aj C=>(go4 ?_)));refine zL 8 _ [] [(0,.q),(1,.q),(3,.q),(4,.q),(2,.c),(5,.c),(6,.q),(7,.q)] yA nX (by kernel_rfl) nX (fun r hr=>hr) (wX rfl (xB yB pH I) fun v9 r9=>(wX rfl (xB yB pH C) fun ae Z=>(wX rfl (xB yB pH C) fun ad O=>(wX rfl (xB yB pH H) fun ac M=>?_))));refine w_c rfl (sC (ev2 rfl rfl) call182 (fun w hs=>cZ hs r9 Z oM) fun G h1 ai U=>?_);obtain rfl:G=vI (yP a x):=U;have ab:=uN a x;refine w_c rfl (sC (ev2 rfl rfl) call182 (fun w hs=>cZ hs O.up M.up oM) fun D h2 ah J=>?_);obtain rfl:D=vI (yP x b):=J;have aa:=uN x b;refine go8 ?_;refine gU 4 20 (vB (((yP a x)≤(0:Int))∧((yP x b)≤(0:Int)))) ?_ ?_
 ·
  refine zS ((yP a x)≤(0:Int)) (fun z=>?_) (fun z=>?_)
  ·
   refine gT z rfl (go6 ?_);refine gqU ?_;exact congrArg some (yU z)
  refine gF z rfl (go4 ?_);refine gqU ?_;exact congrArg some (yV z)
 refine gU 8 28 (vB ((((yP a x)≤(0:Int))∧((yP x b)≤(0:Int)))∨(((0:Int)≤(yP a x))∧((0:Int)≤(yP x b))))) ?_ ?_
 ·
  refine zS (((yP a x)≤(0:Int))∧((yP x b)≤(0:Int))) (fun z=>?_) (fun z=>?_)
  ·
   refine gT z rfl (go8 ?_);refine gqU ?_;exact congrArg some (wU z)
  refine gF z rfl (go4 ?_);refine gU 4 27 (vB (((0:Int)≤(yP a x))∧((0:Int)≤(yP x b)))) ?_ ?_
  ·
   refine zS ((0:Int)≤(yP a x)) (fun z=>?_) (fun z=>?_)
   ·
    refine go1 ?_;refine gT z rfl (go7 ?_);refine gqU ?_;exact congrArg some (yU z)
   refine go1 ?_;refine gF z rfl (go5 ?_);refine gqU ?_;exact congrArg some (yV z)
  refine go2 ?_;refine gqU ?_;exact congrArg some (wV z)
 refine go4 ?_;refine zC rfl rfl ?_;exact jI zT6
theorem zV0{w0:World}{h0:Mem}(hs:MLe h0 (mem w0)){k:Nat}{va:Value}{a:Tq}(ra:(tPt k).Is h0 va a){vb:Value}{b:Tq}(rb:(tPt k).Is h0 vb b){vp:Value}{p:Tq}(rp:(tPt k).Is h0 vp p){i:Nat}{j:Nat}(hcd0:i<3)(hcd1:j<3)(hcd2:k≤1000000000):
 Calls Tryz.prog 205 #[va,vb,vp,vI ↑i,vI ↑j] w0 (Ret w0 h0 (fun _ r=>r=vB (onS (pr a i j) (pr b i j) (pr p i j)))):=by
 refine qM (n:=42) (e:=[(0,va),(1,vb),(2,vp),(3,vI ↑i),(4,vI ↑j)]) (vs:=[va,vb,vp,vI ↑i,vI ↑j]) func205 rfl rfl (bL rfl) hs e5 (go2 ?_);refine nB ra fun M bg H=>(nB rb fun J bf G=>(nB rp fun I be D=>(go4 ?_)));refine zL 32 _ [] [(0,.q),(1,.q),(2,.q),(3,.q),(4,.q),(5,.q),(6,.q),(7,.q),(8,.q),(9,.c),(10,.q),(11,.q),(12,.q),(13,.q),(14,.q),(15,.q),(16,.q),(17,.q),(18,.q),(19,.q),(20,.c),(21,.q),(22,.q),(23,.q),(24,.q),(25,.q),(26,.q),(27,.q),(28,.c),(29,.q),(30,.q),(31,.q)] yA nX (wI (by kernel_rfl)) nX (fun r hr=>hr) (go1 ?_);refine xN rfl (fun _ _=>(zV (sz:=3) i underlying31 sizeOf29 rfl rfl rfl oM).cv (show _=vP M ((i*3+0)) from congrArg (vP M) oM)) rfl (wX rfl (xB yB (Pc.ta pH i oM) H) fun ba ao=>(go1 ?_));refine xN rfl (fun _ _=>(zV (sz:=3) i underlying31 sizeOf29 rfl rfl rfl oM).cv (show _=vP J ((i*3+0)) from congrArg (vP J) oM)) rfl (wX rfl (xB yB (Pc.ta pH i oM) G) fun az an=>(go1 ?_));refine xN rfl (fun _ _=>(zV (sz:=3) i underlying31 sizeOf29 rfl rfl rfl oM).cv (show _=vP I ((i*3+0)) from congrArg (vP I) oM)) rfl (wX rfl (xB yB (Pc.ta pH i oM) D) fun ay am=>?_);refine w_c rfl (sC (ev3 rfl rfl rfl) call212 (fun w hs=>y2 hs ao an am oM) fun Z h1 bd ak=>?_);obtain rfl:Z=vB (qK (a.at i) (b.at i) (p.at i)):=ak;refine go1 ?_;refine qW (qK (a.at i) (b.at i) (p.at i)) (fun C=>?_) (fun C=>?_)
 ·
  rw[xE C];refine yM rfl rfl rfl (fun h' L' hh hR=>yQ rfl) rfl (yM rfl rfl rfl (fun h' L' hh hR=>(zV (sz:=3) j underlying31 sizeOf29 rfl rfl rfl oM).cv (show _=vP M ((j*3+0)) from congrArg (vP M) oM)) rfl (oX rfl (xB yB (Pc.ta pH j oM) H) fun ax aj=>(yM rfl rfl rfl (fun h' L' hh hR=>yQ rfl) rfl (yM rfl rfl rfl (fun h' L' hh hR=>(zV (sz:=3) j underlying31 sizeOf29 rfl rfl rfl oM).cv (show _=vP J ((j*3+0)) from congrArg (vP J) oM)) rfl (oX rfl (xB yB (Pc.ta pH j oM) G) fun aw ai=>(yM rfl rfl rfl (fun h' L' hh hR=>yQ rfl) rfl (yM rfl rfl rfl (fun h' L' hh hR=>(zV (sz:=3) j underlying31 sizeOf29 rfl rfl rfl oM).cv (show _=vP I ((j*3+0)) from congrArg (vP I) oM)) rfl (oX rfl (xB yB (Pc.ta pH j oM) D) fun av ah=>?_))))))));refine w_c rfl (t7 rfl rfl (sC (ev3 rfl rfl rfl) call212 (fun w hs=>y2 hs aj ai ah oM) fun U h2 bc ae=>?_));obtain rfl:U=vB (qK (a.at j) (b.at j) (p.at j)):=ae;refine go2 ?_;refine qW (qK (a.at j) (b.at j) (p.at j)) (fun z=>?_) (fun z=>?_)
  ·
   rw[xE z];refine oX rfl (xB zN pH H) fun au ad=>(oX rfl (xB zN pH G) fun ar ac=>(oX rfl (xB zN pH D) fun aq ab=>(yM rfl rfl rfl (fun h' L' hh hR=>yQ rfl) rfl (yM rfl rfl rfl (fun h' L' hh hR=>yQ rfl) rfl ?_))));refine w_c rfl (t7 rfl rfl (sC (vs:=[_,_,_,_,_]) e5 call206 (fun w hs=>zA4 (i:=i) (j:=j) hs ad ac ab oM oM oM) fun O h3 bb aa=>?_));obtain rfl:O=vI (orZ (pr a i j) (pr b i j) (pr p i j)):=aa;have ap:=fL (pr a i j) (pr b i j) (pr p i j);refine go6 ?_;refine zC rfl rfl ?_
   first|exact jI (by unfold onS;simp only[pr,←gG] at *;grind)|exact(xE (by unfold onS;simp only[pr,←gG] at *;grind)).symm|exact(yJ (by unfold onS;simp only[pr,←gG] at *;grind)).symm
  rw[yJ z];refine go5 ?_;refine w_c rfl (lE rfl rfl rfl rfl (go6 ?_));refine zC rfl rfl ?_
  first|exact jI (by unfold onS;simp only[pr,←gG] at *;grind)|exact(xE (by unfold onS;simp only[pr,←gG] at *;grind)).symm|exact(yJ (by unfold onS;simp only[pr,←gG] at *;grind)).symm
 rw[yJ C];refine go9 ?_;refine w_c rfl (lE rfl rfl rfl rfl (go7 ?_));refine w_c rfl (lE rfl rfl rfl rfl (go6 ?_));refine zC rfl rfl ?_
 first|exact jI (by unfold onS;simp only[pr,←gG] at *;grind)|exact(xE (by unfold onS;simp only[pr,←gG] at *;grind)).symm|exact(yJ (by unfold onS;simp only[pr,←gG] at *;grind)).symm
theorem zIM{w0:World}{h0:Mem}(hs:MLe h0 (mem w0)){k:Nat}{vl:Value}{l:(List Tq)}(rl:(tLs k).Is h0 vl l){vp:Value}{p:Tq}(rp:(tPt k).Is h0 vp p){i:Nat}{j:Nat}(hcd0:i<3)(hcd1:j<3)(hcd2:k≤100000)(hcd3:l.length≤1000):
 Calls Tryz.prog 183 #[vl,vp,vI ↑i,vI ↑j] w0 (Ret w0 h0 (fun _ r=>r=vI (fS l (pr p i j) i j))):=by
 refine qM (n:=78) (e:=[(0,vl),(1,vp),(2,vI ↑i),(3,vI ↑j)]) (vs:=[vl,vp,vI ↑i,vI ↑j]) func183 rfl rfl (bL rfl) hs e4z (go2 ?_);refine nB rp fun b5 bn U=>(mW ?_);refine gcL (ι:=Nat×Mem) (fun(m,ma)=>(MLe h0 ma∧(m≤l.length∧∀q,q<m→¬onS (vT l i j q) (vO l i j q) (pr p i j)),[(0,vl),(2,vI ↑i),(3,vI ↑j),(5,vP b5 0),(9,vB (jR l (pr p i j) i j m)),(16,vl),(17,vI (↑(l).length:Int)),(18,vI ↑m)],[.var b5 31 bn],ma,l.length-m)) (0,h0) ?_ ?_ (he:=⟨rfl,rfl,rfl,rfl,congrArg some (yJ id).symm,rfl,rfl,rfl,trivial⟩)
 · exact⟨mle,by omega,fun q hq=>by omega⟩
 rintro⟨m,ma⟩ ⟨bo,ae,J⟩
 refine yW ?_;refine gc6 (fun ah=>?_) fun ah=>?_
 ·
  refine go7 ?_;refine lX (xI zT m underlying35 zN rl) fun cg bi=>(lX (xA zN bi) fun cf bh=>(nA (ρ:=(tPt 1)) (X:=zT) yX (wB (yN dC)) fun aj br ad=>(go1 ?_)));have ab:=(Le.t (Le.q (l:=k+1) oM)).R ad;refine yE (A:=[]) (uB sizeOf31 pH ab (bh.le (Le.t (Le.q (l:=k+1) oM)))) fun bp I=>(go9 ?_);refine gv (wJ rfl rfl oM oM) rfl (lX (xI zT ((m+1)%l.length) underlying35 zN rl (hi:=by exact Nat.mod_lt _ oM)) fun ce bg=>(lX (xA zN bg) fun cd bf=>(nA (ρ:=(tPt 1)) (X:=zT) yX (wB (yN dC)) fun ai bq ac=>?_)));have aa:=(Le.t (Le.q (l:=k+1) oM)).R ac;refine yE (A:=[]) (uB sizeOf31 pH aa (bf.le (Le.t (Le.q (l:=k+1) oM)))) fun bm H=>(go5 ?_);refine lX (xB zN pH I) fun cc be=>(lX (xB zN pH H) fun cb bd=>(lX (xB zN pH U) fun ca bc=>(go2 ?_)));refine cL (vs:=[_,_,_,_,_]) e5 call205 (fun w hs=>zV0 (i:=i) (j:=j) hs be bd (bc.le (Le.t (Le.q (l:=k+1) oM))) oM oM oM) fun ao h1 ck bb=>?_;obtain rfl:ao=vB (onS (pr (l.getD m zT) i j) (pr (l.getD ((m+1)%l.length) zT) i j) (pr p i j)):=bb;refine gc2 (fun G=>?_) fun G=>?_
  ·
   refine uQ ?_;refine zC rfl rfl ?_;exact congrArg vI (zSY oM G)
  refine go3 ?_;refine zL 18 _ [] [(0,.q),(1,.q),(2,.q),(3,.q),(4,.q),(5,.q),(8,.q),(9,.q),(10,.q),(11,.q),(12,.q),(13,.q),(6,.c),(7,.q),(14,.c),(15,.q),(16,.q),(17,.q)] yA nX (wI (by kernel_rfl)) nX (fun r hr=>hr) (go1 ?_);refine xN rfl (fun _ _=>(zV (sz:=3) j underlying31 sizeOf29 rfl rfl rfl oM).cv (show _=vP aj ((j*3+0)) from congrArg (vP aj) oM)) rfl (wX rfl (xB yB (Pc.ta pH j oM) I) fun bz ba=>(go1 ?_));refine xN rfl (fun _ _=>(zV (sz:=3) j underlying31 sizeOf29 rfl rfl rfl oM).cv (show _=vP b5 ((j*3+0)) from congrArg (vP b5) oM)) rfl (wX rfl (xB yB (Pc.ta pH j oM) U) fun bx az=>(go1 ?_));refine xN rfl (fun _ _=>(zV (sz:=3) j underlying31 sizeOf29 rfl rfl rfl oM).cv (show _=vP ai ((j*3+0)) from congrArg (vP ai) oM)) rfl (wX rfl (xB yB (Pc.ta pH j oM) H) fun bw ax=>(go1 ?_));refine xN rfl (fun _ _=>(zV (sz:=3) j underlying31 sizeOf29 rfl rfl rfl oM).cv (show _=vP b5 ((j*3+0)) from congrArg (vP b5) oM)) rfl (wX rfl (xB yB (Pc.ta pH j oM) U) fun bv aw=>?_);refine w_c rfl (sC (ev2 rfl rfl) call182 (fun w hs=>cZ hs ba az oM) fun an h2 cj ay=>?_);obtain rfl:an=vI (yP ((l.getD m zT).at j) (p.at j)):=ay;have bl:=uN ((l.getD m zT).at j) (p.at j);refine go1 ?_;refine w_c rfl (sC (ev2 rfl rfl) call182 (fun w hs=>cZ hs ax.up aw.up oM) fun am h3 ci av=>?_);obtain rfl:am=vI (yP ((l.getD ((m+1)%l.length) zT).at j) (p.at j)):=av;have bk:=uN ((l.getD ((m+1)%l.length) zT).at j) (p.at j);refine uA ?_;refine gv (bQ underlying4 rfl rfl) rfl (gc2 (fun O=>?_) fun O=>?_)
  ·
   have Z:(vT l i j m).2≤(pr p i j).2↔(vO l i j m).2≤(pr p i j).2:=by have h:=O;rw[qX,qX] at h;exact h
   refine go8 ?_;refine xM (A:=[]) (xM (A:=[]) ?_);refine gqL ((m+1),h3) ?_ ?_ (he:=⟨rfl,rfl,rfl,rfl,congrArg (fun z=>some (vB z)) (zR1 Z),rfl,rfl,rfl,trivial⟩)
   · exact⟨mle,by omega,z8 J G⟩
   omega
  have Z:¬((vT l i j m).2≤(pr p i j).2↔(vO l i j m).2≤(pr p i j).2):=by have h:=O;rw[qX,qX] at h;exact h
  refine go4 ?_;refine lX (xB zN pH I) fun bu au=>(lX (xB zN pH H) fun bt ar=>(lX (xB zN pH U) fun bs aq=>(go2 ?_)));refine cL (vs:=[_,_,_,_,_]) e5 call206 (fun w hs=>zA4 (i:=i) (j:=j) hs au ar (aq.le (Le.t (Le.q (l:=k+1) oM))) oM oM oM) fun ak h4 ch ap=>?_;obtain rfl:ak=vI (orZ (pr (l.getD m zT) i j) (pr (l.getD ((m+1)%l.length) zT) i j) (pr p i j)):=ap;have bj:=fL (pr (l.getD m zT) i j) (pr (l.getD ((m+1)%l.length) zT) i j) (pr p i j);refine go6 ?_;refine gU 4 66 (vB (((yP ((l.getD m zT).at j) (p.at j))≤(0:Int))∧((0:Int)<(orZ (pr (l.getD m zT) i j) (pr (l.getD ((m+1)%l.length) zT) i j) (pr p i j))))) ?_ ?_
  ·
   refine zS ((yP ((l.getD m zT).at j) (p.at j))≤(0:Int)) (fun C=>?_) (fun C=>?_)
   ·
    refine gT C rfl (go6 ?_);refine gqU ?_;exact congrArg some (yU C)
   refine gF C rfl (go4 ?_);refine gqU ?_;exact congrArg some (yV C)
  refine gU 7 73 (vB ((((yP ((l.getD m zT).at j) (p.at j))≤(0:Int))∧((0:Int)<(orZ (pr (l.getD m zT) i j) (pr (l.getD ((m+1)%l.length) zT) i j) (pr p i j))))∨(((yP ((l.getD ((m+1)%l.length) zT).at j) (p.at j))≤(0:Int))∧((orZ (pr (l.getD m zT) i j) (pr (l.getD ((m+1)%l.length) zT) i j) (pr p i j))<(0:Int))))) ?_ ?_
  ·
   refine zS (((yP ((l.getD m zT).at j) (p.at j))≤(0:Int))∧((0:Int)<(orZ (pr (l.getD m zT) i j) (pr (l.getD ((m+1)%l.length) zT) i j) (pr p i j)))) (fun C=>?_) (fun C=>?_)
   ·
    refine gT C rfl (go7 ?_);refine gqU ?_;exact congrArg some (wU C)
   refine gF C rfl (go2 ?_);refine gU 4 72 (vB (((yP ((l.getD ((m+1)%l.length) zT).at j) (p.at j))≤(0:Int))∧((orZ (pr (l.getD m zT) i j) (pr (l.getD ((m+1)%l.length) zT) i j) (pr p i j))<(0:Int)))) ?_ ?_
   ·
    refine zS ((yP ((l.getD ((m+1)%l.length) zT).at j) (p.at j))≤(0:Int)) (fun C=>?_) (fun C=>?_)
    ·
     refine go1 ?_;refine gT C rfl (go7 ?_);refine gqU ?_;exact congrArg some (yU C)
    refine go1 ?_;refine gF C rfl (go5 ?_);refine gqU ?_;exact congrArg some (yV C)
   refine go2 ?_;refine gqU ?_;exact congrArg some (wV C)
  refine gc2 (fun D=>?_) fun D=>?_
  ·
   rw[qX,qX] at D;refine qA ?_;refine xM (A:=[]) (xM (A:=[]) ?_);refine gqL ((m+1),h4) ?_ ?_ (he:=⟨rfl,rfl,rfl,rfl,congrArg (fun z=>some (vB z)) (zR2 Z D),rfl,rfl,rfl,trivial⟩)
   · exact⟨mle,by omega,z8 J G⟩
   omega
  rw[qX,qX] at D;refine go7 ?_;refine xM (A:=[]) (xM (A:=[]) ?_);refine gqL ((m+1),h4) ?_ ?_ (he:=⟨rfl,rfl,rfl,rfl,congrArg (fun z=>some (vB z)) (zR0 D),rfl,rfl,rfl,trivial⟩)
  · exact⟨mle,by omega,z8 J G⟩
  omega
 refine zAK (fun M=>?_) fun M=>?_
 ·
  refine go7 ?_;refine zC rfl rfl ?_;exact congrArg vI (zSZ oM ae J M)
 refine go8 ?_;refine zC rfl rfl ?_;exact congrArg vI (zM2 oM ae J M)
end Go.Proofs.YtpkaegemlpaenaaGreat
namespace Bk
open Go Go.RowKit
theorem Is.up{h h':Mem}{v:Value}{xs:List Int}(r:Is h v xs)(hm:MLe h h':=by exact mle):Is h' v xs:=r.mono hm
end Bk
namespace Go.Proofs.YtpkaegemlpaenaaGreat
open Bk Go Tryz
set_option linter.unusedVariables false
set_option linter.unusedSimpArgs false
set_option maxRecDepth 10000
set_option maxHeartbeats 1000000
attribute [local irreducible] GL GC GQ W OpV
theorem zR5{w0:World}{h0:Mem}(hs:MLe h0 (mem w0)){k l:Nat}{va:Value}{a:Tq}(ra:(tPt k).Is h0 va a){vb:Value}{b:Tq}(rb:(tPt l).Is h0 vb b)(hcd0:k+l≤1000000000):
 Calls Tryz.prog 14 #[va,vb] w0 (Ret w0 h0 (fun h r=>(tPt (k+3*l+3)).Is h r (T3.mk (a.x+b.x) (a.y+b.y) (a.z+b.z)))):=by
 refine cb2 20 va vb func14 hs ?_;refine go2 ?_;refine nB ra fun b2 bl aq=>(nB rb fun b3 bk ab=>(nA (ρ:=(tPt (k+3*l+3))) (X:=zT) yX (wB (yN oM)) fun b4 bj ba=>(go9 ?_)));refine fP (go4 ?_);refine gv (OpV.tr dC (yG (q:=3) rfl rfl)) rfl (go7 ?_);refine zL 9 _ [] [(0,.q),(1,.q),(2,.q),(3,.q),(4,.q),(5,.q),(6,.q),(7,.c),(8,.q),(9,.t)] yA nX (by kernel_rfl) nX (fun r hr=>hr) (go3 ?_);refine wX rfl (xB yB (Pc.tx pH) aq) fun az ak=>(go2 ?_);refine wX rfl (xB yB (Pc.tx pH) ab) fun aw ah=>?_;refine w_c rfl (sC (ev2 rfl rfl) call45 (fun w hs=>sY hs ak ah oM) fun U h1 bi G=>?_)
 change (rpQ (k+l+1)).Is h1 U (a.x+b.x) at G
 refine go1 ?_;have ao:=(Le.t (Le.q (l:=k+l+1) oM)).R aq;refine yO (A:=[_,_]) rfl (uB sizeOf29 (Pc.tx pH) ao G) fun bf J=>(go5 ?_);refine gv ((zP (q:=1) rfl rfl oM oM).cv (show _=vI (1) from rfl)) rfl (go2 ?_);refine xU (go4 ?_);refine gv (OpV.tr dC (yG (q:=3) rfl rfl)) rfl (go7 ?_);refine zL 9 _ [] [(0,.q),(1,.q),(2,.q),(3,.q),(4,.q),(5,.q),(6,.q),(7,.c),(8,.q),(9,.t)] yA nX (by kernel_rfl) nX (fun r hr=>hr) (go3 ?_);refine wX rfl (xB yB (Pc.ty pH) J) fun ay aj=>(go2 ?_);refine wX rfl (xB yB (Pc.ty pH) ab) fun av ae=>?_;refine w_c rfl (sC (ev2 rfl rfl) call45 (fun w hs=>sY hs aj ae oM) fun O h2 bh D=>?_)
 change (rpQ ((k+l+1)+l+1)).Is h2 O (a.y+b.y) at D
 replace D:=Rp.Is.le D (Le.q (l:=k+2*l+2) oM);refine go1 ?_;have an:=(Le.t (Le.q (l:=k+2*l+2) oM)).R J;refine yO (A:=[_,_]) rfl (uB sizeOf29 (Pc.ty pH) an D) fun be I=>(go5 ?_);refine gv ((zP (q:=1) rfl rfl oM oM).cv (show _=vI (2) from rfl)) rfl (go2 ?_);refine xU (go4 ?_);refine gv (OpV.tr dC (yG (q:=3) rfl rfl)) rfl (go7 ?_);refine zL 9 _ [] [(0,.q),(1,.q),(2,.q),(3,.q),(4,.q),(5,.q),(6,.q),(7,.c),(8,.q),(9,.t)] yA nX (by kernel_rfl) nX (fun r hr=>hr) (go3 ?_);refine wX rfl (xB yB (Pc.tz pH) I) fun ax ai=>(go2 ?_);refine wX rfl (xB yB (Pc.tz pH) ab) fun au ad=>?_;refine w_c rfl (sC (ev2 rfl rfl) call45 (fun w hs=>sY hs ai ad oM) fun M h3 bg C=>?_)
 change (rpQ ((k+2*l+2)+l+1)).Is h3 M (a.z+b.z) at C
 replace C:=Rp.Is.le C (Le.q (l:=k+3*l+3) oM);refine go1 ?_;have am:=(Le.t (Le.q (l:=k+3*l+3) oM)).R I;refine yO (A:=[_,_]) rfl (uB sizeOf29 (Pc.tz pH) am C) fun bd ap=>(go5 ?_);refine gv ((zP (q:=1) rfl rfl oM oM).cv (show _=vI (3) from rfl)) rfl (go2 ?_);refine xU (go4 ?_);refine gv (OpV.fa dC (yG (q:=3) rfl rfl)) rfl (uA ?_);refine lX (xB zN pH ap) fun ar ac=>(yE (A:=[]) (uB sizeOf31 pH ba ac) fun bb aa=>(go3 ?_));refine uR (tU (t:=4) zN mh0 rfl aa) ?_;intro bc H Z;refine yS (fun E S=>yD rfl H E S) ?_;exact Z
theorem zR4{w0:World}{h0:Mem}(hs:MLe h0 (mem w0)){k l:Nat}{va:Value}{a:Tq}(ra:(tPt k).Is h0 va a){vb:Value}{b:Tq}(rb:(tPt l).Is h0 vb b)(hcd0:k+l≤1000000000):
 Calls Tryz.prog 22 #[va,vb] w0 (Ret w0 h0 (fun h r=>(tPt (k+3*l+3)).Is h r (T3.mk (a.x-b.x) (a.y-b.y) (a.z-b.z)))):=by
 refine cb2 20 va vb func22 hs ?_;refine go2 ?_;refine nB ra fun b2 bl aq=>(nB rb fun b3 bk ah=>(nA (ρ:=(tPt (k+3*l+3))) (X:=zT) yX (wB (yN oM)) fun b4 bj ba=>(go9 ?_)));refine fP (go4 ?_);refine gv (OpV.tr dC (yG (q:=3) rfl rfl)) rfl (go7 ?_);refine zL 9 _ [] [(0,.q),(1,.q),(2,.q),(3,.q),(4,.q),(5,.q),(6,.q),(7,.c),(8,.q),(9,.t)] yA nX (by kernel_rfl) nX (fun r hr=>hr) (go3 ?_);refine wX rfl (xB yB (Pc.tx pH) aq) fun az ap=>(go2 ?_);refine wX rfl (xB yB (Pc.tx pH) ah) fun aw am=>?_;refine w_c rfl (sC (ev2 rfl rfl) call55 (fun w hs=>bT hs ap am oM) fun U h1 bi I=>?_)
 change (rpQ (k+l+1)).Is h1 U (a.x-b.x) at I
 refine go1 ?_;have ab:=(Le.t (Le.q (l:=k+l+1) oM)).R aq;refine yO (A:=[_,_]) rfl (uB sizeOf29 (Pc.tx pH) ab I) fun be H=>(go5 ?_);refine gv ((zP (q:=1) rfl rfl oM oM).cv (show _=vI (1) from rfl)) rfl (go2 ?_);refine xU (go4 ?_);refine gv (OpV.tr dC (yG (q:=3) rfl rfl)) rfl (go7 ?_);refine zL 9 _ [] [(0,.q),(1,.q),(2,.q),(3,.q),(4,.q),(5,.q),(6,.q),(7,.c),(8,.q),(9,.t)] yA nX (by kernel_rfl) nX (fun r hr=>hr) (go3 ?_);refine wX rfl (xB yB (Pc.ty pH) H) fun ay ao=>(go2 ?_);refine wX rfl (xB yB (Pc.ty pH) ah) fun av ak=>?_;refine w_c rfl (sC (ev2 rfl rfl) call55 (fun w hs=>bT hs ao ak oM) fun O h2 bh D=>?_)
 change (rpQ ((k+l+1)+l+1)).Is h2 O (a.y-b.y) at D
 replace D:=Rp.Is.le D (Le.q (l:=k+2*l+2) oM);refine go1 ?_;have aa:=(Le.t (Le.q (l:=k+2*l+2) oM)).R H;refine yO (A:=[_,_]) rfl (uB sizeOf29 (Pc.ty pH) aa D) fun bd G=>(go5 ?_);refine gv ((zP (q:=1) rfl rfl oM oM).cv (show _=vI (2) from rfl)) rfl (go2 ?_);refine xU (go4 ?_);refine gv (OpV.tr dC (yG (q:=3) rfl rfl)) rfl (go7 ?_);refine zL 9 _ [] [(0,.q),(1,.q),(2,.q),(3,.q),(4,.q),(5,.q),(6,.q),(7,.c),(8,.q),(9,.t)] yA nX (by kernel_rfl) nX (fun r hr=>hr) (go3 ?_);refine wX rfl (xB yB (Pc.tz pH) G) fun ax an=>(go2 ?_);refine wX rfl (xB yB (Pc.tz pH) ah) fun au aj=>?_;refine w_c rfl (sC (ev2 rfl rfl) call55 (fun w hs=>bT hs an aj oM) fun M h3 bg C=>?_)
 change (rpQ ((k+2*l+2)+l+1)).Is h3 M (a.z-b.z) at C
 replace C:=Rp.Is.le C (Le.q (l:=k+3*l+3) oM);refine go1 ?_;have Z:=(Le.t (Le.q (l:=k+3*l+3) oM)).R G;refine yO (A:=[_,_]) rfl (uB sizeOf29 (Pc.tz pH) Z C) fun bc ae=>(go5 ?_);refine gv ((zP (q:=1) rfl rfl oM oM).cv (show _=vI (3) from rfl)) rfl (go2 ?_);refine xU (go4 ?_);refine gv (OpV.fa dC (yG (q:=3) rfl rfl)) rfl (uA ?_);refine lX (xB zN pH ae) fun ar ai=>(yE (A:=[]) (uB sizeOf31 pH ba ai) fun bb ad=>(go3 ?_));refine uR (tU (t:=4) zN mh0 rfl ad) ?_;intro bf J ac;refine yS (fun E S=>yD rfl J E S) ?_;exact ac
theorem zKX{w0:World}{h0:Mem}(hs:MLe h0 (mem w0)){l k:Nat}{vq:Value}{q:Rat}(rq:(rpQ l).Is h0 vq q){va:Value}{a:Tq}(ra:(tPt k).Is h0 va a)(hcd0:k+l≤1000000000):
 Calls Tryz.prog 20 #[vq,va] w0 (Ret w0 h0 (fun h r=>(tPt (k+3*l+1)).Is h r (T3.mk (q*a.x) (q*a.y) (q*a.z)))):=by
 refine cb2 18 vq va func20 hs ?_;refine go2 ?_;refine nB rq fun b2 bl an=>(nB ra fun b3 bk aq=>(nA (ρ:=(tPt (k+3*l+1))) (X:=zT) yX (wB (yN oM)) fun b4 bj ba=>(go9 ?_)));refine fP (go4 ?_);refine gv (OpV.tr dC (yG (q:=3) rfl rfl)) rfl (go7 ?_);refine zL 7 _ [] [(0,.q),(1,.q),(2,.q),(3,.q),(4,.q),(5,.c),(6,.q),(7,.t)] yA nX (by kernel_rfl) nX (fun r hr=>hr) (go1 ?_);refine wX rfl (xB yB pH an) fun az ap=>(go2 ?_);refine wX rfl (xB yB (Pc.tx pH) aq) fun ay ao=>?_;refine w_c rfl (sC (ev2 rfl rfl) call53 (fun w hs=>gX hs ap ao oM) fun ad h1 bi G=>?_)
 change (rpQ (l+k)).Is h1 ad (q*a.x) at G
 replace G:=Rp.Is.le G (Le.q (l:=k+l) oM);refine go1 ?_;have ai:=(Le.t (Le.q (l:=k+l) oM)).R aq;refine yO (A:=[_]) rfl (uB sizeOf29 (Pc.tx pH) ai G) fun be I=>(go5 ?_);refine gv ((zP (q:=1) rfl rfl oM oM).cv (show _=vI (1) from rfl)) rfl (go2 ?_);refine xU (go4 ?_);refine gv (OpV.tr dC (yG (q:=3) rfl rfl)) rfl (go7 ?_);refine zL 7 _ [] [(0,.q),(1,.q),(2,.q),(3,.q),(4,.q),(5,.c),(6,.q),(7,.t)] yA nX (by kernel_rfl) nX (fun r hr=>hr) (go1 ?_);refine wX rfl (xB yB pH an) fun ax ab=>(go2 ?_);refine wX rfl (xB yB (Pc.ty pH) I) fun av Z=>?_;refine w_c rfl (sC (ev2 rfl rfl) call53 (fun w hs=>gX hs ab Z oM) fun M h2 bh D=>?_)
 change (rpQ (l+(k+l))).Is h2 M (q*a.y) at D
 replace D:=Rp.Is.le D (Le.q (l:=k+2*l) oM);refine go1 ?_;have ah:=(Le.t (Le.q (l:=k+2*l) oM)).R I;refine yO (A:=[_]) rfl (uB sizeOf29 (Pc.ty pH) ah D) fun bd H=>(go5 ?_);refine gv ((zP (q:=1) rfl rfl oM oM).cv (show _=vI (2) from rfl)) rfl (go2 ?_);refine xU (go4 ?_);refine gv (OpV.tr dC (yG (q:=3) rfl rfl)) rfl (go7 ?_);refine zL 7 _ [] [(0,.q),(1,.q),(2,.q),(3,.q),(4,.q),(5,.c),(6,.q),(7,.t)] yA nX (by kernel_rfl) nX (fun r hr=>hr) (go1 ?_);refine wX rfl (xB yB pH an) fun aw aa=>(go2 ?_);refine wX rfl (xB yB (Pc.tz pH) H) fun au U=>?_;refine w_c rfl (sC (ev2 rfl rfl) call53 (fun w hs=>gX hs aa U oM) fun J h3 bg C=>?_)
 change (rpQ (l+(k+2*l))).Is h3 J (q*a.z) at C
 replace C:=Rp.Is.le C (Le.q (l:=k+3*l) oM);refine go1 ?_;have ae:=(Le.t (Le.q (l:=k+3*l) oM)).R H;refine yO (A:=[_]) rfl (uB sizeOf29 (Pc.tz pH) ae C) fun bc am=>(go5 ?_);refine gv ((zP (q:=1) rfl rfl oM oM).cv (show _=vI (3) from rfl)) rfl (go2 ?_);refine xU (go4 ?_);refine gv (OpV.fa dC (yG (q:=3) rfl rfl)) rfl (uA ?_);refine lX (xB zN pH am) fun ar O=>(yE (A:=[]) (uB sizeOf31 pH ba (O.le (Le.t (Le.q (l:=k+3*l+1) oM)))) fun bb ak=>(go3 ?_));refine uR (tU (t:=4) zN mh0 rfl ak) ?_;intro bf ac aj;refine yS (fun E S=>yD rfl ac E S) ?_;exact aj
theorem pM{w0:World}{h0:Mem}(hs:MLe h0 (mem w0)){x:Int}(hx1:-9223372036854775808≤x)(hx2:x<9223372036854775808){y:Int}(hy1:-9223372036854775808≤y)(hy2:y<9223372036854775808){z:Int}(hz1:-9223372036854775808≤z)(hz2:z<9223372036854775808):
 Calls Tryz.prog 12 #[vI x,vI y,vI z] w0 (Ret w0 h0 (fun h r=>(tPt 2).Is h r (T3.mk ((x:Int):Rat) ((y:Int):Rat) ((z:Int):Rat)))):=by
 refine cb3 14 (vI x) (vI y) (vI z) func12 hs ?_;refine go2 ?_;refine nA (ρ:=(tPt 1)) (X:=zT) yX (wB (yN dC)) fun b6 ai I=>(go5 ?_);refine cL (ev1 rfl) call27 (fun w hs=>sW hs oM oM) fun v8 h1 ah r8=>(go1 ?_);refine cL (ev1 rfl) call27 (fun w hs=>sW hs oM oM) fun ac h2 ae O=>(go1 ?_);refine cL (ev1 rfl) call27 (fun w hs=>sW hs oM oM) fun ab h3 ad M=>(lX (xV (ρ:=(tPt 2)) (xW (ps':=[(0,_),(1,_),(2,_)]) underlying31 yX rfl rfl sizeOf29 e6z rfl (wB (yN dC)) (zH rfl (Pc.tx (Pc.here _)) r8.up (zH rfl (Pc.ty (Pc.here _)) O.up (zH rfl (Pc.tz (Pc.here _)) M zW))))) fun aa J=>?_);have D:=(Le.t (Le.q (l:=2) dC)).R I;refine yE (A:=[]) (uB sizeOf31 pH D J) fun U H=>(go3 ?_);refine uR (tU (t:=6) zN mh0 rfl H) ?_;intro Z C G;refine yS (fun E S=>yD rfl C E S) ?_;exact G
end Go.Proofs.YtpkaegemlpaenaaGreat
namespace Bk
set_option linter.unusedVariables false
set_option linter.unusedSimpArgs false
open Classical
def i3(x y z:Int):Pt:=T3.mk ((x:Int):Rat) ((y:Int):Rat) ((z:Int):Rat)
abbrev bdI(z:Int)(n:Nat):Prop:=z.natAbs≤n
def smN(e:Pl):Prop:=∃a b c d:Int,(bdI a 2∧bdI b 2∧bdI c 2∧bdI d 30)∧e=(i3 a b c,(d:Rat)/2)
def iE(q:Rat)(n:Nat):Prop:=∃z:Int,bdI z n∧q=(z:Rat)/2
def spP(p:Pt):Prop:=iE p.x 9∧iE p.y 9∧iE p.z 9
theorem w8{z:Int}{n m:Nat}(h:bdI z n)(hm:2*n≤m):iE ((z:Int):Rat) m:=by
 refine⟨2*z,by unfold bdI at *;omega,?_⟩;rw[Rat.intCast_mul];have C:((2:Int):Rat)=2:=rfl;rw[C];grind
theorem zI9{z:Int}{n:Nat}(h:bdI z n):iE (kG z 2) n:=⟨z,h,rfl⟩
theorem oZ{p:Pt}{i:Nat}{q:Rat}(hi:i<3)(h:∀u,u<i→iE (p.at u) 9)(hq:iE q 9):∀u,u<i+1→iE ((p.set i q).at u) 9:=by
 intro u C
 by_cases e:u=i
 · subst e
   match u,hi with
   |0,_=>exact hq
   |1,_=>exact hq
   |2,_=>exact hq
 · have h1:u<i:=by omega
   have h2:=h u h1;have z:(i=1∧u=0)∨(i=2∧u=0)∨(i=2∧u=1):=by omega
   rcases z with⟨rfl,rfl⟩|⟨rfl,rfl⟩|⟨rfl,rfl⟩<;>exact h2
theorem yB7{p:Pt}(h:∀u,u<3→iE (p.at u) 9):spP p:=⟨h 0 (by decide),h 1 (by decide),h 2 (by decide)⟩
abbrev rows7:List (T3 Int):=[T3.mk 1 0 0,T3.mk 0 1 0,T3.mk 0 0 1,T3.mk 1 1 0,T3.mk (-1) 0 0,T3.mk 1 (-1) 2,T3.mk 0 2 1]
end Bk
namespace Go.Proofs.YtpkaegemlpaenaaGreat
open Bk Go Tryz
set_option linter.unusedVariables false
set_option linter.unusedSimpArgs false
set_option maxRecDepth 10000
set_option maxHeartbeats 1000000
attribute [local irreducible] GL GC GQ W OpV
theorem zO4{w0:World}{h0:Mem}(hs:MLe h0 (mem w0)){k:Nat}{vn:Value}{n:Tq}(rn:(tPt k).Is h0 vn n)(hcd0:k≤1000000000):
 Calls Tryz.prog 106 #[vn] w0 (Ret w0 h0 (fun h r=>r=.tuple #[vI (↑(axI n):Int),vI (↑(axJ n):Int)])):=by
 refine cb1 29 vn func106 hs ?_;refine go2 ?_;refine nB rn fun b1 aq O=>(qA ?_);refine fP (go4 ?_);refine gv (OpV.tr dC (sD (q:=0) rfl rfl)) rfl (uA ?_);refine gv ((zP (q:=1) rfl rfl oM oM).cv (show _=vI (3) from rfl)) rfl (gv ((wJ (q:=3) rfl rfl oM oM).cv (show _=vI (0) from rfl)) rfl (go1 ?_));refine gv ((zP (q:=2) rfl rfl oM oM).cv (show _=vI (4) from rfl)) rfl (gv ((wJ (q:=3) rfl rfl oM oM).cv (show _=vI (1) from rfl)) rfl (go8 ?_));refine lX (xB yB (Pc.tz pH) O) fun am ad=>(cL (ev1 rfl) call122 (fun w hs=>sZ hs ad oM) fun M h1 ap aa=>?_);obtain rfl:M=vI (xC n.z):=aa;have ai:=yY n.z;refine gc9 (fun D=>?_) fun D=>?_
 ·
  refine rV ?_;refine xY rfl rfl rfl ?_;have H:axI n=0:=by unfold axI;simp only[gR,kL] at *;grind
  have G:axJ n=1:=by unfold axJ;simp only[gR,kL] at *;grind
  rw[H,G];rfl
 refine gc6 (fun C=>?_) fun C=>?_
 ·
  refine rV ?_;refine xY rfl rfl rfl ?_;have H:axI n=1:=by unfold axI;simp only[gR,kL] at *;grind
  have G:axJ n=0:=by unfold axJ;simp only[gR,kL] at *;grind
  rw[H,G];rfl
 refine go6 ?_;refine gv ((qE (q:=1) rfl rfl oM oM).cv (show _=vI (1) from rfl)) rfl (go2 ?_);refine xU (go4 ?_);refine gv (OpV.tr dC (sD (q:=0) rfl rfl)) rfl (uA ?_);refine gv ((zP (q:=1) rfl rfl oM oM).cv (show _=vI (2) from rfl)) rfl (gv ((wJ (q:=3) rfl rfl oM oM).cv (show _=vI (2) from rfl)) rfl (go1 ?_));refine gv ((zP (q:=2) rfl rfl oM oM).cv (show _=vI (3) from rfl)) rfl (gv ((wJ (q:=3) rfl rfl oM oM).cv (show _=vI (0) from rfl)) rfl (go8 ?_));refine lX (xB yB (Pc.ty pH) O) fun ak ac=>(cL (ev1 rfl) call122 (fun w hs=>sZ hs ac oM) fun J h2 ao Z=>?_);obtain rfl:J=vI (xC n.y):=Z;have ah:=yY n.y;refine gc9 (fun D=>?_) fun D=>?_
 ·
  refine rV ?_;refine xY rfl rfl rfl ?_;have H:axI n=2:=by unfold axI;simp only[gR,kL] at *;grind
  have G:axJ n=0:=by unfold axJ;simp only[gR,kL] at *;grind
  rw[H,G];rfl
 refine gc6 (fun C=>?_) fun C=>?_
 ·
  refine rV ?_;refine xY rfl rfl rfl ?_;have H:axI n=0:=by unfold axI;simp only[gR,kL] at *;grind
  have G:axJ n=2:=by unfold axJ;simp only[gR,kL] at *;grind
  rw[H,G];rfl
 refine go6 ?_;refine gv ((qE (q:=1) rfl rfl oM oM).cv (show _=vI (0) from rfl)) rfl (go2 ?_);refine xU (go4 ?_);refine gv (OpV.tr dC (sD (q:=0) rfl rfl)) rfl (uA ?_);refine gv ((zP (q:=1) rfl rfl oM oM).cv (show _=vI (1) from rfl)) rfl (gv ((wJ (q:=3) rfl rfl oM oM).cv (show _=vI (1) from rfl)) rfl (go1 ?_));refine gv ((zP (q:=2) rfl rfl oM oM).cv (show _=vI (2) from rfl)) rfl (gv ((wJ (q:=3) rfl rfl oM oM).cv (show _=vI (2) from rfl)) rfl (go8 ?_));refine lX (xB yB (Pc.tx pH) O) fun aj ab=>(cL (ev1 rfl) call122 (fun w hs=>sZ hs ab oM) fun I h3 an U=>?_);obtain rfl:I=vI (xC n.x):=U;have ae:=yY n.x;refine gc9 (fun D=>?_) fun D=>?_
 ·
  refine rV ?_;refine xY rfl rfl rfl ?_;have H:axI n=1:=by unfold axI;simp only[gR,kL] at *;grind
  have G:axJ n=2:=by unfold axJ;simp only[gR,kL] at *;grind
  rw[H,G];rfl
 refine gc6 (fun C=>?_) fun C=>?_
 ·
  refine rV ?_;refine xY rfl rfl rfl ?_;have H:axI n=2:=by unfold axI;simp only[gR,kL] at *;grind
  have G:axJ n=1:=by unfold axJ;simp only[gR,kL] at *;grind
  rw[H,G];rfl
 refine go6 ?_;refine gv ((qE (q:=1) rfl rfl oM oM).cv (show _=vI (-1) from rfl)) rfl (go2 ?_);refine xU (go4 ?_);refine gv (OpV.fa dC (sD (q:=0) rfl rfl)) rfl (rV ?_);refine xY rfl rfl rfl ?_;have H:axI n=1:=by unfold axI;simp only[gR,kL] at *;grind
 have G:axJ n=2:=by unfold axJ;simp only[gR,kL] at *;grind
 rw[H,G];rfl
theorem zE2{w0:World}{h0:Mem}(hs:MLe h0 (mem w0)){k l:Nat}{va:Value}{a:Tq}(ra:(tPt k).Is h0 va a){vb:Value}{b:Tq}(rb:(tPt l).Is h0 vb b)(hcd0:k+l≤1000000000):
 Calls Tryz.prog 35 #[va,vb] w0 (Ret w0 h0 (fun _ r=>r=vB (a=b))):=by
 refine cb2 24 va vb func35 hs ?_;refine go2 ?_;refine nB ra fun b2 Z H=>(nB rb fun b3 U G=>(go6 ?_));refine lX (xB yB (Pc.tx pH) H) fun v6 r6=>(go1 ?_);refine lX (xB yB (Pc.tx pH) G) fun v8 r8=>(cL (ev2 rfl rfl) call73 (fun w hs=>tD hs r6 r8 oM) fun v9 h1 aq r9=>?_);obtain rfl:v9=vB (a.x=b.x):=r9;refine uS (ι:=Mem) 7 (fun I=>MLe h1 I) (fun _=>[(16,vB ((a.x=b.x)∧(a.y=b.y))),(2,vP b2 0),(3,vP b3 0)]) (fun _=>[.var b3 31 U,.var b2 31 Z]) (fun I=>I) ?_ ?_
 ·
  refine zS (a.x=b.x) (fun D=>?_) (fun D=>?_)
  ·
   refine gT D rfl (go3 ?_);refine lX (xB yB (Pc.ty pH) H) fun ap ak=>(go3 ?_);refine lX (xB yB (Pc.ty pH) G) fun ao aj=>(go1 ?_);refine cL (ev2 rfl rfl) call73 (fun w hs=>tD hs ak aj oM) fun ac h2 J ai=>?_;obtain rfl:ac=vB (a.y=b.y):=ai;refine go2 ?_;refine zQ h2 J ⟨?_,rfl,rfl,trivial⟩ rfl rfl;exact congrArg some (yU D)
  refine gF D rfl (go7 ?_);refine zQ h1 (MLe.refl _) ⟨?_,rfl,rfl,trivial⟩ rfl rfl;exact congrArg some (yV D)
 intro C O;refine sE ?_;refine uS (ι:=Mem) 7 (fun I=>MLe C I) (fun _=>[(23,vB (((a.x=b.x)∧(a.y=b.y))∧(a.z=b.z)))]) (fun _=>[.var b3 31 U,.var b2 31 Z]) (fun I=>I) ?_ ?_
 ·
  refine zS ((a.x=b.x)∧(a.y=b.y)) (fun D=>?_) (fun D=>?_)
  ·
   refine gT D rfl (go3 ?_);refine lX (xB yB (Pc.tz pH) H) fun an ah=>(go3 ?_);refine lX (xB yB (Pc.tz pH) G) fun am ae=>(go1 ?_);refine cL (ev2 rfl rfl) call73 (fun w hs=>tD hs ah ae oM) fun ab h2 J ad=>?_;obtain rfl:ab=vB (a.z=b.z):=ad;refine go2 ?_;refine zQ h2 J ⟨?_,trivial⟩ rfl rfl;exact congrArg some (yU D)
  refine gF D rfl (go7 ?_);refine zQ C (MLe.refl _) ⟨?_,trivial⟩ rfl rfl;exact congrArg some (yV D)
 intro aa M;refine sE ?_;refine go4 ?_;refine zC rfl rfl ?_
 first|exact jI (by rw[fV];grind)|exact(xE (by rw[fV];grind)).symm|exact(yJ (by rw[fV];grind)).symm
theorem zOT{w0:World}{h0:Mem}(hs:MLe h0 (mem w0)){k:Nat}{va:Value}{a:Tq}(ra:(tPt k).Is h0 va a)(hcd0:k≤1000000):
 Calls Tryz.prog 80 #[va] w0 (Ret w0 h0 (fun _ r=>r=vB (a=zT))):=by
 refine cb1 6 va func80 hs ?_;refine go2 ?_;refine nB ra fun I H z=>(go5 ?_);refine lX (xB zN pH z) fun v3 r3=>(lX (xV (ρ:=(tPt 1)) (xW (ps':=[]) underlying31 yX rfl rfl sizeOf29 trivial rfl (wB (yN dC)) zW)) fun v4 r4=>(cL (ev2 rfl rfl) call35 (fun w hs=>zE2 hs r3 r4 oM) fun C h1 G D=>?_));obtain rfl:C=vB (a=zT):=D;refine go4 ?_;refine zC rfl rfl ?_
 rfl
theorem y1{w0:World}{h0:Mem}(hs:MLe h0 (mem w0)){k l:Nat}{va:Value}{a:Tq}(ra:(tPt k).Is h0 va a){vb:Value}{b:Tq}(rb:(tPt l).Is h0 vb b)(hcd0:k+l≤1000000000):
 Calls Tryz.prog 56 #[va,vb] w0 (Ret w0 h0 (fun h r=>(rpQ (3*k+3*l+9)).Is h r (wO a b))):=by
 refine cb2 21 va vb func56 hs ?_;refine go2 ?_;refine nB ra fun b2 cd ak=>(nB rb fun b3 cc aj=>(nA (ρ:=(rpQ (3*k+3*l+9))) (X:=(0:Rat)) xS (yN oM) fun b4 cb bn=>(go4 ?_)));refine nA (ρ:=(rpQ 1)) (X:=(0:Rat)) xS (yN dC) fun b5 ca bc=>(go9 ?_);refine fP (go4 ?_);refine gv (OpV.tr dC (yG (q:=3) rfl rfl)) rfl (go7 ?_);refine zL 9 _ [] [(0,.q),(1,.q),(2,.q),(3,.q),(4,.q),(5,.q),(6,.q),(7,.c),(8,.c),(9,.t)] yA nX (by kernel_rfl) nX (fun r hr=>hr) (wX rfl (xB yB pH bc) fun bm ax=>(go2 ?_));refine wX rfl (xB yB (Pc.tx pH) ak) fun bj au=>(go2 ?_);refine wX rfl (xB yB (Pc.tx pH) aj) fun bg ap=>?_;refine w_c rfl (sC (ev2 rfl rfl) call53 (fun w hs=>gX hs au ap oM) fun ae h1 bz J=>?_)
 change (rpQ (k+l)).Is h1 ae (a.x*b.x) at J
 refine w_c rfl (sC (ev2 rfl rfl) call45 (fun w hs=>sY hs ax.up J oM) fun ab h2 bx G=>?_)
 change (rpQ (1+(k+l)+1)).Is h2 ab ((0:Rat)+(a.x*b.x)) at G
 replace G:=Rp.Is.le G (Le.q (l:=k+l+2) oM);have ba:=(Le.q (l:=k+l+2) oM).R bc;refine yO (A:=[]) rfl (uB sizeOf29 pH ba G) fun bs U=>(go5 ?_);refine gv ((zP (q:=1) rfl rfl oM oM).cv (show _=vI (1) from rfl)) rfl (go2 ?_);refine xU (go4 ?_);refine gv (OpV.tr dC (yG (q:=3) rfl rfl)) rfl (go7 ?_);refine zL 9 _ [] [(0,.q),(1,.q),(2,.q),(3,.q),(4,.q),(5,.q),(6,.q),(7,.c),(8,.c),(9,.t)] yA nX (by kernel_rfl) nX (fun r hr=>hr) (wX rfl (xB yB pH U) fun bl aw=>(go2 ?_));refine wX rfl (xB yB (Pc.ty pH) ak) fun bi ar=>(go2 ?_);refine wX rfl (xB yB (Pc.ty pH) aj) fun bf ao=>?_;refine w_c rfl (sC (ev2 rfl rfl) call53 (fun w hs=>gX hs ar ao oM) fun ad h3 bw I=>?_)
 change (rpQ (k+l)).Is h3 ad (a.y*b.y) at I
 refine w_c rfl (sC (ev2 rfl rfl) call45 (fun w hs=>sY hs aw.up I oM) fun aa h4 bv D=>?_)
 change (rpQ ((k+l+2)+(k+l)+1)).Is h4 aa (((0:Rat)+(a.x*b.x))+(a.y*b.y)) at D
 replace D:=Rp.Is.le D (Le.q (l:=2*k+2*l+3) oM);have az:=(Le.q (l:=2*k+2*l+3) oM).R U;refine yO (A:=[]) rfl (uB sizeOf29 pH az D) fun br O=>(go5 ?_);refine gv ((zP (q:=1) rfl rfl oM oM).cv (show _=vI (2) from rfl)) rfl (go2 ?_);refine xU (go4 ?_);refine gv (OpV.tr dC (yG (q:=3) rfl rfl)) rfl (go7 ?_);refine zL 9 _ [] [(0,.q),(1,.q),(2,.q),(3,.q),(4,.q),(5,.q),(6,.q),(7,.c),(8,.c),(9,.t)] yA nX (by kernel_rfl) nX (fun r hr=>hr) (wX rfl (xB yB pH O) fun bk av=>(go2 ?_));refine wX rfl (xB yB (Pc.tz pH) ak) fun bh aq=>(go2 ?_);refine wX rfl (xB yB (Pc.tz pH) aj) fun be an=>?_;refine w_c rfl (sC (ev2 rfl rfl) call53 (fun w hs=>gX hs aq an oM) fun ac h5 bu H=>?_)
 change (rpQ (k+l)).Is h5 ac (a.z*b.z) at H
 refine w_c rfl (sC (ev2 rfl rfl) call45 (fun w hs=>sY hs av.up H oM) fun Z h6 bt C=>?_)
 change (rpQ ((2*k+2*l+3)+(k+l)+1)).Is h6 Z ((((0:Rat)+(a.x*b.x))+(a.y*b.y))+(a.z*b.z)) at C
 replace C:=Rp.Is.le C (Le.q (l:=3*k+3*l+4) oM);have ay:=(Le.q (l:=3*k+3*l+4) oM).R O;refine yO (A:=[]) rfl (uB sizeOf29 pH ay C) fun bq bb=>(go5 ?_);refine gv ((zP (q:=1) rfl rfl oM oM).cv (show _=vI (3) from rfl)) rfl (go2 ?_);refine xU (go4 ?_);refine gv (OpV.fa dC (yG (q:=3) rfl rfl)) rfl (uA ?_);refine lX (xB yB pH bb) fun bd am=>(yE (A:=[_]) (uB sizeOf29 pH bn (am.le (Le.q (l:=3*k+3*l+9) oM))) fun bo ai=>(go3 ?_));refine uR (tU (t:=4) yB mh1 rfl ai) ?_;intro bp M ah;refine yS (fun E S=>yD rfl M E S) ?_;exact(Rp.Is.cast ah (by unfold wO;grind))
theorem zIQ{w0 w:World}{h0 h:Mem}{b k:Nat}{vl:Value}{xs:List Int}(hl:Is h vl xs)(hk:k≤xs.length){n:Int}(hn:0<n)(hn2:n<4611686018427387904){L:List Res}(hs:St w0 h0 (.var b 72 [vl,vI ↑k]::L) h w):
 Calls Tryz.prog 38 #[vP b 0,vI n] w (zD1 w0 h0 h L (fun g r q'=>∃k':Nat,∃p:Prop,q'=.var b 72 [vl,vI ↑k']∧k'≤xs.length∧r=vB p)):=by
 have D:=hl.lt63;refine tJ (n:=11) (e:=[(0,vP b 0),(1,vI n)]) (vs:=[vP b 0,vI n]) func38 rfl rfl (bL rfl) hs e2z (go9 ?_);refine kP (A:=[]) (vs:=[_,_]) call13 e2z (fun X w hs=>tQ hl (by first|omega|exact Nat.zero_le _) oM oM hs) rfl ?_;intro M Z O C z;obtain⟨U,J,rfl,I,rfl,G,H⟩:=z;refine go7 ?_;refine jQ rfl rfl ?_;exact⟨_,(List.Sublist.refl _),C,_,_,rfl,by omega,rfl⟩
end Go.Proofs.YtpkaegemlpaenaaGreat
namespace Go.Proofs.YtpkaegemlpaenaaGreat
open Bk Go Tryz
set_option linter.unusedVariables false
set_option linter.unusedSimpArgs false
set_option maxRecDepth 10000
set_option maxHeartbeats 1000000
attribute [local irreducible] GL GC GQ W OpV
theorem zIP{w0 w:World}{h0 h:Mem}{b k:Nat}{vl:Value}{xs:List Int}(hl:Is h vl xs)(hk:k≤xs.length){L:List Res}(hs:St w0 h0 (.var b 72 [vl,vI ↑k]::L) h w):
 Calls Tryz.prog 16 #[vP b 0] w (zD1 w0 h0 h L (fun g r q'=>∃k':Nat,∃m:T3 Rat,q'=.var b 72 [vl,vI ↑k']∧k'≤xs.length∧spP m∧(tPt 2).Is g r m)):=by
 have be:=hl.lt63;refine tJ (n:=22) (e:=[(0,vP b 0)]) (vs:=[vP b 0]) func16 rfl rfl (bL rfl) hs ⟨rfl,trivial⟩ (go2 ?_);refine nA (ρ:=(tPt 2)) (X:=zT) yX (wB (yN dC)) fun b2 ay am=>(go4 ?_);refine nA (ρ:=(tPt 2)) (X:=zT) yX (wB (yN dC)) fun M ax ak=>(go9 ?_);refine gcL (ι:=Nat×T3 Rat×List Value×Nat×Mem) (fun(i,Z,C,z,ma)=>(MLe h ma∧((tPt 2).R ma C Z∧z≤xs.length∧i≤3∧∀u,u<i→iE (Z.at u) 9),[(0,vP b 0),(2,vP b2 0),(3,vP M 0),(4,vI ↑i)],(.var M 31 C::.var b2 31 ay::.var b 72 [vl,vI ↑z]::L),ma,3-i)) (0,(T3.mk 0 0 0),ax,k,h) ?_ ?_
 · exact⟨mle,ak,oM,by omega,fun u h=>by omega⟩
 rintro⟨i,Z,C,z,ma⟩ ⟨ad,H,au,hi,hh⟩
 refine yW ?_;refine gc7 (fun av=>?_) fun av=>?_
 ·
  refine go8 ?_;refine kP (A:=[_,_]) (vs:=[_,vI (5)]) call13 e2z (fun X w hs=>tQ hl.up (by first|omega|exact Nat.zero_le _) oM oM hs) rfl ?_;intro br ca bu bk ac;obtain⟨bv,O,rfl,bh,rfl,bb,bd⟩:=ac;refine cL (ev1 rfl) call27 (fun w hs=>sW hs oM oM) fun bq h1 bx ap=>(gv ((zV (sz:=3) i underlying31 sizeOf29 rfl rfl rfl oM).cv (show _=vP M ((i*3+0)) from congrArg (vP M) oM)) rfl (yE (A:=[]) (uB sizeOf29 (Pc.ta pH i oM) H ap) fun ai G=>(go5 ?_)));refine kP (A:=[_,_]) (vs:=[_,vI (4)]) call38 e2z (fun X w hs=>zIQ hl.up (by first|omega|exact Nat.zero_le _) oM oM hs) rfl ?_;intro bp aw bt bj ab;obtain⟨ar,cb,rfl,bg,rfl⟩:=ab;refine gc2 (fun ae=>?_) fun ae=>?_
  ·
   refine go3 ?_;refine kP (A:=[_,_]) (vs:=[_,vI (9)]) call13 e2z (fun X w hs=>tQ hl.up (by first|omega|exact Nat.zero_le _) oM oM hs) rfl ?_;intro bo bz bs bi aa;obtain⟨aq,aj,rfl,bf,rfl,ba,bc⟩:=aa;refine cL (vs:=[_,vI (2)]) e2z call21 (fun w hs=>zA0 hs oM oM dC dC) fun bn h2 bw ao=>(gv ((zV (sz:=3) i underlying31 sizeOf29 rfl rfl rfl oM).cv (show _=vP M ((i*3+0)) from congrArg (vP M) oM)) rfl (yE (A:=[]) (uB sizeOf29 (Pc.ta pH i oM) G ao) fun ah U=>(go8 ?_)));refine gqL ((i+1),((Z.set i ((O:Int):Rat)).set i (kG aj (2:Int))),ah,aq,h2) ?_ ?_
   · exact⟨mle,U,oM,by omega,by first|exact oZ oM hh (w8 (n:=4) oM dC)|exact oZ oM (fun u hu=>oZ oM hh (w8 (n:=4) oM dC) u oM) (zI9 oM)⟩
   omega
  refine go8 ?_;refine gqL ((i+1),(Z.set i ((O:Int):Rat)),ai,ar,aw) ?_ ?_
  · exact⟨mle,G.up,oM,by omega,by first|exact oZ oM hh (w8 (n:=4) oM dC)|exact oZ oM (fun u hu=>oZ oM hh (w8 (n:=4) oM dC) u oM) (zI9 oM)⟩
  omega
 refine go7 ?_;refine lX (xB zN pH H) fun bm an=>(yE (A:=[_]) (uB sizeOf31 pH am an) fun bl J=>(go3 ?_));refine uR (tU (t:=2) zN mh1 rfl J) ?_;intro az D I;refine zLR (fun E S=>yD rfl D E S) ?_;exact⟨_,(.cons _ (.cons _ (List.Sublist.refl _))),ad,_,_,rfl,by omega,yB7 (fun u hu=>hh u oM),I⟩
theorem zOS{w0:World}{h0:Mem}(hs:MLe h0 (mem w0)){m l:Nat}{vs:Value}{s:Pq}(rs:(tPl m l).Is h0 vs s)(hcd0:m≤1000000000):
 Calls Tryz.prog 152 #[vs] w0 (Ret w0 h0 (fun h r=>r=.tuple #[vI (↑(axI s.1):Int),vI (↑(axJ s.1):Int),vI (↑(axK s.1):Int)])):=by
 refine cb1 29 vs func152 hs ?_;refine go2 ?_;refine nB rs fun b1 au G=>(mW ?_);refine lX (xB yB (Pc.fst (Pc.tz pH)) G) fun aq aj=>(cL (ev1 rfl) call48 (fun w hs=>qF hs aj oM) fun ad h1 ar ai=>?_);obtain rfl:ad=vI (xC s.1.z):=ai;have am:=yY s.1.z;refine gc3 (fun ab=>?_) fun ab=>?_
 ·
  refine qA ?_;refine lX (xB yB (Pc.fst (Pc.ty pH)) G) fun ap ah=>(cL (ev1 rfl) call48 (fun w hs=>qF hs ah oM) fun ac h2 ao ae=>?_);obtain rfl:ac=vI (xC s.1.y):=ae;have ak:=yY s.1.y;refine gc3 (fun aa=>?_) fun aa=>?_
  ·
   refine uQ ?_;refine lX (xB yB (Pc.fst (Pc.tx pH)) G) fun Z I=>(cL (ev1 rfl) call48 (fun w hs=>qF hs I oM) fun D h3 an H=>?_);obtain rfl:D=vI (xC s.1.x):=H;have J:=yY s.1.x;refine gc3 (fun C=>?_) fun C=>?_
   ·
    refine zWL ?_;refine uY rfl rfl rfl rfl ?_;have U:axI s.1=2:=by unfold axI;simp only[uC,qO] at *;grind
    have O:axJ s.1=1:=by unfold axJ;simp only[uC,qO] at *;grind
    have M:axK s.1=0:=by unfold axK;simp only[uC,qO] at *;grind
    rw[U,O,M];rfl
   refine rM ?_;refine uY rfl rfl rfl rfl ?_;have U:axI s.1=1:=by unfold axI;simp only[uC,qO] at *;grind
   have O:axJ s.1=2:=by unfold axJ;simp only[uC,qO] at *;grind
   have M:axK s.1=0:=by unfold axK;simp only[uC,qO] at *;grind
   rw[U,O,M];rfl
  refine go8 ?_;refine lX (xB yB (Pc.fst (Pc.ty pH)) G) fun Z I=>(cL (ev1 rfl) call48 (fun w hs=>qF hs I oM) fun D h3 an H=>?_);obtain rfl:D=vI (xC s.1.y):=H;have J:=yY s.1.y;refine gc3 (fun C=>?_) fun C=>?_
  ·
   refine zWL ?_;refine uY rfl rfl rfl rfl ?_;have U:axI s.1=0:=by unfold axI;simp only[uC,qO] at *;grind
   have O:axJ s.1=2:=by unfold axJ;simp only[uC,qO] at *;grind
   have M:axK s.1=1:=by unfold axK;simp only[uC,qO] at *;grind
   rw[U,O,M];rfl
  refine rM ?_;refine uY rfl rfl rfl rfl ?_;have U:axI s.1=2:=by unfold axI;simp only[uC,qO] at *;grind
  have O:axJ s.1=0:=by unfold axJ;simp only[uC,qO] at *;grind
  have M:axK s.1=1:=by unfold axK;simp only[uC,qO] at *;grind
  rw[U,O,M];rfl
 refine go8 ?_;refine lX (xB yB (Pc.fst (Pc.tz pH)) G) fun Z I=>(cL (ev1 rfl) call48 (fun w hs=>qF hs I oM) fun D h2 ao H=>?_);obtain rfl:D=vI (xC s.1.z):=H;have J:=yY s.1.z;refine gc3 (fun C=>?_) fun C=>?_
 ·
  refine zWL ?_;refine uY rfl rfl rfl rfl ?_;have U:axI s.1=1:=by unfold axI;simp only[uC,qO] at *;grind
  have O:axJ s.1=0:=by unfold axJ;simp only[uC,qO] at *;grind
  have M:axK s.1=2:=by unfold axK;simp only[uC,qO] at *;grind
  rw[U,O,M];rfl
 refine rM ?_;refine uY rfl rfl rfl rfl ?_;have U:axI s.1=0:=by unfold axI;simp only[uC,qO] at *;grind
 have O:axJ s.1=1:=by unfold axJ;simp only[uC,qO] at *;grind
 have M:axK s.1=2:=by unfold axK;simp only[uC,qO] at *;grind
 rw[U,O,M];rfl
theorem zGJ{w0:World}{h0:Mem}(hs:MLe h0 (mem w0)){m l k:Nat}{vs:Value}{s:Pq}(rs:(tPl m l).Is h0 vs s){vp:Value}{p:Tq}(rp:(tPt k).Is h0 vp p)(hcd0:k≤1000000000)(hcd1:m≤1000000000):
 Calls Tryz.prog 112 #[vs,vp] w0 (Ret w0 h0 (fun h r=>(tPt (k+1)).Is h r (qY s p))):=by
 refine cb2 21 vs vp func112 hs ?_;refine go2 ?_;refine nB rs fun b2 am J=>(nB rp fun H ak G=>(nA (ρ:=(tPt (k+1))) (X:=zT) yX (wB (yN oM)) fun b4 aj I=>(go4 ?_)));refine lX (xB dE pH J) fun v9 r9=>(cL (ev1 rfl) call152 (fun w hs=>zOS hs r9 oM) fun ah h1 ai Z=>?_);obtain rfl:=Z;refine uA ?_;refine zL 7 _ [] [(0,.q),(1,.q),(2,.q),(3,.q),(4,.q),(5,.q),(6,.q),(7,.t)] yA nX (by kernel_rfl) nX (fun r hr=>hr) (go1 ?_);refine xN rfl (fun _ _=>(zV (sz:=3) (axI s.1) underlying31 sizeOf29 rfl rfl (by rfl) (by exact zUB _)).cv (show _=vP H (((axI s.1)*3+0)) from congrArg (vP H) oM)) rfl (wX rfl (xB yB (Pc.ta pH (axI s.1) (by exact zUB _)) G) fun ae U=>(go1 ?_));refine xN rfl (fun _ _=>(zV (sz:=3) (axJ s.1) underlying31 sizeOf29 rfl rfl (by rfl) (by exact zUA _)).cv (show _=vP H (((axJ s.1)*3+0)) from congrArg (vP H) oM)) rfl (wX rfl (xB yB (Pc.ta pH (axJ s.1) (by exact zUA _)) G) fun ad O=>(wX rfl (xV (ρ:=(tPt (k+1))) (xW (ps':=[(0,_),(1,_)]) underlying31 yX rfl rfl sizeOf29 e4z rfl (wB (yN oM)) (zH rfl (Pc.tx (Pc.here _)) (U.le (Le.q (l:=k+1) oM)) (zH rfl (Pc.ty (Pc.here _)) (O.le (Le.q (l:=k+1) oM)) zW)))) fun ac M=>(yO (A:=[]) rfl (uB sizeOf31 pH I M) fun aa D=>(go3 ?_))));refine uR (tU (t:=4) zN mh0 rfl D) ?_;intro ab z C;refine yS (fun E S=>yD rfl z E S) ?_;exact C
theorem zOU{w0:World}{h0:Mem}(hs:MLe h0 (mem w0)){m l k:Nat}{vs:Value}{s:Pq}(rs:(tPl m l).Is h0 vs s){vp:Value}{p:Tq}(rp:(tPt k).Is h0 vp p)(hcd0:k≤1000000)(hcd1:l≤1000000)(hcd2:m≤1000000):
 Calls Tryz.prog 23 #[vs,vp] w0 (Ret w0 h0 (fun _ r=>r=vI (xC (wO s.1 p-s.2)))):=by
 refine cb2 13 vs vp func23 hs ?_;refine go2 ?_;refine nB rs fun b2 ae C=>(nB rp fun b3 ad G=>(go4 ?_));refine zL 9 _ [] [(0,.q),(1,.q),(2,.q),(4,.q),(5,.q),(3,.c),(6,.c),(7,.c),(8,.q)] yA nX (by kernel_rfl) nX (fun r hr=>hr) (go1 ?_);refine wX rfl (xB zN (Pc.fst pH) C) fun v6 r6=>(wX rfl (xB zN pH G) fun v7 Z=>(go1 ?_));refine wX rfl (xB yB (Pc.snd pH) C) fun U J=>?_;refine w_c rfl (sC (ev2 rfl rfl) call56 (fun w hs=>y1 hs r6 Z oM) fun v8 h1 ac H=>?_);replace H:=Rp.Is.le H (Le.q (l:=3*k+3*m+9) oM);refine w_c rfl (sC (ev2 rfl rfl) call55 (fun w hs=>bT hs H J.up oM) fun O h2 ab z=>?_);replace z:=Rp.Is.le z (Le.q (l:=3*k+l+3*m+10) oM);refine w_c rfl (sC (ev1 rfl) call48 (fun w hs=>qF hs z oM) fun D h3 aa I=>?_);obtain rfl:D=vI (xC ((wO s.1 p)-s.2)):=I;have M:=yY ((wO s.1 p)-s.2);refine go4 ?_;refine zC rfl rfl ?_
 rfl
end Go.Proofs.YtpkaegemlpaenaaGreat
namespace Go.Proofs.YtpkaegemlpaenaaGreat
open Bk Go Tryz
set_option linter.unusedVariables false
set_option linter.unusedSimpArgs false
set_option maxRecDepth 10000
set_option maxHeartbeats 1000000
attribute [local irreducible] GL GC GQ W OpV
theorem oL{w0:World}{h0:Mem}(hs:MLe h0 (mem w0)){vL:Value}{L:(List (List Int))}(rL:tII.Is h0 vL L):
 Calls Tryz.prog 178 #[vL] w0 (Ret w0 h0 (fun _ r=>r=vB (vfP L))):=by
 refine cb1 65 vL func178 hs ?_;refine qA ?_;refine gU 5 14 (vB (((↑(L).length:Int)<(1:Int))∨((16:Int)<(↑(L).length:Int)))) ?_ ?_
 ·
  refine zS ((↑(L).length:Int)<(1:Int)) (fun z=>?_) (fun z=>?_)
  ·
   refine gT z rfl (go5 ?_);refine gqU ?_;exact congrArg some (wU z)
  refine gF z rfl (go8 ?_);refine gqU ?_;exact congrArg some (wV z)
 refine gc2 (fun ad=>?_) fun ad=>?_
 ·
  refine go7 ?_;refine zC rfl rfl ?_;exact(yJ (fun e=>by have:=e.1;omega)).symm
 refine go9 ?_;refine gcL (ι:=Nat×Mem) (fun(l,J)=>(MLe h0 J∧(l≤L.length∧∀u,u<l→lpP (L.getD u [])),[(0,vL),(3,vI ↑l)],[],J,L.length-l)) (0,h0) ?_ ?_
 · exact⟨mle,by omega,fun u h=>by omega⟩
 rintro⟨l,J⟩ ⟨ay,bm,M⟩
 refine yW ?_;refine gc9 (fun ac=>?_) fun ac=>?_
 ·
  refine go8 ?_;refine lX (xI [] l underlying51 fG rL) fun bl ap=>(lX (xA fG ap) fun H D=>(go9 ?_));refine gU 5 32 (vB (((↑((L.getD l [])).length:Int)<(3:Int))∨((64:Int)<(↑((L.getD l [])).length:Int)))) ?_ ?_
  ·
   refine zS ((↑((L.getD l [])).length:Int)<(3:Int)) (fun z=>?_) (fun z=>?_)
   ·
    refine gT z rfl (go5 ?_);refine gqU ?_;exact congrArg some (wU z)
   refine gF z rfl (go8 ?_);refine gqU ?_;exact congrArg some (wV z)
  refine gc2 (fun ab=>?_) fun ab=>?_
  ·
   refine uQ ?_;refine zC rfl rfl ?_;exact(yJ (fun e=>by have:=(e.2 l oM).1;omega)).symm
  refine go8 ?_;refine gcL (ι:=Nat×Mem) (fun(i,G)=>(MLe J G∧(i≤(L.getD l []).length∧∀u,u<i→(0≤(L.getD l []).getD u 0∧(L.getD l []).getD u 0<512)∧∀k,k<u→¬(L.getD l []).getD u 0=(L.getD l []).getD k 0),[(0,vL),(3,vI ↑l),(4,H),(5,vI ↑i)],[],G,(L.getD l []).length-i)) (0,J) ?_ ?_
  · exact⟨mle,by omega,fun u h=>by omega⟩
  rintro⟨i,G⟩ ⟨ax,bo,hi2⟩
  refine yW ?_;refine gc9 (fun aa=>?_) fun aa=>?_
  ·
   refine go9 ?_;refine lX (xI (0:Int) i underlying22 ty3 D) fun bk ao=>(lX (xA ty3 ao) fun bj an=>?_);obtain⟨rfl,bc,av⟩:=jZ an;refine go1 ?_;refine gU 7 50 (vB ((((L.getD l []).getD i (0:Int))<(0:Int))∨((512:Int)≤((L.getD l []).getD i (0:Int))))) ?_ ?_
   ·
    refine zS (((L.getD l []).getD i (0:Int))<(0:Int)) (fun z=>?_) (fun z=>?_)
    ·
     refine gT z rfl (go7 ?_);refine gqU ?_;exact congrArg some (wU z)
    refine gF z rfl (go5 ?_);refine lX (xI (0:Int) i underlying22 ty3 D) fun bi am=>(go1 ?_);refine lX (xA ty3 am) fun bh ak=>?_;obtain⟨rfl,bb,au⟩:=jZ ak;refine go4 ?_;refine gqU ?_;exact congrArg some (wV z)
   refine gc2 (fun Z=>?_) fun Z=>?_
   ·
    refine iX ?_;refine zC rfl rfl ?_;exact(yJ (fun e=>by have:=((e.2 l oM).2 i oM).1;omega)).symm
   refine go8 ?_;refine gcL (ι:=Nat×Mem) (fun(k,I)=>(MLe G I∧(k≤i∧∀v,v<k→¬(L.getD l []).getD i 0=(L.getD l []).getD v 0),[(0,vL),(3,vI ↑l),(4,H),(5,vI ↑i),(6,vI ↑k)],[],I,i-k)) (0,G) ?_ ?_
   · exact⟨mle,by omega,fun u h=>by omega⟩
   rintro⟨k,I⟩ ⟨aw,bn,O⟩
   refine yW ?_;refine gc8 (fun U=>?_) fun U=>?_
   ·
    refine go5 ?_;refine zL 9 _ [] [(0,.q),(1,.q),(2,.q),(3,.q),(4,.q),(5,.q),(6,.q),(7,.q),(8,.q)] yA nX (by kernel_rfl) nX (fun r hr=>hr) (go2 ?_);refine wX rfl (xI (0:Int) i underlying22 ty3 D) fun bg aj=>(wX rfl (xA ty3 aj) fun bf ai=>?_);obtain⟨rfl,ba,ar⟩:=jZ ai;refine go2 ?_;refine wX rfl (xI (0:Int) k underlying22 ty3 D) fun be ah=>(wX rfl (xA ty3 ah) fun bd ae=>?_);obtain⟨rfl,az,aq⟩:=jZ ae;refine gc3 (fun C=>?_) fun C=>?_
    ·
     refine zS7 ?_;refine zC rfl rfl ?_;exact(yJ (fun e=>((e.2 l oM).2 i oM).2 k oM C)).symm
    refine go8 ?_;refine gqL ((k+1),I) ?_ ?_
    · exact⟨mle,by omega,vG (Q:=fun v=>¬(L.getD l []).getD i 0=(L.getD l []).getD v 0) O C⟩
    omega
   refine qA ?_;refine gqL ((i+1),I) ?_ ?_
   · exact⟨mle,by omega,vG (Q:=fun u=>(0≤(L.getD l []).getD u 0∧(L.getD l []).getD u 0<512)∧∀k,k<u→¬(L.getD l []).getD u 0=(L.getD l []).getD k 0) hi2 ⟨by omega,fun k hk=>O k oM⟩⟩
   omega
  refine qA ?_;refine gqL ((l+1),G) ?_ ?_
  · exact⟨mle,by omega,vG (Q:=fun u=>lpP (L.getD u [])) M ⟨by omega,fun u hu=>hi2 u oM⟩⟩
  omega
 refine qA ?_;refine zC rfl rfl ?_;exact(xE ⟨by omega,fun u hu=>M u oM⟩).symm
theorem zKW{w0:World}{h0:Mem}(hs:MLe h0 (mem w0)){vF:Value}{F:(List (List (List Int)))}(rF:(rpS tII).Is h0 vF F):
 Calls Tryz.prog 180 #[vF] w0 (Ret w0 h0 (fun _ r=>r=vB (vaP F))):=by
 refine cb1 19 vF func180 hs ?_;refine rM ?_;refine cnd (fun O=>?_) fun O=>?_
 ·
  refine go7 ?_;refine zC rfl rfl ?_;exact(yJ (fun e=>by have:=e.1;omega)).symm
 refine go9 ?_;refine gcL (ι:=Nat×Mem) (fun(f,M)=>(MLe h0 M∧(f≤F.length∧∀u,u<f→vfP (F.getD u [])),[(0,vF),(3,vI ↑f)],[],M,F.length-f)) (0,h0) ?_ ?_
 · exact⟨mle,by omega,fun u h=>by omega⟩
 rintro⟨f,M⟩ ⟨U,ac,C⟩
 refine yW ?_;refine gc9 (fun D=>?_) fun D=>?_
 ·
  refine go8 ?_;refine lX (xI [] f underlying165 cK rF) fun aa J=>(lX (xA cK J) fun Z I=>(cL (ev1 rfl) call178 (fun w hs=>oL hs I) fun G h1 ab H=>?_));obtain rfl:G=vB (vfP (F.getD f [])):=H;refine gc3 (fun z=>?_) fun z=>?_
  ·
   refine qA ?_;refine zC rfl rfl ?_;exact(yJ (fun e=>z (e.2 f oM))).symm
  refine go8 ?_;refine gqL ((f+1),h1) ?_ ?_
  · exact⟨mle,by omega,vG (Q:=fun u=>vfP (F.getD u [])) C (Classical.not_not.1 z)⟩
  omega
 refine qA ?_;refine zC rfl rfl ?_;exact(xE ⟨by omega,fun u hu=>C u oM⟩).symm
theorem zCT{w0:World}{h0:Mem}(hs:MLe h0 (mem w0)){vF:Value}{F:(List (List (List Int)))}(rF:(rpS tII).Is h0 vF F)(hcd0:F.length≤1000)(hcd1:∀f,f<F.length→(F.getD f []).length≤16∧∀l,l<(F.getD f []).length→((F.getD f []).getD l []).length≤64):
 Calls Tryz.prog 135 #[vF] w0 (Ret w0 h0 (fun h r=>(rpS tE5).Is h r (edZ F))):=by
 refine cb1 56 vF func135 hs ?_;refine mW ?_;refine xH 168 5 ?_;have ac:=RL.nil (ρ:=rpP rpI (rpP rpI (rpP rpI (rpP rpI rpI)))) (h:=h0);refine gcL (ι:=Nat×List (Int×Int×Int×Int×Int)×Value×List Value×Mem) (fun(f,D0,G,I,ma)=>(MLe h0 ma∧(RL tE5 ma I D0∧f≤F.length∧D0=edF F f),[(0,vF),(3,G),(4,vI ↑f)],[.gs 168 5 G D0.length I],ma,F.length-f)) (0,[],(.slice none 0 0),[],h0) ?_ ?_
 · exact⟨mle,ac,by omega,rfl⟩
 rintro⟨f,D0,G,I,ma⟩ ⟨bg,O,ch,am⟩
 refine yW ?_;refine gc9 (fun aj=>?_) fun aj=>?_
 ·
  refine uA ?_;refine gcL (ι:=Nat×List (Int×Int×Int×Int×Int)×Value×List Value×Mem) (fun(l,D1,z,C,mb)=>(MLe ma mb∧(RL tE5 mb C D1∧l≤(F.getD f []).length∧D1=edF F f++edL (F.getD f []) f l),[(0,vF),(3,z),(4,vI ↑f),(5,vI ↑l)],[.gs 168 5 z D1.length C],mb,(F.getD f []).length-l)) (0,D0,G,I,ma) ?_ ?_
  · exact⟨mle,O,by omega,by rw[am];exact(List.append_nil _).symm⟩
  rintro⟨l,D1,z,C,mb⟩ ⟨bf,M,cf,ak⟩
  refine yW ?_;refine go6 ?_;refine lX (xI [] f underlying165 cK rF) fun bu ba=>(lX (xA cK ba) fun bt bv=>(gc4 (fun ai=>?_) fun ai=>?_))
  ·
   refine go8 ?_;refine lX (xI [] f underlying165 cK rF) fun bs az=>(lX (xA cK az) fun br ay=>(go1 ?_));refine lX (xI [] l underlying51 fG ay) fun bq ax=>(lX (xA fG ax) fun ap aa=>(go9 ?_));refine gcL (ι:=Nat×List (Int×Int×Int×Int×Int)×Value×List Value×Mem) (fun(i,D2,D,H,mc)=>(MLe mb mc∧(RL tE5 mc H D2∧i≤((F.getD f []).getD l []).length∧D2=edF F f++edL (F.getD f []) f l++edX ((F.getD f []).getD l []) f l i),[(0,vF),(3,D),(4,vI ↑f),(5,vI ↑l),(6,ap),(7,vI ↑i)],[.gs 168 5 D D2.length H],mc,((F.getD f []).getD l []).length-i)) (0,D1,z,C,mb) ?_ ?_
   · exact⟨mle,M,by omega,by rw[ak];exact(List.append_nil _).symm⟩
   rintro⟨i,D2,D,H,mc⟩ ⟨be,J,cg,ab⟩
   refine yW ?_;have ce:=j0 hcd1 f oM;have cd:=(hcd1 f oM).1;have cc:=zDM (hcd1 f oM).2 f l oM;have cb:=(hcd1 f oM).2 l oM;have ca:=zJC ((F.getD f []).getD l []) f l i;have bz:D2.length≤1100000:=by rw[ab,lAz,lAz];omega
   refine gc9 (fun ah=>?_) fun ah=>?_
   ·
    refine go4 ?_;refine qT (A:=[]) 20 [] [(0,.q),(1,.q),(2,.q),(3,.q),(4,.q),(5,.q),(6,.q),(7,.q),(8,.q),(9,.q),(10,.q),(11,.q),(12,.q),(13,.q),(14,.q),(15,.q),(16,.q),(17,.c),(18,.c),(19,.q)] yA nX (wI (by kernel_rfl)) nX (go3 ?_);refine wX rfl (xI (0:Int) i underlying22 ty3 aa) fun bp aw=>(wX rfl (xA ty3 aw) fun bo av=>?_);obtain⟨rfl,bi,bd⟩:=jZ av;refine go4 ?_;refine w_q rfl (fun h' L' hh hR=>uP underlying22 rfl (aa.up.mono hh)) rfl (xN rfl (fun _ _=>wJ rfl rfl oM oM) rfl (wX rfl (xI (0:Int) ((i+1)%((F.getD f []).getD l []).length) underlying22 ty3 aa (hi:=by exact Nat.mod_lt _ oM)) fun bn au=>(wX rfl (xA ty3 au) fun bm ar=>?_)));obtain⟨rfl,bh,bc⟩:=jZ ar;refine go3 ?_;refine wX rfl (xV (ρ:=tE5) (wG (ps':=[(0,_),(1,_),(2,_),(3,_),(4,_)]) underlying168 zBQ rfl rfl (zOG underlying168) e10 rfl (yI wD (yI wD (yI wD (yI wD wD)))) (zH rfl (Pc.fst (Pc.here _)) (jD oM oM) (zH rfl (Pc.snd (Pc.fst (Pc.here _))) (jD oM oM) (zH rfl (Pc.snd (Pc.snd (Pc.fst (Pc.here _)))) (jD oM oM) (zH rfl (Pc.snd (Pc.snd (Pc.snd (Pc.fst (Pc.here _))))) (jD oM oM) (zH rfl (Pc.snd (Pc.snd (Pc.snd (Pc.snd (Pc.here _))))) (jD oM oM) zW))))))) fun bl aq=>?_;refine w_c rfl (gM (fun X=>zU (ρ:=tE5) (m:=1) (xs:=[((((F.getD f []).getD l []).getD i (0:Int)),((((F.getD f []).getD l []).getD ((i+1)%((F.getD f []).getD l []).length) (0:Int)),((↑f:Int),((↑l:Int),(↑i:Int)))))]) (ps':=[(0,_)]) underlying163 zBQ rfl rfl rfl (yI wD (yI wD (yI wD (yI wD wD)))) e2z (zH rfl (Pc.arr (Pc.here _) e50 0 dC) aq zW) (show 1*5≤16777216 from by decide) nP) rfl ?_)
    rintro bk bx ⟨bj,rfl,ae⟩
    refine w_c rfl (vC (A:=[]) (ρ:=tE5) ae dK ?_);intro h1 bb Z;refine rQ (A:=[]) (fun X=>zX (ρ:=tE5) (bytes:=40) underlying163 zBQ rfl rfl rfl rfl nP rfl rfl J.up Z bO bO) rfl (wP (by first|(simp;done)|grind)) ?_
    rintro ao bw ⟨an,rfl,ad⟩
    refine go9 ?_;refine gqL ((i+1),(D2++[((((F.getD f []).getD l []).getD i (0:Int)),((((F.getD f []).getD l []).getD ((i+1)%((F.getD f []).getD l []).length) (0:Int)),((↑f:Int),((↑l:Int),(↑i:Int)))))]),ao,an,h1) ?_ ?_
    · exact⟨mle,ad,by omega,by rw[ab,List.append_assoc];rfl⟩
    omega
   have ei:i=((F.getD f []).getD l []).length:=by omega
   refine qA ?_;refine gqL ((l+1),D2,D,H,mc) ?_ ?_
   · exact⟨mle,J.up,by omega,by rw[ab,ei,List.append_assoc];rfl⟩
   omega
  have el:l=(F.getD f []).length:=by omega
  refine qA ?_;refine gqL ((f+1),D1,z,C,mb) ?_ ?_
  · exact⟨mle,M,by omega,by rw[ak,el];rfl⟩
  omega
 have ef:f=F.length:=by omega
 refine uQ ?_;refine vJ (A:=[]) (ρ:=tE5) O ?_;intro h1 bb U;refine zC rfl rfl ?_;exact(Rp.Is.cast U (by rw[am,ef];rfl))
theorem zCS{w0:World}{h0:Mem}(hs:MLe h0 (mem w0)){vE:Value}{E:(List (Int×(Int×(Int×(Int×Int)))))}(rE:(rpS tE5).Is h0 vE E){a:Int}(ha1:-9223372036854775808≤a)(ha2:a<9223372036854775808){b:Int}(hb1:-9223372036854775808≤b)(hb2:b<9223372036854775808)(hcd0:E.length≤1000000):
 Calls Tryz.prog 181 #[vE,vI a,vI b] w0 (Ret w0 h0 (fun _ r=>r=vI (tmZ E a b))):=by
 refine cb3 34 vE (vI a) (vI b) func181 hs ?_;refine mW ?_;refine gcL (ι:=Nat×Mem) (fun(m,D)=>(MLe h0 D∧(m≤E.length),[(0,vE),(1,vI a),(2,vI b),(7,vI (dL E a b m)),(8,vI ↑m)],[],D,E.length-m)) (0,h0) ?_ ?_
 · exact⟨mle,oM⟩
 rintro⟨m,D⟩ ⟨ad,G⟩
 refine yW ?_;have aq:=G;have ap:=dH E a b m;refine gc9 (fun I=>?_) fun I=>?_
 ·
  refine go8 ?_;refine lX (xI e50 m underlying163 eZ rE) fun ao aa=>(lX (xF underlying168 sizeOf3 (Pc.fst pH) aa) fun an Z=>(lX (xA ty3 Z) fun am U=>?_));obtain⟨rfl,ah,ac⟩:=jZ U;refine go2 ?_;refine gU 9 30 (vB ((((E.getD m e50).1)=a)∧((((E.getD m e50).2).1)=b))) ?_ ?_
  ·
   refine zS (((E.getD m e50).1)=a) (fun H=>?_) (fun H=>?_)
   ·
    refine gT H rfl (go5 ?_);refine lX (xI e50 m underlying163 eZ rE) fun ak O=>(go1 ?_);refine lX (xF underlying168 sizeOf3 (Pc.snd (Pc.fst pH)) O) fun aj M=>(go1 ?_);refine lX (xA ty3 M) fun ai J=>?_;obtain⟨rfl,ae,ab⟩:=jZ J;refine go6 ?_;refine gqU ?_;exact congrArg some (yU H)
   refine gF H rfl (go9 ?_);refine gqU ?_;exact congrArg some (yV H)
  refine gc2 (fun C=>?_) fun C=>?_
  ·
   refine uQ ?_;refine gqL ((m+1),D) ?_ ?_ (he:=⟨rfl,rfl,rfl,congrArg (fun z=>some (vI z)) (tm_t C),rfl,trivial⟩)
   · exact⟨mle,oM⟩
   omega
  refine go8 ?_;refine gqL ((m+1),D) ?_ ?_ (he:=⟨rfl,rfl,rfl,congrArg (fun z=>some (vI z)) (tm_f C),rfl,trivial⟩)
  · exact⟨mle,oM⟩
  omega
 refine uQ ?_;refine zC rfl rfl ?_;have em:m=E.length:=by omega
 subst em
 rfl
theorem zIE{w0:World}{h0:Mem}(hs:MLe h0 (mem w0)){vF:Value}{F:(List (List (List Int)))}(rF:(rpS tII).Is h0 vF F):
 Calls Tryz.prog 145 #[vF] w0 (Ret w0 h0 (fun h r=>(rpS tE5).Is h r (clZ F))):=by
 refine cb1 64 vF func145 hs ?_;refine go9 ?_;refine cL (ev1 rfl) call180 (fun w hs=>zKW hs rF) fun v7 h1 du r7=>?_;obtain rfl:v7=vB (vaP F):=r7;refine gc3 (fun aa=>?_) fun aa=>?_
 ·
  refine go2 ?_;refine lX (xV (ρ:=tE5) (wG (ps':=[(0,_),(1,_),(2,_),(3,_),(4,_)]) underlying200 qQ rfl rfl (s6 underlying200) e10 rfl (yI wD (yI wD (yI wD (yI wD wD)))) (zH rfl (Pc.fst (Pc.here _)) (jD dC dC) (zH rfl (Pc.snd (Pc.fst (Pc.here _))) (jD dC dC) (zH rfl (Pc.snd (Pc.snd (Pc.fst (Pc.here _)))) (jD dC dC) (zH rfl (Pc.snd (Pc.snd (Pc.snd (Pc.fst (Pc.here _))))) (jD dC dC) (zH rfl (Pc.snd (Pc.snd (Pc.snd (Pc.snd (Pc.here _))))) (jD dC dC) zW))))))) fun v9 r9=>(zI (zU (ρ:=tE5) (m:=1) (xs:=[((1:Int),((-1:Int),((-1:Int),((-1:Int),(-1:Int)))))]) (ps':=[(0,_)]) underlying133 qQ rfl rfl rfl (yI wD (yI wD (yI wD (yI wD wD)))) e2z (zH rfl (Pc.arr (Pc.here _) e50 0 dC) r9 zW) (show 1*5≤16777216 from by decide) nP) rfl rfl rfl ?_)
  rintro dl dp ⟨cj,rfl,ae⟩
  refine go5 ?_;refine vJ (A:=[]) (ρ:=tE5) ae ?_;intro h2 br U;refine zC rfl rfl ?_;exact(Rp.Is.cast U (by exact(if_neg aa).symm))
 refine uA ?_;have J:vaP F:=Classical.not_not.1 aa;have ab:∀f,f<F.length→(F.getD f []).length≤16∧∀l,l<(F.getD f []).length→((F.getD f []).getD l []).length≤64:=fun f hf=>⟨(J.2 f hf).1.2,fun l hl=>((J.2 f hf).2 l hl).1.2⟩;have dx:F.length≤256:=J.1;have dw:=j0 ab F.length (Nat.le_refl _);have dv:(edZ F).length≤262144:=by show(edF F F.length).length≤_;omega
 refine cL (ev1 rfl) call135 (fun w hs=>zCT hs rF.up (by first|omega|exact ab) (by first|omega|exact ab)) fun an h2 br C=>(uA ?_);refine xH 200 5 ?_;have Z:=RL.nil (ρ:=rpP rpI (rpP rpI (rpP rpI (rpP rpI rpI)))) (h:=h2);refine gcL (ι:=Nat×List (Int×Int×Int×Int×Int)×Value×List Value×Mem) (fun(i,D,z,G,ma)=>(MLe h2 ma∧(RL tE5 ma G D∧i≤(edZ F).length∧D=yA9 (edZ F) i),[(3,z),(4,an),(5,vI ↑i)],[.gs 200 5 z D.length G],ma,(edZ F).length-i)) (0,[],(.slice none 0 0),[],h2) ?_ ?_
 · exact⟨mle,Z,by omega,rfl⟩
 rintro⟨i,D,z,G,ma⟩ ⟨ca,H,dq,hD⟩
 refine yW ?_;have dy:D.length≤i:=by rw[hD];exact rO _ _ i
 refine gc9 (fun ah=>?_) fun ah=>?_
 ·
  refine go5 ?_;refine zL 25 _ [] [(0,.q),(1,.q),(2,.q),(3,.q),(4,.q),(5,.q),(6,.q),(7,.q),(8,.q),(9,.q),(10,.q),(12,.q),(13,.q),(14,.q),(15,.q),(16,.q),(17,.q),(18,.q),(19,.q),(20,.q),(21,.q),(22,.q),(11,.c),(23,.c),(24,.q)] yA nX (wI (by kernel_rfl)) nX (fun r hr=>hr) (go3 ?_);refine wX rfl (xI e50 i underlying163 eZ C) fun dk bn=>(wX rfl (xF underlying168 sizeOf3 (Pc.fst pH) bn) fun dj bm=>(wX rfl (xA ty3 bm) fun di bl=>?_));obtain⟨rfl,ch,bz⟩:=jZ bl;refine go2 ?_;refine wX rfl (xI e50 i underlying163 eZ C) fun dh bk=>(wX rfl (xF underlying168 sizeOf3 (Pc.snd (Pc.fst pH)) bk) fun df bj=>(wX rfl (xA ty3 bj) fun de bi=>?_));obtain⟨rfl,cg,bx⟩:=jZ bi;refine go3 ?_;refine wX rfl (xI e50 i underlying163 eZ C) fun dd bg=>(wX rfl (xF underlying168 sizeOf3 (Pc.snd (Pc.fst pH)) bg) fun dc bf=>(wX rfl (xA ty3 bf) fun db be=>?_));obtain⟨rfl,cf,bw⟩:=jZ be;refine go2 ?_;refine wX rfl (xI e50 i underlying163 eZ C) fun da bd=>(wX rfl (xF underlying168 sizeOf3 (Pc.fst pH) bd) fun cz bc=>(wX rfl (xA ty3 bc) fun cy bb=>?_));obtain⟨rfl,ce,bv⟩:=jZ bb;refine w_c rfl (sC (ev3 rfl rfl rfl) call181 (fun w hs=>zCS hs C.up oM oM oM oM oM) fun am h3 bq bh=>?_);obtain rfl:am=vI (tmZ (edZ F) (((edZ F).getD i e50).1) ((((edZ F).getD i e50).2).1)):=bh;have bp:=dH (edZ F) (((edZ F).getD i e50).1) ((((edZ F).getD i e50).2).1) (edZ F).length;refine w_c rfl (sC (ev3 rfl rfl rfl) call181 (fun w hs=>zCS hs C.up oM oM oM oM oM) fun ak h4 dt ba=>?_);obtain rfl:ak=vI (tmZ (edZ F) ((((edZ F).getD i e50).2).1) (((edZ F).getD i e50).1)):=ba;have bo:=dH (edZ F) ((((edZ F).getD i e50).2).1) (((edZ F).getD i e50).1) (edZ F).length;refine gc3 (fun I=>?_) fun I=>?_
  ·
   refine qT (A:=[]) 20 [] [(0,.q),(1,.q),(2,.q),(3,.q),(4,.q),(5,.q),(6,.q),(7,.q),(8,.q),(9,.q),(10,.q),(11,.q),(12,.q),(13,.q),(14,.q),(15,.q),(16,.q),(17,.c),(18,.c),(19,.q)] yA nX (wI (by kernel_rfl)) nX (go3 ?_);refine wX rfl (xI e50 i underlying163 eZ C) fun cw az=>(wX rfl (xF underlying168 sizeOf3 (Pc.snd (Pc.snd (Pc.fst pH))) az) fun cv ay=>(wX rfl (xA ty3 ay) fun cu ax=>?_));obtain⟨rfl,cd,bu⟩:=jZ ax;refine go2 ?_;refine wX rfl (xI e50 i underlying163 eZ C) fun ct aw=>(wX rfl (xF underlying168 sizeOf3 (Pc.snd (Pc.snd (Pc.snd (Pc.fst pH)))) aw) fun cq av=>(wX rfl (xA ty3 av) fun cp au=>?_));obtain⟨rfl,cc,bt⟩:=jZ au;refine go2 ?_;refine wX rfl (xI e50 i underlying163 eZ C) fun co ar=>(wX rfl (xF underlying168 sizeOf3 (Pc.snd (Pc.snd (Pc.snd (Pc.snd pH)))) ar) fun cn aq=>(wX rfl (xA ty3 aq) fun cm ap=>?_));obtain⟨rfl,cb,bs⟩:=jZ ap;refine wX rfl (xV (ρ:=tE5) (wG (ps':=[(0,_),(1,_),(2,_),(3,_),(4,_)]) underlying200 qQ rfl rfl (s6 underlying200) e10 rfl (yI wD (yI wD (yI wD (yI wD wD)))) (zH rfl (Pc.fst (Pc.here _)) (jD dC dC) (zH rfl (Pc.snd (Pc.fst (Pc.here _))) (jD dC dC) (zH rfl (Pc.snd (Pc.snd (Pc.fst (Pc.here _)))) (jD oM oM) (zH rfl (Pc.snd (Pc.snd (Pc.snd (Pc.fst (Pc.here _))))) (jD oM oM) (zH rfl (Pc.snd (Pc.snd (Pc.snd (Pc.snd (Pc.here _))))) (jD oM oM) zW))))))) fun cl ao=>?_;refine w_c rfl (gM (fun X=>zU (ρ:=tE5) (m:=1) (xs:=[((30:Int),((-1:Int),((((((edZ F).getD i e50).2).2).1),(((((((edZ F).getD i e50).2).2).2).1),((((((edZ F).getD i e50).2).2).2).2)))))]) (ps':=[(0,_)]) underlying133 qQ rfl rfl rfl (yI wD (yI wD (yI wD (yI wD wD)))) e2z (zH rfl (Pc.arr (Pc.here _) e50 0 dC) ao zW) (show 1*5≤16777216 from by decide) nP) rfl ?_)
   rintro ck dn ⟨ci,rfl,ad⟩
   refine w_c rfl (vC (A:=[]) (ρ:=tE5) ad dK ?_);intro h5 dr O;refine rQ (A:=[]) (fun X=>zX (ρ:=tE5) (bytes:=40) underlying133 qQ rfl rfl rfl rfl nP rfl rfl H.up O bO bO) rfl (wP (by first|(simp;done)|grind)) ?_
   rintro aj dm ⟨ai,rfl,ac⟩
   refine go9 ?_;refine gqL ((i+1),(D++[((30:Int),((-1:Int),((((((edZ F).getD i e50).2).2).1),(((((((edZ F).getD i e50).2).2).2).1),((((((edZ F).getD i e50).2).2).2).2)))))]),aj,ai,h5) ?_ ?_
   · exact⟨mle,ac,by omega,by rw[hD];exact dT I⟩
   omega
  refine go8 ?_;refine gqL ((i+1),D,z,G,h4) ?_ ?_
  · exact⟨mle,H.up,by omega,by rw[hD];exact dU I⟩
  omega
 refine uQ ?_;refine vJ (A:=[]) (ρ:=tE5) H.up ?_;intro h3 bq M;refine zC rfl rfl ?_;exact(Rp.Is.cast M (by rw[hD,show i=(edZ F).length by omega];exact(if_pos J).symm))
end Go.Proofs.YtpkaegemlpaenaaGreat
namespace Go.Proofs.YtpkaegemlpaenaaGreat
open Bk Go Tryz
set_option linter.unusedVariables false
set_option linter.unusedSimpArgs false
set_option maxRecDepth 10000
set_option maxHeartbeats 1000000
attribute [local irreducible] GL GC GQ W OpV
theorem zD9{w0:World}{h0:Mem}(hs:MLe h0 (mem w0)){vL:Value}{L:(List (List Int))}(rL:tII.Is h0 vL L)(hcd0:L.length≤100000)(hcd1:∀x,x∈L→x.length≤100000):
 Calls Tryz.prog 99 #[vL] w0 (Ret w0 h0 (fun h r=>tII.Is h r L)):=by
 refine cb1 20 vL func99 hs ?_;refine mW ?_;refine xH 22 1 ?_;have O:=RL.nil (ρ:=rpS rpI) (h:=h0);refine gcL (ι:=Nat×List (List Int)×Value×List Value×Mem) (fun(i,D,z,C,mi)=>(MLe h0 mi∧(RL (rpS rpI) mi C D∧i≤L.length∧D=L.take i),[(0,vL),(3,z),(4,vI ↑i)],[.gs 22 1 z D.length C],mi,L.length-i)) (0,[],(.slice none 0 0),[],h0) ?_ ?_
 · exact⟨mle,O,by omega,rfl⟩
 rintro⟨i,D,z,C,mi⟩ ⟨aj,G,ax,hD⟩
 refine yW ?_;have az:=zTA hcd1 i;have aw:D.length≤i:=by rw[hD,List.length_take];omega
 refine gc9 (fun ai=>?_) fun ai=>?_
 ·
  refine go8 ?_;refine lX (xI [] i underlying51 fG rL) fun aq ae=>(lX (xA fG ae) fun ap ad=>(zFF 3 1 ?_));have M:=RL.nil (ρ:=rpI) (h:=mi);refine xK (A:=[]) (zX (ρ:=rpI) (bytes:=8) underlying22 fO rfl rfl rfl rfl nP rfl rfl M ad bO bO) rfl rfl rfl ?_
  rintro ao av ⟨am,rfl,aa⟩
  refine zY (A:=[]) (ρ:=rpI) aa ?_;intro h1 ah J;refine zI (zU (ρ:=(rpS rpI)) (m:=1) (xs:=[(([]:List Int)++(L.getD i []))]) (ps':=[(0,_)]) underlying51 jP rfl rfl rfl uV e2z (zH rfl (Pc.arr (Pc.here _) [] 0 dC) J zW) (show 1*1≤16777216 from by decide) nP) rfl rfl rfl ?_
  rintro an au ⟨ak,rfl,Z⟩
  refine zY (A:=[]) (ρ:=(rpS rpI)) Z ?_;intro h2 ay I;refine xK (A:=[]) (zX (ρ:=(rpS rpI)) (bytes:=24) underlying51 jP rfl rfl rfl rfl nP rfl rfl G.up I bO bO) rfl rfl rfl ?_
  rintro ac ar ⟨ab,rfl,U⟩
  refine go9 ?_;refine gqL ((i+1),(D++[(([]:List Int)++(L.getD i []))]),ac,ab,h2) ?_ ?_
  · exact⟨mle,U,by omega,by rw[hD,List.nil_append];exact(zNY [] oM).symm⟩
  omega
 have ei:i=L.length:=by omega
 refine uQ ?_;refine vJ (A:=[]) (ρ:=(rpS rpI)) G.up ?_;intro h1 ah H;refine zC rfl rfl ?_;exact(Rp.Is.cast H (by rw[hD,ei,List.take_length]))
theorem zE5{w0:World}{h0:Mem}(hs:MLe h0 (mem w0)){k m n j:Nat}{vs:Value}{s:Sq}(rs:(tSd k m n j).Is h0 vs s)(hcd0:s.2.1.length≤100000)(hcd1:∀f,f<s.2.1.length→(s.2.1.getD f zA).2.1.length≤100000∧∀x,x∈(s.2.1.getD f zA).2.1→x.length≤100000):
 Calls Tryz.prog 136 #[vs] w0 (Ret w0 h0 (fun h r=>(rpS tII).Is h r (wZ s))):=by
 refine cb1 23 vs func136 hs ?_;refine go2 ?_;refine nB rs fun b1 ak U=>(rV ?_);refine xH 51 1 ?_;have J:=RL.nil (ρ:=rpS (rpS rpI)) (h:=h0);refine gcL (ι:=Nat×List (List (List Int))×Value×List Value×Mem) (fun(f,D,z,C,mf)=>(MLe h0 mf∧(RL tII mf C D∧f≤s.2.1.length∧D=jL (fun f=>(s.2.1.getD f zA).2.1) f),[(1,vP b1 0),(3,z),(4,vI ↑f)],[.gs 51 1 z D.length C,.var b1 39 ak],mf,s.2.1.length-f)) (0,[],(.slice none 0 0),[],h0) ?_ ?_
 · exact⟨mle,J,by omega,rfl⟩
 rintro⟨f,D,z,C,mf⟩ ⟨am,G,ba,hD⟩
 refine yW ?_;have ay:D.length=f:=by rw[hD];exact xL _ _
 refine go5 ?_;refine lX (xB tT (Pc.snd (Pc.fst pH)) U) fun v7 r7=>(gc4 (fun aj=>?_) fun aj=>?_)
 ·
  refine go7 ?_;refine lX (xB tT (Pc.snd (Pc.fst pH)) U) fun av ah=>(go1 ?_);refine lX (xI zA f underlying36 bG ah) fun au ae=>(lX (xF underlying53 sizeOf51 (Pc.snd (Pc.fst pH)) ae) fun ar ad=>(lX (xA cK ad) fun aq ac=>(cL (ev1 rfl) call99 (fun w hs=>zD9 hs ac (by first|omega|exact(hcd1 f oM).1|exact(hcd1 f oM).2) (by first|omega|exact(hcd1 f oM).1|exact(hcd1 f oM).2)) fun ap h1 ai ab=>(zI (zU (ρ:=tII) (m:=1) (xs:=[(((s.2.1.getD f zA).2).1)]) (ps':=[(0,_)]) underlying165 zLO rfl rfl rfl uV e2z (zH rfl (Pc.arr (Pc.here _) [] 0 dC) ab zW) (show 1*1≤16777216 from by decide) nP) rfl rfl rfl ?_))))
  rintro ao ax ⟨an,rfl,O⟩
  refine zY (A:=[]) (ρ:=tII) O ?_;intro h2 az I;refine xK (A:=[]) (zX (ρ:=tII) (bytes:=24) underlying165 zLO rfl rfl rfl rfl nP rfl rfl G.up I bO bO) rfl rfl rfl ?_
  rintro aa aw ⟨Z,rfl,M⟩
  refine go9 ?_;refine gqL ((f+1),(D++[(((s.2.1.getD f zA).2).1)]),aa,Z,h2) ?_ ?_
  · exact⟨mle,M,by omega,by rw[hD];rfl⟩
  omega
 have ef:f=s.2.1.length:=by omega
 refine uQ ?_;refine vJ (A:=[]) (ρ:=tII) G.up ?_;intro h1 ai H;refine zC rfl rfl ?_;exact(Rp.Is.cast H (by rw[hD,ef];rfl))
theorem zE4{w0:World}{h0:Mem}(hs:MLe h0 (mem w0)){k m n j:Nat}{vs:Value}{s:Sq}(rs:(tSd k m n j).Is h0 vs s){f:Int}(hf1:-9223372036854775808≤f)(hf2:f<9223372036854775808)(hcd0:0≤f)(hcd1:f<↑s.2.1.length)(hcd2:(s.2.1.getD f.toNat zA).2.1.length≤100000)(hcd3:∀l,l<(s.2.1.getD f.toNat zA).2.1.length→((s.2.1.getD f.toNat zA).2.1.getD l []).length≤100000):
 Calls Tryz.prog 158 #[vs,vI f] w0 (Ret w0 h0 (fun _ r=>r=vB (nmP s f.toNat))):=by
 refine cb2 50 vs (vI f) func158 hs ?_;refine go2 ?_;refine nB rs fun b2 Z G=>(go6 ?_);refine lX (xB tT (Pc.snd (Pc.fst pH)) G) fun v9 r9=>(go1 ?_);refine lX (xI zA f.toNat underlying36 bG r9) fun bj ao=>(lX (xF underlying53 sizeOf51 (Pc.snd (Pc.fst pH)) ao) fun bi an=>(lX (xA cK an) fun D C=>(uA ?_)));refine gcL (ι:=Nat×Mem) (fun(l,I)=>(MLe h0 I∧(l≤(s.2.1.getD f.toNat zA).2.1.length∧∀u,u<l→nmL s.1.length ((s.2.1.getD f.toNat zA).2.1.getD u [])),[(2,vP b2 0),(5,D),(6,vI ↑l)],[.var b2 39 Z],I,(s.2.1.getD f.toNat zA).2.1.length-l)) (0,h0) ?_ ?_
 · exact⟨mle,by omega,fun u h=>by omega⟩
 rintro⟨l,I⟩ ⟨au,bm,J⟩
 refine yW ?_;refine gc9 (fun U=>?_) fun U=>?_
 ·
  refine uA ?_;refine gcL (ι:=Nat×Mem) (fun(i,H)=>(MLe I H∧(i≤((s.2.1.getD f.toNat zA).2.1.getD l []).length∧∀u,u<i→0≤((s.2.1.getD f.toNat zA).2.1.getD l []).getD u 0∧((s.2.1.getD f.toNat zA).2.1.getD l []).getD u 0<↑s.1.length),[(2,vP b2 0),(5,D),(6,vI ↑l),(7,vI ↑i)],[.var b2 39 Z],H,((s.2.1.getD f.toNat zA).2.1.getD l []).length-i)) (0,I) ?_ ?_
  · exact⟨mle,by omega,fun u h=>by omega⟩
  rintro⟨i,H⟩ ⟨ar,bn,hi2⟩
  refine yW ?_;have bl:=hcd3 l oM;refine go6 ?_;refine lX (xI [] l underlying51 fG C) fun bh am=>(lX (xA fG am) fun bg bk=>(gc4 (fun O=>?_) fun O=>?_))
  ·
   refine go5 ?_;refine zL 21 _ [] [(0,.q),(1,.q),(2,.q),(3,.q),(4,.q),(5,.q),(6,.q),(7,.q),(8,.q),(9,.q),(10,.q),(11,.q),(12,.q),(13,.q),(14,.q),(15,.q),(16,.q),(17,.q),(18,.q),(19,.q),(20,.q)] yA nX (wI (by kernel_rfl)) nX (fun r hr=>hr) (go2 ?_);refine wX rfl (xI [] l underlying51 fG C) fun bf ak=>(wX rfl (xA fG ak) fun be aj=>(go1 ?_));refine wX rfl (xI (0:Int) i underlying22 ty3 aj) fun bd ai=>(wX rfl (xA ty3 ai) fun bc ah=>?_);obtain⟨rfl,aw,aq⟩:=jZ ah;refine go2 ?_;refine qW ((((((s.2.1.getD f.toNat zA).2).1).getD l []).getD i (0:Int))<(0:Int)) (fun z=>?_) (fun z=>?_)
   ·
    rw[xE z];refine go30 ?_;refine zC rfl rfl ?_;exact(yJ (fun e=>by have:=e l oM i oM;omega)).symm
   rw[yJ z];refine yM rfl rfl rfl (fun h' L' hh hR=>yQ rfl) rfl (yM rfl rfl rfl (fun h' L' hh hR=>yQ rfl) rfl (oX rfl (xI [] l underlying51 fG C) fun bb ae=>(oX rfl (xA fG ae) fun ba ad=>(yM rfl rfl rfl (fun h' L' hh hR=>yQ rfl) rfl (oX rfl (xI (0:Int) i underlying22 ty3 ad) fun az ac=>(oX rfl (xA ty3 ac) fun ay ab=>?_))))));obtain⟨rfl,av,ap⟩:=jZ ab;refine go1 ?_;refine oX rfl (xB uJ (Pc.fst pH) G) fun ax aa=>(yM rfl rfl rfl (fun h' L' hh hR=>uP underlying35 rfl (aa.mono hh)) rfl (gc4 (fun M=>?_) fun M=>?_))
   ·
    refine rV ?_;refine zC rfl rfl ?_;exact(yJ (fun e=>by have:=e l oM i oM;omega)).symm
   refine go8 ?_;refine gqL ((i+1),H) ?_ ?_
   · exact⟨mle,by omega,vG (Q:=fun u=>0≤((s.2.1.getD f.toNat zA).2.1.getD l []).getD u 0∧((s.2.1.getD f.toNat zA).2.1.getD l []).getD u 0<↑s.1.length) hi2 oM⟩
   omega
  refine qA ?_;refine gqL ((l+1),H) ?_ ?_
  · exact⟨mle,by omega,vG (Q:=fun u=>nmL s.1.length ((s.2.1.getD f.toNat zA).2.1.getD u [])) J (fun u hu=>hi2 u oM)⟩
  omega
 refine qA ?_;refine zC rfl rfl ?_;exact(xE (fun u hu=>J u oM)).symm
theorem zA2{w0:World}{h0:Mem}(hs:MLe h0 (mem w0)){k m n j:Nat}{vs:Value}{s:Sq}(rs:(tSd k m n j).Is h0 vs s){f:Int}(hf1:-9223372036854775808≤f)(hf2:f<9223372036854775808)(hcd0:s.1.length≤100000)(hcd1:∀f,f<s.2.1.length→(s.2.1.getD f zA).2.1.length≤10000∧∀l,l<(s.2.1.getD f zA).2.1.length→((s.2.1.getD f zA).2.1.getD l []).length≤10000):
 Calls Tryz.prog 118 #[vs,vI f] w0 (Ret w0 h0 (fun h r=>(tLL (k+1)).Is h r (uH s f))):=by
 refine cb2 65 vs (vI f) func118 hs ?_;refine go2 ?_;refine nB rs fun b2 ak Z=>(go8 ?_);refine gU 7 18 (vB ((f<(0:Int))∨((↑(s.2.1).length:Int)≤f))) ?_ ?_
 ·
  refine zS (f<(0:Int)) (fun O=>?_) (fun O=>?_)
  ·
   refine gT O rfl (go7 ?_);refine gqU ?_;exact congrArg some (wU O)
  refine gF O rfl (go5 ?_);refine lX (xB tT (Pc.snd (Pc.fst pH)) Z) fun cp ct=>(go6 ?_);refine gqU ?_;exact congrArg some (wV O)
 refine uS (ι:=Mem) 6 (fun m_=>MLe h0 m_) (fun _=>[(24,vB (((f<(0:Int))∨((↑(s.2.1).length:Int)≤f))∨(¬(nmP s f.toNat)))),(1,vI f),(2,vP b2 0)]) (fun _=>[.var b2 39 ak]) (fun m_=>m_) ?_ ?_
 ·
  refine zS ((f<(0:Int))∨((↑(s.2.1).length:Int)≤f)) (fun O=>?_) (fun O=>?_)
  ·
   refine gT O rfl (go6 ?_);refine zQ h0 (MLe.refl _) ⟨?_,rfl,rfl,trivial⟩ rfl rfl;exact congrArg some (wU O)
  refine gF O rfl (go1 ?_);refine lX (xB fF pH Z) fun co br=>(go3 ?_);refine cL (ev2 rfl rfl) call158 (fun w hs=>zE4 hs br oM oM oM (by first|omega|exact Nat.le_trans (hcd1 f.toNat oM).1 dC|exact fun l hl=>Nat.le_trans ((hcd1 f.toNat oM).2 l hl) dC) (by first|omega|exact Nat.le_trans (hcd1 f.toNat oM).1 dC|exact fun l hl=>Nat.le_trans ((hcd1 f.toNat oM).2 l hl) dC) (by first|omega|exact Nat.le_trans (hcd1 f.toNat oM).1 dC|exact fun l hl=>Nat.le_trans ((hcd1 f.toNat oM).2 l hl) dC)) fun be h1 aa bq=>?_;obtain rfl:be=vB (nmP s f.toNat):=bq;refine go4 ?_;refine zQ h1 aa ⟨?_,rfl,rfl,trivial⟩ rfl rfl;exact congrArg some (wV O)
 intro H aw;refine sE ?_;refine gc2 (fun U=>?_) fun U=>?_
 ·
  refine go7 ?_;refine zC rfl rfl ?_;exact(Rp.Is.cast (mD _) (by exact(if_neg (fun e=>U.elim (fun h=>by omega) (fun h=>h e.2))).symm))
 have au:(0≤f∧f<↑s.2.1.length)∧nmP s f.toNat:=by constructor;exact oM;exact Classical.not_not.1 (fun e=>U (.inr e))
 have av:∀l,l<(s.2.1.getD f.toNat zA).2.1.length→∀q,q<((s.2.1.getD f.toNat zA).2.1.getD l []).length→0≤((s.2.1.getD f.toNat zA).2.1.getD l []).getD q 0∧((s.2.1.getD f.toNat zA).2.1.getD l []).getD q 0<↑s.1.length:=fun l hl q hq=>au.2 l hl q hq;have ax:=hcd1 f.toNat oM;refine uA ?_;refine lX (xB tT (Pc.snd (Pc.fst pH)) Z) fun cn bp=>(go1 ?_);refine lX (xI zA f.toNat underlying36 bG bp) fun cm bo=>(lX (xF underlying53 sizeOf51 (Pc.snd (Pc.fst pH)) bo) fun cl bn=>(lX (xA cK bn) fun am ar=>(uA ?_)));refine xH 35 1 ?_;have ai:=RL.nil (ρ:=rpS (tPt (k+1))) (h:=H);refine gcL (ι:=Nat×List (List Tq)×Value×List Value×Mem) (fun(l,D,z,C,ml)=>(MLe H ml∧(RL (tLs (k+1)) ml C D∧l≤(s.2.1.getD f.toNat zA).2.1.length∧D=zEK s f.toNat l),[(2,vP b2 0),(5,z),(6,am),(7,vI ↑l)],[.gs 35 1 z D.length C,.var b2 39 ak],ml,(s.2.1.getD f.toNat zA).2.1.length-l)) (0,[],(.slice none 0 0),[],H) ?_ ?_
 · exact⟨mle,ai,by omega,rfl⟩
 rintro⟨l,D,z,C,ml⟩ ⟨bv,M,dc,hD⟩
 refine yW ?_;have db:D.length=l:=by rw[hD];exact xL _ _
 refine gc9 (fun az=>?_) fun az=>?_
 ·
  refine iX ?_;refine xH 31 9 ?_;have ah:=RL.nil (ρ:=rpT (rpQ (k+1))) (h:=ml);refine gcL (ι:=Nat×List Tq×Value×List Value×Mem) (fun(q,YY,G,I,mq)=>(MLe ml mq∧(RL (tPt (k+1)) mq I YY∧q≤((s.2.1.getD f.toNat zA).2.1.getD l []).length∧YY=zF7 s.1 ((s.2.1.getD f.toNat zA).2.1.getD l []) q),[(2,vP b2 0),(5,z),(6,am),(7,vI ↑l),(8,G),(9,vI ↑q)],[.gs 31 9 G YY.length I,.gs 35 1 z D.length C,.var b2 39 ak],mq,((s.2.1.getD f.toNat zA).2.1.getD l []).length-q)) (0,[],(.slice none 0 0),[],ml) ?_ ?_
  · exact⟨mle,ah,by omega,rfl⟩
  rintro⟨q,YY,G,I,mq⟩ ⟨bu,J,cz,aj⟩
  refine yW ?_;have da:YY.length=q:=by rw[aj];exact xL _ _
  have bs:=ax.2 l oM;refine go6 ?_;refine lX (xI [] l underlying51 fG ar) fun ck bm=>(lX (xA fG bm) fun cj cq=>(gc4 (fun ay=>?_) fun ay=>?_))
  ·
   refine go4 ?_;refine qT (A:=[]) 15 [] [(0,.q),(1,.q),(2,.q),(3,.q),(4,.q),(5,.q),(6,.q),(7,.q),(8,.q),(9,.q),(10,.q),(11,.q),(12,.c),(13,.c),(14,.q)] yA nX (wI (by kernel_rfl)) nX (go2 ?_);refine wX rfl (xB uJ (Pc.fst pH) Z) fun ci bl=>(go2 ?_);refine wX rfl (xI [] l underlying51 fG ar) fun ch bk=>(wX rfl (xA fG bk) fun cg bj=>(go1 ?_));refine wX rfl (xI (0:Int) q underlying22 ty3 bj) fun cf bi=>(wX rfl (xA ty3 bi) fun ce bh=>?_);obtain⟨rfl,bw,bt⟩:=jZ bh;refine mS (F:=fun v_=>AtP (tPt k) mq v_ (s.1.getD ((((s.2.1.getD f.toNat zA).2.1.getD l []).getD q 0).toNat) zT)) rfl (bN zT ((((s.2.1.getD f.toNat zA).2.1.getD l []).getD q 0).toNat) underlying35 zN rfl rfl bl (by(have h:=av l oM q oM;omega)) (by(have h:=av l oM q oM;omega)) nP) zC6 rfl ?_;intro cd bg;refine wX rfl (xA zN bg) fun cc bf=>?_;refine w_c rfl (gM (fun X=>zU (ρ:=(tPt (k+1))) (m:=1) (xs:=[(s.1.getD ((((s.2.1.getD f.toNat zA).2.1.getD l []).getD q 0).toNat) zT)]) (ps':=[(0,_)]) underlying35 yX rfl rfl rfl (wB (yN oM)) e2z (zH rfl (Pc.arr (Pc.here _) zT 0 dC) (bf.le (Le.t (Le.q (l:=k+1) oM))) zW) (show 1*9≤16777216 from by decide) nP) rfl ?_)
   rintro cb cy ⟨bz,rfl,aq⟩
   refine w_c rfl (vC (A:=[]) (ρ:=(tPt (k+1))) aq dK ?_);intro h1 aa ae;refine rQ (A:=[]) (fun X=>zX (ρ:=(tPt (k+1))) (bytes:=168) underlying35 yX rfl rfl rfl rfl nP rfl rfl J.up ae bO bO) rfl (wP (by first|(simp;done)|grind)) ?_
   rintro bd cw ⟨bb,rfl,ap⟩
   refine go9 ?_;refine gqL ((q+1),(YY++[(s.1.getD ((((s.2.1.getD f.toNat zA).2.1.getD l []).getD q 0).toNat) zT)]),bd,bb,h1) ?_ ?_
   · exact⟨mle,ap,by omega,by rw[aj];rfl⟩
   omega
  have eq:q=((s.2.1.getD f.toNat zA).2.1.getD l []).length:=by omega
  have bs:=ax.2 l oM;refine go8 ?_;refine zY (A:=[]) (ρ:=(tPt (k+1))) J.up ?_;intro h1 aa ad;refine zI (zU (ρ:=(tLs (k+1))) (m:=1) (xs:=[YY]) (ps':=[(0,_)]) underlying76 oP rfl rfl rfl uV e2z (zH rfl (Pc.arr (Pc.here _) [] 0 dC) ad zW) (show 1*1≤16777216 from by decide) nP) rfl rfl rfl ?_
  rintro ca cv ⟨bx,rfl,ao⟩
  refine zY (A:=[]) (ρ:=(tLs (k+1))) ao ?_;intro h2 dd ac;refine xK (A:=[]) (zX (ρ:=(tLs (k+1))) (bytes:=24) underlying76 oP rfl rfl rfl rfl nP rfl rfl M.up ac bO bO) rfl rfl rfl ?_
  rintro bc cu ⟨ba,rfl,an⟩
  refine go9 ?_;refine gqL ((l+1),(D++[YY]),bc,ba,h2) ?_ ?_
  · exact⟨mle,an,by omega,by rw[hD,aj,eq];rfl⟩
  omega
 have el:l=(s.2.1.getD f.toNat zA).2.1.length:=by omega
 refine uQ ?_;refine vJ (A:=[]) (ρ:=(tLs (k+1))) M.up ?_;intro h1 aa ab;refine zC rfl rfl ?_;exact(Rp.Is.cast ab (by rw[hD,el];exact(if_pos au).symm))
theorem zBB{w0:World}{h0:Mem}(hs:MLe h0 (mem w0)){m n k:Nat}{vpl:Value}{pl:Pq}(rpl:(tPl m n).Is h0 vpl pl){vl:Value}{l:(List Tq)}(rl:(tLs k).Is h0 vl l)(hcd0:k≤100000000)(hcd1:m≤100000000)(hcd2:n≤100000000)(hcd3:l.length≤100000):
 Calls Tryz.prog 187 #[vpl,vl] w0 (Ret w0 h0 (fun h r=>(tLs (k+1)).Is h r (flA pl l l.length))):=by
 refine cb2 23 vpl vl func187 hs ?_;refine go2 ?_;refine nB rpl fun b2 aj ab=>(rV ?_);refine xH 31 9 ?_;have J:=RL.nil (ρ:=rpT (rpQ (k+1))) (h:=h0);refine gcL (ι:=Nat×List Tq×Value×List Value×Mem) (fun(i,D,z,C,mi)=>(MLe h0 mi∧(RL (tPt (k+1)) mi C D∧i≤l.length∧D=flA pl l i),[(1,vl),(2,vP b2 0),(5,z),(6,vI ↑i)],[.gs 31 9 z D.length C,.var b2 50 aj],mi,l.length-i)) (0,[],(.slice none 0 0),[],h0) ?_ ?_
 · exact⟨mle,J,by omega,rfl⟩
 rintro⟨i,D,z,C,mi⟩ ⟨ak,G,aw,hD⟩
 refine yW ?_;have ay:D.length=i:=by rw[hD];exact xL _ _
 refine gc9 (fun U=>?_) fun U=>?_
 ·
  refine go4 ?_;refine qT (A:=[]) 10 [] [(0,.q),(1,.q),(2,.q),(3,.q),(4,.q),(5,.q),(6,.c),(7,.c),(8,.c),(9,.q)] yA nX (by kernel_rfl) nX (go1 ?_);refine wX rfl (xB dE pH ab) fun ar ah=>(go2 ?_);refine wX rfl (xI zT i underlying35 zN rl) fun aq ae=>(wX rfl (xA zN ae) fun ap ad=>?_);refine w_c rfl (sC (ev2 rfl rfl) call112 (fun w hs=>zGJ hs ah ad oM oM) fun ao h1 ai ac=>?_);refine w_c rfl (gM (fun X=>zU (ρ:=(tPt (k+1))) (m:=1) (xs:=[qY pl (l.getD i zT)]) (ps':=[(0,_)]) underlying35 yX rfl rfl rfl (wB (yN oM)) e2z (zH rfl (Pc.arr (Pc.here _) zT 0 dC) ac zW) (show 1*9≤16777216 from by decide) nP) rfl ?_)
  rintro an av ⟨am,rfl,O⟩
  refine w_c rfl (vC (A:=[]) (ρ:=(tPt (k+1))) O dK ?_);intro h2 ax I;refine rQ (A:=[]) (fun X=>zX (ρ:=(tPt (k+1))) (bytes:=168) underlying35 yX rfl rfl rfl rfl nP rfl rfl G.up I bO bO) rfl (wP (by first|(simp;done)|grind)) ?_
  rintro aa au ⟨Z,rfl,M⟩
  refine go9 ?_;refine gqL ((i+1),(D++[qY pl (l.getD i zT)]),aa,Z,h2) ?_ ?_
  · exact⟨mle,M,by omega,by rw[hD];rfl⟩
  omega
 have ei:i=l.length:=by omega
 refine uQ ?_;refine vJ (A:=[]) (ρ:=(tPt (k+1))) G.up ?_;intro h1 ai H;refine zC rfl rfl ?_;exact(Rp.Is.cast H (by rw[hD,ei]))
theorem y0{w0:World}{h0:Mem}(hs:MLe h0 (mem w0)){m n k:Nat}{vpl:Value}{pl:Pq}(rpl:(tPl m n).Is h0 vpl pl){vL:Value}{L:(List (List Tq))}(rL:(tLL k).Is h0 vL L)(hcd0:k≤100000000)(hcd1:m≤100000000)(hcd2:n≤100000000)(hcd3:L.length≤100000)(hcd4:∀l,l<L.length→(L.getD l []).length≤10000):
 Calls Tryz.prog 151 #[vpl,vL] w0 (Ret w0 h0 (fun h r=>(tLL (k+1)).Is h r (flL pl L L.length))):=by
 refine cb2 23 vpl vL func151 hs ?_;refine go2 ?_;refine nB rpl fun b2 aj ab=>(rV ?_);refine xH 35 1 ?_;have J:=RL.nil (ρ:=rpS (tPt (k+1))) (h:=h0);refine gcL (ι:=Nat×List (List Tq)×Value×List Value×Mem) (fun(i,D,z,C,mi)=>(MLe h0 mi∧(RL (tLs (k+1)) mi C D∧i≤L.length∧D=flL pl L i),[(1,vL),(2,vP b2 0),(5,z),(6,vI ↑i)],[.gs 35 1 z D.length C,.var b2 50 aj],mi,L.length-i)) (0,[],(.slice none 0 0),[],h0) ?_ ?_
 · exact⟨mle,J,by omega,rfl⟩
 rintro⟨i,D,z,C,mi⟩ ⟨ak,G,aw,hD⟩
 refine yW ?_;have ay:D.length=i:=by rw[hD];exact xL _ _
 refine gc9 (fun U=>?_) fun U=>?_
 ·
  refine go4 ?_;refine qT (A:=[]) 10 [] [(0,.q),(1,.q),(2,.q),(3,.q),(4,.q),(5,.q),(6,.c),(7,.c),(8,.c),(9,.q)] yA nX (by kernel_rfl) nX (go1 ?_);refine wX rfl (xB dE pH ab) fun ar ah=>(go2 ?_);refine wX rfl (xI [] i underlying76 uJ rL) fun aq ae=>(wX rfl (xA uJ ae) fun ap ad=>?_);refine w_c rfl (sC (ev2 rfl rfl) call187 (fun w hs=>zBB hs ah ad oM oM oM (by first|omega|exact Nat.le_trans (hcd4 i oM) dC)) fun ao h1 ai ac=>?_);refine w_c rfl (gM (fun X=>zU (ρ:=(tLs (k+1))) (m:=1) (xs:=[flA pl (L.getD i []) (L.getD i []).length]) (ps':=[(0,_)]) underlying76 oP rfl rfl rfl uV e2z (zH rfl (Pc.arr (Pc.here _) [] 0 dC) ac zW) (show 1*1≤16777216 from by decide) nP) rfl ?_)
  rintro an av ⟨am,rfl,O⟩
  refine w_c rfl (vC (A:=[]) (ρ:=(tLs (k+1))) O dK ?_);intro h2 ax I;refine rQ (A:=[]) (fun X=>zX (ρ:=(tLs (k+1))) (bytes:=24) underlying76 oP rfl rfl rfl rfl nP rfl rfl G.up I bO bO) rfl (wP (by first|(simp;done)|grind)) ?_
  rintro aa au ⟨Z,rfl,M⟩
  refine go9 ?_;refine gqL ((i+1),(D++[flA pl (L.getD i []) (L.getD i []).length]),aa,Z,h2) ?_ ?_
  · exact⟨mle,M,by omega,by rw[hD];rfl⟩
  omega
 have ei:i=L.length:=by omega
 refine uQ ?_;refine vJ (A:=[]) (ρ:=(tLs (k+1))) G.up ?_;intro h1 ai H;refine zC rfl rfl ?_;exact(Rp.Is.cast H (by rw[hD,ei]))
theorem zIL{w0:World}{h0:Mem}(hs:MLe h0 (mem w0)){k m n j:Nat}{vs:Value}{s:Sq}(rs:(tSd k m n j).Is h0 vs s){f:Nat}(hcd0:k≤1000)(hcd1:m≤100000)(hcd2:n≤100000)(hcd3:s.1.length≤100000)(hcd4:∀f,f<s.2.1.length→(s.2.1.getD f zA).2.1.length≤10000∧∀l,l<(s.2.1.getD f zA).2.1.length→((s.2.1.getD f zA).2.1.getD l []).length≤10000)(hcd5:f<s.2.1.length)(hcd6:s.2.1.length≤100000):
 Calls Tryz.prog 111 #[vs,vI ↑f] w0 (Ret w0 h0 (fun h r=>(tLL (k+2)).Is h r (fT s f))):=by
 have z:=zW1 (s:=s) (f:=↑f) hcd4;refine cb2 15 vs (vI ↑f) func111 hs ?_;refine go2 ?_;refine nB rs fun b2 ac D=>(go4 ?_);refine zL 11 _ [] [(0,.q),(1,.q),(2,.q),(3,.q),(4,.q),(5,.q),(6,.q),(7,.q),(8,.c),(9,.c),(10,.q)] yA nX (by kernel_rfl) nX (fun r hr=>hr) (go1 ?_);refine wX rfl (xB tT (Pc.snd (Pc.fst pH)) D) fun v6 r6=>(go1 ?_);refine wX rfl (xI zA f underlying36 bG r6) fun v8 r8=>(wX rfl (xF underlying53 sizeOf50 (Pc.fst pH) r8) fun v9 Z=>(wX rfl (xA dE Z) fun U I=>(wX rfl (xB fF pH D) fun O H=>(go1 ?_))));refine w_c rfl (sC (ev2 rfl rfl) call118 (fun w hs=>zA2 hs H oM oM (by first|omega|exact hcd4) (by first|omega|exact hcd4)) fun M h1 ab G=>?_);refine w_c rfl (sC (ev2 rfl rfl) call151 (fun w hs=>y0 hs I.up G oM oM oM (by first|omega|exact z.1|exact fun l hl=>z.2 l) (by first|omega|exact z.1|exact fun l hl=>z.2 l)) fun J h2 aa C=>?_);replace C:=Rp.Is.le C (Le.s (Le.s (Le.t (Le.q (l:=k+2) oM))));refine go4 ?_;refine zC rfl rfl ?_;exact C
theorem iS{w0:World}{h0:Mem}(hs:MLe h0 (mem w0)){kind:Int}(hkind1:-9223372036854775808≤kind)(hkind2:kind<9223372036854775808){face:Int}(hface1:-9223372036854775808≤face)(hface2:face<9223372036854775808){loop:Int}(hloop1:-9223372036854775808≤loop)(hloop2:loop<9223372036854775808){edge:Int}(hedge1:-9223372036854775808≤edge)(hedge2:edge<9223372036854775808):
 Calls Tryz.prog 179 #[vI kind,vI face,vI loop,vI edge] w0 (Ret w0 h0 (fun h r=>tE5.Is h r (dg kind face loop edge))):=by
 refine qM (n:=14) (e:=[(0,vI kind),(1,vI face),(2,vI loop),(3,vI edge)]) (vs:=[vI kind,vI face,vI loop,vI edge]) func179 rfl rfl (bL rfl) hs e4z (go2 ?_);refine nA (ρ:=tE5) (X:=e50) qQ (yI wD (yI wD (yI wD (yI wD wD)))) fun U O G=>(go8 ?_);refine lX (xV (ρ:=tE5) (wG (ps':=[(0,_),(1,_),(2,_),(3,_),(4,_)]) underlying200 qQ rfl rfl (s6 underlying200) e10 rfl (yI wD (yI wD (yI wD (yI wD wD)))) (zH rfl (Pc.fst (Pc.here _)) (jD oM oM) (zH rfl (Pc.snd (Pc.fst (Pc.here _))) (jD dC dC) (zH rfl (Pc.snd (Pc.snd (Pc.fst (Pc.here _)))) (jD oM oM) (zH rfl (Pc.snd (Pc.snd (Pc.snd (Pc.fst (Pc.here _))))) (jD oM oM) (zH rfl (Pc.snd (Pc.snd (Pc.snd (Pc.snd (Pc.here _))))) (jD oM oM) zW))))))) fun M H=>(yE (A:=[]) (uB sizeOf200 pH G H) fun I D=>(go3 ?_));refine uR (tU (t:=8) yB0 mh0 rfl D) ?_;intro J z C;refine yS (fun E S=>yD rfl z E S) ?_;exact C
end Go.Proofs.YtpkaegemlpaenaaGreat
namespace Go.Proofs.YtpkaegemlpaenaaGreat
open Bk Go Tryz
set_option linter.unusedVariables false
set_option linter.unusedSimpArgs false
set_option maxRecDepth 10000
set_option maxHeartbeats 1000000
attribute [local irreducible] GL GC GQ W OpV
theorem zR3{w0:World}{h0:Mem}(hs:MLe h0 (mem w0)){k l:Nat}{va:Value}{a:Tq}(ra:(tPt k).Is h0 va a){vb:Value}{b:Tq}(rb:(tPt l).Is h0 vb b)(hcd0:k+l≤1000000000):Calls Tryz.prog 14 #[va,vb] w0 (Ret w0 h0 (fun h r=>(tPt (k+l+1)).Is h r (T3.mk (a.x+b.x) (a.y+b.y) (a.z+b.z)))):=by
 obtain⟨J,I,H⟩:=zXI ra;obtain⟨G,D,C⟩:=zXI rb;exact(zR5 hs ra rb hcd0).mono (gS fun h r x=>zQB x (by have:=bU a.x b.x;show lq (a.x+b.x)≤_;omega) (by have:=bU a.y b.y;show lq (a.y+b.y)≤_;omega) (by have:=bU a.z b.z;show lq (a.z+b.z)≤_;omega))
theorem zK4{w0:World}{h0:Mem}(hs:MLe h0 (mem w0)){k l:Nat}{va:Value}{a:Tq}(ra:(tPt k).Is h0 va a){vb:Value}{b:Tq}(rb:(tPt l).Is h0 vb b)(hcd0:k+l≤10000000000):
 Calls Tryz.prog 154 #[va,vb,vF 160 []] w0 (Ret w0 h0 (fun h r=>(tPt (k+l+1+1)).Is h r (T3.mk (a.x+b.x) (a.y+b.y) (a.z+b.z)))):=by
 refine cb3 24 va vb (vF 160 []) func154 hs ?_;refine go2 ?_;refine nB ra fun b3 bk U=>(nB rb fun b4 bj O=>(nA (ρ:=(tPt (k+l+1+1))) (X:=zT) yX (wB (yN oM)) fun b6 bi ay=>(go4 ?_)));refine nA (ρ:=(tPt (k+l+1+1))) (X:=zT) yX (wB (yN oM)) fun b7 bh ax=>(go9 ?_);refine fP (go2 ?_);refine gv (OpV.tr dC (yG (q:=3) rfl rfl)) rfl (tG ?_);refine zL 10 _ [] [(0,.q),(1,.q),(2,.q),(3,.q),(4,.q),(5,.q),(6,.q),(7,.q),(8,.c),(9,.q),(10,.t)] yA nX (by kernel_rfl) nX (fun r hr=>hr) (go4 ?_);refine wX rfl (xB yB (Pc.tx pH) U) fun aw ah=>(go2 ?_);refine wX rfl (xB yB (Pc.tx pH) O) fun ar ac=>?_;refine w_c rfl (cR (rX (vs:=[_,_]) call160 rfl e2z) rfl (fun w hs=>bA hs ah ac oM) ?_);intro J h1 bg G
 change (rpQ (k+l+1)).Is h1 J (a.x+b.x) at G
 refine go1 ?_;refine yO (A:=[]) rfl (uB sizeOf29 (Pc.tx pH) ax (G.le (Le.q (l:=k+l+1+1) oM))) fun bc an=>(go4 ?_);refine gv ((zP (q:=1) rfl rfl oM oM).cv (show _=vI (1) from rfl)) rfl (go2 ?_);refine xU (go2 ?_);refine gv (OpV.tr dC (yG (q:=3) rfl rfl)) rfl (tG ?_);refine zL 10 _ [] [(0,.q),(1,.q),(2,.q),(3,.q),(4,.q),(5,.q),(6,.q),(7,.q),(8,.c),(9,.q),(10,.t)] yA nX (by kernel_rfl) nX (fun r hr=>hr) (go4 ?_);refine wX rfl (xB yB (Pc.ty pH) U) fun av ae=>(go2 ?_);refine wX rfl (xB yB (Pc.ty pH) O) fun aq ab=>?_;refine w_c rfl (cR (rX (vs:=[_,_]) call160 rfl e2z) rfl (fun w hs=>bA hs ae ab oM) ?_);intro I h2 bf D
 change (rpQ (k+l+1)).Is h2 I (a.y+b.y) at D
 refine go1 ?_;refine yO (A:=[]) rfl (uB sizeOf29 (Pc.ty pH) an (D.le (Le.q (l:=k+l+1+1) oM))) fun bb am=>(go4 ?_);refine gv ((zP (q:=1) rfl rfl oM oM).cv (show _=vI (2) from rfl)) rfl (go2 ?_);refine xU (go2 ?_);refine gv (OpV.tr dC (yG (q:=3) rfl rfl)) rfl (tG ?_);refine zL 10 _ [] [(0,.q),(1,.q),(2,.q),(3,.q),(4,.q),(5,.q),(6,.q),(7,.q),(8,.c),(9,.q),(10,.t)] yA nX (by kernel_rfl) nX (fun r hr=>hr) (go4 ?_);refine wX rfl (xB yB (Pc.tz pH) U) fun au ad=>(go2 ?_);refine wX rfl (xB yB (Pc.tz pH) O) fun ap aa=>?_;refine w_c rfl (cR (rX (vs:=[_,_]) call160 rfl e2z) rfl (fun w hs=>bA hs ad aa oM) ?_);intro H h3 be C
 change (rpQ (k+l+1)).Is h3 H (a.z+b.z) at C
 refine go1 ?_;refine yO (A:=[]) rfl (uB sizeOf29 (Pc.tz pH) am (C.le (Le.q (l:=k+l+1+1) oM))) fun ba ak=>(go4 ?_);refine gv ((zP (q:=1) rfl rfl oM oM).cv (show _=vI (3) from rfl)) rfl (go2 ?_);refine xU (go2 ?_);refine gv (OpV.fa dC (yG (q:=3) rfl rfl)) rfl (qA ?_);refine lX (xB zN pH ak) fun ao Z=>(yE (A:=[_]) (uB sizeOf31 pH ay Z) fun az aj=>(go3 ?_));refine uR (tU (t:=6) zN mh1 rfl aj) ?_;intro bd ai M;refine yS (fun E S=>yD rfl ai E S) ?_;exact M
theorem zK2{w0:World}{h0:Mem}(hs:MLe h0 (mem w0)){k l:Nat}{va:Value}{a:Tq}(ra:(tPt k).Is h0 va a){vb:Value}{b:Tq}(rb:(tPt l).Is h0 vb b)(hcd0:k+l≤10000000000):
 Calls Tryz.prog 154 #[va,vb,vF 121 []] w0 (Ret w0 h0 (fun h r=>(tPt (k+l+1+1)).Is h r (T3.mk (a.x-b.x) (a.y-b.y) (a.z-b.z)))):=by
 refine cb3 24 va vb (vF 121 []) func154 hs ?_;refine go2 ?_;refine nB ra fun b3 bk ad=>(nB rb fun b4 bj ac=>(nA (ρ:=(tPt (k+l+1+1))) (X:=zT) yX (wB (yN oM)) fun b6 bi ay=>(go4 ?_)));refine nA (ρ:=(tPt (k+l+1+1))) (X:=zT) yX (wB (yN oM)) fun b7 bh ax=>(go9 ?_);refine fP (go2 ?_);refine gv (OpV.tr dC (yG (q:=3) rfl rfl)) rfl (tG ?_);refine zL 10 _ [] [(0,.q),(1,.q),(2,.q),(3,.q),(4,.q),(5,.q),(6,.q),(7,.q),(8,.c),(9,.q),(10,.t)] yA nX (by kernel_rfl) nX (fun r hr=>hr) (go4 ?_);refine wX rfl (xB yB (Pc.tx pH) ad) fun aw an=>(go2 ?_);refine wX rfl (xB yB (Pc.tx pH) ac) fun ar aj=>?_;refine w_c rfl (cR (rX (vs:=[_,_]) call121 rfl e2z) rfl (fun w hs=>gH hs an aj oM) ?_);intro M h1 bg G
 change (rpQ (k+l+1)).Is h1 M (a.x-b.x) at G
 refine go1 ?_;refine yO (A:=[]) rfl (uB sizeOf29 (Pc.tx pH) ax (G.le (Le.q (l:=k+l+1+1) oM))) fun bc ab=>(go4 ?_);refine gv ((zP (q:=1) rfl rfl oM oM).cv (show _=vI (1) from rfl)) rfl (go2 ?_);refine xU (go2 ?_);refine gv (OpV.tr dC (yG (q:=3) rfl rfl)) rfl (tG ?_);refine zL 10 _ [] [(0,.q),(1,.q),(2,.q),(3,.q),(4,.q),(5,.q),(6,.q),(7,.q),(8,.c),(9,.q),(10,.t)] yA nX (by kernel_rfl) nX (fun r hr=>hr) (go4 ?_);refine wX rfl (xB yB (Pc.ty pH) ad) fun av am=>(go2 ?_);refine wX rfl (xB yB (Pc.ty pH) ac) fun aq ai=>?_;refine w_c rfl (cR (rX (vs:=[_,_]) call121 rfl e2z) rfl (fun w hs=>gH hs am ai oM) ?_);intro J h2 bf D
 change (rpQ (k+l+1)).Is h2 J (a.y-b.y) at D
 refine go1 ?_;refine yO (A:=[]) rfl (uB sizeOf29 (Pc.ty pH) ab (D.le (Le.q (l:=k+l+1+1) oM))) fun bb aa=>(go4 ?_);refine gv ((zP (q:=1) rfl rfl oM oM).cv (show _=vI (2) from rfl)) rfl (go2 ?_);refine xU (go2 ?_);refine gv (OpV.tr dC (yG (q:=3) rfl rfl)) rfl (tG ?_);refine zL 10 _ [] [(0,.q),(1,.q),(2,.q),(3,.q),(4,.q),(5,.q),(6,.q),(7,.q),(8,.c),(9,.q),(10,.t)] yA nX (by kernel_rfl) nX (fun r hr=>hr) (go4 ?_);refine wX rfl (xB yB (Pc.tz pH) ad) fun au ak=>(go2 ?_);refine wX rfl (xB yB (Pc.tz pH) ac) fun ap ah=>?_;refine w_c rfl (cR (rX (vs:=[_,_]) call121 rfl e2z) rfl (fun w hs=>gH hs ak ah oM) ?_);intro I h3 be C
 change (rpQ (k+l+1)).Is h3 I (a.z-b.z) at C
 refine go1 ?_;refine yO (A:=[]) rfl (uB sizeOf29 (Pc.tz pH) aa (C.le (Le.q (l:=k+l+1+1) oM))) fun ba Z=>(go4 ?_);refine gv ((zP (q:=1) rfl rfl oM oM).cv (show _=vI (3) from rfl)) rfl (go2 ?_);refine xU (go2 ?_);refine gv (OpV.fa dC (yG (q:=3) rfl rfl)) rfl (qA ?_);refine lX (xB zN pH Z) fun ao ae=>(yE (A:=[_]) (uB sizeOf31 pH ay ae) fun az U=>(go3 ?_));refine uR (tU (t:=6) zN mh1 rfl U) ?_;intro bd H O;refine yS (fun E S=>yD rfl H E S) ?_;exact O
theorem zK3{w0:World}{h0:Mem}(hs:MLe h0 (mem w0)){k l:Nat}{va:Value}{a:Tq}(ra:(tPt k).Is h0 va a){vb:Value}{b:Tq}(rb:(tPt l).Is h0 vb b)(hcd0:k+l≤10000000000):
 Calls Tryz.prog 154 #[va,vb,vF 153 []] w0 (Ret w0 h0 (fun h r=>(tPt (k+l+1)).Is h r (T3.mk (a.x*b.x) (a.y*b.y) (a.z*b.z)))):=by
 refine cb3 24 va vb (vF 153 []) func154 hs ?_;refine go2 ?_;refine nB ra fun b3 bk ak=>(nB rb fun b4 bj aj=>(nA (ρ:=(tPt (k+l+1))) (X:=zT) yX (wB (yN oM)) fun b6 bi ay=>(go4 ?_)));refine nA (ρ:=(tPt (k+l+1))) (X:=zT) yX (wB (yN oM)) fun b7 bh ax=>(go9 ?_);refine fP (go2 ?_);refine gv (OpV.tr dC (yG (q:=3) rfl rfl)) rfl (tG ?_);refine zL 10 _ [] [(0,.q),(1,.q),(2,.q),(3,.q),(4,.q),(5,.q),(6,.q),(7,.q),(8,.c),(9,.q),(10,.t)] yA nX (by kernel_rfl) nX (fun r hr=>hr) (go4 ?_);refine wX rfl (xB yB (Pc.tx pH) ak) fun aw an=>(go2 ?_);refine wX rfl (xB yB (Pc.tx pH) aj) fun av am=>?_;refine w_c rfl (cR (rX (vs:=[_,_]) call153 rfl e2z) rfl (fun w hs=>jH hs an am oM) ?_);intro ab h1 bg G
 change (rpQ (k+l)).Is h1 ab (a.x*b.x) at G
 refine go1 ?_;refine yO (A:=[]) rfl (uB sizeOf29 (Pc.tx pH) ax (G.le (Le.q (l:=k+l+1) oM))) fun bc ai=>(go4 ?_);refine gv ((zP (q:=1) rfl rfl oM oM).cv (show _=vI (1) from rfl)) rfl (go2 ?_);refine xU (go2 ?_);refine gv (OpV.tr dC (yG (q:=3) rfl rfl)) rfl (tG ?_);refine zL 10 _ [] [(0,.q),(1,.q),(2,.q),(3,.q),(4,.q),(5,.q),(6,.q),(7,.q),(8,.c),(9,.q),(10,.t)] yA nX (by kernel_rfl) nX (fun r hr=>hr) (go4 ?_);refine wX rfl (xB yB (Pc.ty pH) ak) fun au Z=>(go2 ?_);refine wX rfl (xB yB (Pc.ty pH) aj) fun aq O=>?_;refine w_c rfl (cR (rX (vs:=[_,_]) call153 rfl e2z) rfl (fun w hs=>jH hs Z O oM) ?_);intro I h2 bf D
 change (rpQ (k+l)).Is h2 I (a.y*b.y) at D
 refine go1 ?_;refine yO (A:=[]) rfl (uB sizeOf29 (Pc.ty pH) ai (D.le (Le.q (l:=k+l+1) oM))) fun bb ah=>(go4 ?_);refine gv ((zP (q:=1) rfl rfl oM oM).cv (show _=vI (2) from rfl)) rfl (go2 ?_);refine xU (go2 ?_);refine gv (OpV.tr dC (yG (q:=3) rfl rfl)) rfl (tG ?_);refine zL 10 _ [] [(0,.q),(1,.q),(2,.q),(3,.q),(4,.q),(5,.q),(6,.q),(7,.q),(8,.c),(9,.q),(10,.t)] yA nX (by kernel_rfl) nX (fun r hr=>hr) (go4 ?_);refine wX rfl (xB yB (Pc.tz pH) ak) fun ar U=>(go2 ?_);refine wX rfl (xB yB (Pc.tz pH) aj) fun ap M=>?_;refine w_c rfl (cR (rX (vs:=[_,_]) call153 rfl e2z) rfl (fun w hs=>jH hs U M oM) ?_);intro H h3 be C
 change (rpQ (k+l)).Is h3 H (a.z*b.z) at C
 refine go1 ?_;refine yO (A:=[]) rfl (uB sizeOf29 (Pc.tz pH) ah (C.le (Le.q (l:=k+l+1) oM))) fun ba ae=>(go4 ?_);refine gv ((zP (q:=1) rfl rfl oM oM).cv (show _=vI (3) from rfl)) rfl (go2 ?_);refine xU (go2 ?_);refine gv (OpV.fa dC (yG (q:=3) rfl rfl)) rfl (qA ?_);refine lX (xB zN pH ae) fun ao J=>(yE (A:=[_]) (uB sizeOf31 pH ay J) fun az ad=>(go3 ?_));refine uR (tU (t:=6) zN mh1 rfl ad) ?_;intro bd aa ac;refine yS (fun E S=>yD rfl aa E S) ?_;exact ac
theorem zVZ{w0:World}{h0:Mem}(hs:MLe h0 (mem w0)){k l:Nat}{va:Value}{a:Tq}(ra:(tPt k).Is h0 va a){vb:Value}{b:Tq}(rb:(tPt l).Is h0 vb b)(hcd0:k+l≤10000000000):
 Calls Tryz.prog 124 #[va,vb] w0 (Ret w0 h0 (fun h r=>(tPt (k+l+2)).Is h r (T3.mk (a.x+b.x) (a.y+b.y) (a.z+b.z)))):=by
 refine cb2 8 va vb func124 hs ?_;refine go2 ?_;refine nB ra fun b2 ad J=>(nB rb fun b3 ac I=>(nA (ρ:=(tPt (k+l+2))) (X:=zT) yX (wB (yN oM)) fun b4 ab H=>(go4 ?_)));refine lX (xB zN pH J) fun v5 r5=>(lX (xB zN pH I) fun v6 Z=>(cL (ev3 rfl rfl rfl) call154 (fun w hs=>zK4 hs r5 Z oM) fun v7 h1 aa M=>?_));replace M:=Rp.Is.le M (Le.t (Le.q (l:=k+l+2) oM));refine yE (A:=[]) (uB sizeOf31 pH H M) fun O G=>(go3 ?_);refine uR (tU (t:=4) zN mh0 rfl G) ?_;intro U C D;refine yS (fun E S=>yD rfl C E S) ?_;exact D
theorem zGI{w0:World}{h0:Mem}(hs:MLe h0 (mem w0)){k l:Nat}{va:Value}{a:Tq}(ra:(tPt k).Is h0 va a){vb:Value}{b:Tq}(rb:(tPt l).Is h0 vb b)(hcd0:k+l≤10000000000):
 Calls Tryz.prog 115 #[va,vb] w0 (Ret w0 h0 (fun h r=>(tPt (k+l+2)).Is h r (T3.mk (a.x-b.x) (a.y-b.y) (a.z-b.z)))):=by
 refine cb2 8 va vb func115 hs ?_;refine go2 ?_;refine nB ra fun b2 ad J=>(nB rb fun b3 ac I=>(nA (ρ:=(tPt (k+l+2))) (X:=zT) yX (wB (yN oM)) fun b4 ab H=>(go4 ?_)));refine lX (xB zN pH J) fun v5 r5=>(lX (xB zN pH I) fun v6 Z=>(cL (ev3 rfl rfl rfl) call154 (fun w hs=>zK2 hs r5 Z oM) fun v7 h1 aa M=>?_));replace M:=Rp.Is.le M (Le.t (Le.q (l:=k+l+2) oM));refine yE (A:=[]) (uB sizeOf31 pH H M) fun O G=>(go3 ?_);refine uR (tU (t:=4) zN mh0 rfl G) ?_;intro U C D;refine yS (fun E S=>yD rfl C E S) ?_;exact D
theorem zOP{w0:World}{h0:Mem}(hs:MLe h0 (mem w0)){l k:Nat}{vq:Value}{q:Rat}(rq:(rpQ l).Is h0 vq q){va:Value}{a:Tq}(ra:(tPt k).Is h0 va a)(hcd0:k+l≤1000000000):
 Calls Tryz.prog 125 #[vq,va] w0 (Ret w0 h0 (fun h r=>(tPt (k+l+2)).Is h r (T3.mk (q*a.x) (q*a.y) (q*a.z)))):=by
 refine cb2 11 vq va func125 hs ?_;refine go2 ?_;refine nB rq fun b2 ad H=>(nB ra fun b3 ac M=>(nA (ρ:=(tPt (k+l+2))) (X:=zT) yX (wB (yN oM)) fun b4 ab J=>(go4 ?_)));refine lX (xB yB pH H) fun v5 r5=>(lX (xB yB pH H) fun v6 r6=>(lX (xB yB pH H) fun v7 r7=>(lX (xV (ρ:=(tPt (l+1))) (xW (ps':=[(0,_),(1,_),(2,_)]) underlying31 yX rfl rfl sizeOf29 e6z rfl (wB (yN oM)) (zH rfl (Pc.tx (Pc.here _)) (r5.le (Le.q (l:=l+1) oM)) (zH rfl (Pc.ty (Pc.here _)) (r6.le (Le.q (l:=l+1) oM)) (zH rfl (Pc.tz (Pc.here _)) (r7.le (Le.q (l:=l+1) oM)) zW))))) fun v8 r8=>(lX (xB zN pH M) fun v9 r9=>(cL (ev3 rfl rfl rfl) call154 (fun w hs=>zK3 hs r8 r9 oM) fun Z h1 aa I=>?_)))));replace I:=Rp.Is.le I (Le.t (Le.q (l:=k+l+2) oM));refine yE (A:=[]) (uB sizeOf31 pH J I) fun O G=>(go3 ?_);refine uR (tU (t:=4) zN mh0 rfl G) ?_;intro U C D;refine yS (fun E S=>yD rfl C E S) ?_;exact D
theorem zBL{w0:World}{h0:Mem}(hs:MLe h0 (mem w0)){k l:Nat}{va:Value}{a:Tq}(ra:(tPt k).Is h0 va a){vb:Value}{b:Tq}(rb:(tPt l).Is h0 vb b)(hcd0:k+l≤1000000000):
 Calls Tryz.prog 120 #[va,vb] w0 (Ret w0 h0 (fun h r=>(rpQ (3*k+3*l+9)).Is h r (wO a b))):=by
 refine cb2 21 va vb func120 hs ?_;refine go2 ?_;refine nB ra fun b2 cd bb=>(nB rb fun b3 cc ba=>(nA (ρ:=(rpQ (3*k+3*l+9))) (X:=(0:Rat)) xS (yN oM) fun b4 cb bn=>(go4 ?_)));refine nA (ρ:=(rpQ 1)) (X:=(0:Rat)) xS (yN dC) fun b5 ca bc=>(go9 ?_);refine fP (go2 ?_);refine gv (OpV.tr dC (yG (q:=3) rfl rfl)) rfl (tG ?_);refine zL 9 _ [] [(0,.q),(1,.q),(2,.q),(3,.q),(4,.q),(5,.q),(6,.q),(7,.c),(8,.c),(9,.t)] yA nX (by kernel_rfl) nX (fun r hr=>hr) (wX rfl (xB yB pH bc) fun bm aq=>(go2 ?_));refine wX rfl (xB yB (Pc.tx pH) bb) fun bj an=>(go2 ?_);refine wX rfl (xB yB (Pc.tx pH) ba) fun bg aj=>?_;refine w_c rfl (sC (ev2 rfl rfl) call153 (fun w hs=>jH hs an aj oM) fun ad h1 bz J=>?_)
 change (rpQ (k+l)).Is h1 ad (a.x*b.x) at J
 refine w_c rfl (sC (ev2 rfl rfl) call160 (fun w hs=>bA hs aq.up J oM) fun aa h2 bx G=>?_)
 change (rpQ (1+(k+l)+1)).Is h2 aa ((0:Rat)+(a.x*b.x)) at G
 replace G:=Rp.Is.le G (Le.q (l:=k+l+2) oM);have aw:=(Le.q (l:=k+l+2) oM).R bc;refine yO (A:=[]) rfl (uB sizeOf29 pH aw G) fun br O=>(go4 ?_);refine gv ((zP (q:=1) rfl rfl oM oM).cv (show _=vI (1) from rfl)) rfl (go2 ?_);refine xU (go2 ?_);refine gv (OpV.tr dC (yG (q:=3) rfl rfl)) rfl (tG ?_);refine zL 9 _ [] [(0,.q),(1,.q),(2,.q),(3,.q),(4,.q),(5,.q),(6,.q),(7,.c),(8,.c),(9,.t)] yA nX (by kernel_rfl) nX (fun r hr=>hr) (wX rfl (xB yB pH O) fun bl ap=>(go2 ?_));refine wX rfl (xB yB (Pc.ty pH) bb) fun bi am=>(go2 ?_);refine wX rfl (xB yB (Pc.ty pH) ba) fun bf ai=>?_;refine w_c rfl (sC (ev2 rfl rfl) call153 (fun w hs=>jH hs am ai oM) fun ac h3 bw I=>?_)
 change (rpQ (k+l)).Is h3 ac (a.y*b.y) at I
 refine w_c rfl (sC (ev2 rfl rfl) call160 (fun w hs=>bA hs ap.up I oM) fun Z h4 bv D=>?_)
 change (rpQ ((k+l+2)+(k+l)+1)).Is h4 Z (((0:Rat)+(a.x*b.x))+(a.y*b.y)) at D
 replace D:=Rp.Is.le D (Le.q (l:=2*k+2*l+3) oM);have av:=(Le.q (l:=2*k+2*l+3) oM).R O;refine yO (A:=[]) rfl (uB sizeOf29 pH av D) fun bq M=>(go4 ?_);refine gv ((zP (q:=1) rfl rfl oM oM).cv (show _=vI (2) from rfl)) rfl (go2 ?_);refine xU (go2 ?_);refine gv (OpV.tr dC (yG (q:=3) rfl rfl)) rfl (tG ?_);refine zL 9 _ [] [(0,.q),(1,.q),(2,.q),(3,.q),(4,.q),(5,.q),(6,.q),(7,.c),(8,.c),(9,.t)] yA nX (by kernel_rfl) nX (fun r hr=>hr) (wX rfl (xB yB pH M) fun bk ao=>(go2 ?_));refine wX rfl (xB yB (Pc.tz pH) bb) fun bh ak=>(go2 ?_);refine wX rfl (xB yB (Pc.tz pH) ba) fun be ah=>?_;refine w_c rfl (sC (ev2 rfl rfl) call153 (fun w hs=>jH hs ak ah oM) fun ab h5 bu H=>?_)
 change (rpQ (k+l)).Is h5 ab (a.z*b.z) at H
 refine w_c rfl (sC (ev2 rfl rfl) call160 (fun w hs=>bA hs ao.up H oM) fun U h6 bt C=>?_)
 change (rpQ ((2*k+2*l+3)+(k+l)+1)).Is h6 U ((((0:Rat)+(a.x*b.x))+(a.y*b.y))+(a.z*b.z)) at C
 replace C:=Rp.Is.le C (Le.q (l:=3*k+3*l+4) oM);have au:=(Le.q (l:=3*k+3*l+4) oM).R M;refine yO (A:=[]) rfl (uB sizeOf29 pH au C) fun bp az=>(go4 ?_);refine gv ((zP (q:=1) rfl rfl oM oM).cv (show _=vI (3) from rfl)) rfl (go2 ?_);refine xU (go2 ?_);refine gv (OpV.fa dC (yG (q:=3) rfl rfl)) rfl (qA ?_);refine lX (xB yB pH az) fun bd ae=>(yE (A:=[_]) (uB sizeOf29 pH bn (ae.le (Le.q (l:=3*k+3*l+9) oM))) fun bo ay=>(go3 ?_));refine uR (tU (t:=4) yB mh1 rfl ay) ?_;intro bs ar ax;refine yS (fun E S=>yD rfl ar E S) ?_;exact(Rp.Is.cast ax (by unfold wO;grind))
theorem zE0{w0:World}{h0:Mem}(hs:MLe h0 (mem w0)){k l:Nat}{va:Value}{a:Tq}(ra:(tPt k).Is h0 va a){vb:Value}{b:Tq}(rb:(tPt l).Is h0 vb b)(hcd0:k+l≤1000000000):
 Calls Tryz.prog 114 #[va,vb] w0 (Ret w0 h0 (fun h r=>(tPt (2*k+2*l+3)).Is h r (wH a b))):=by
 refine cb2 37 va vb func114 hs ?_;refine go2 ?_;refine nB ra fun b2 cp aa=>(nB rb fun b3 co Z=>(nA (ρ:=(tPt (2*k+2*l+3))) (X:=zT) yX (wB (yN oM)) fun b4 cn bw=>(go4 ?_)));refine nA (ρ:=(tPt (2*k+2*l+3))) (X:=zT) yX (wB (yN oM)) fun b5 cm bv=>(go9 ?_);refine fP (go2 ?_);refine gv (OpV.tr dC (yG (q:=3) rfl rfl)) rfl (mW ?_);refine gv ((zP (q:=1) rfl rfl oM oM).cv (show _=vI (1) from rfl)) rfl (gv ((wJ (q:=3) rfl rfl oM oM).cv (show _=vI (1) from rfl)) rfl (go1 ?_));refine gv ((zP (q:=2) rfl rfl oM oM).cv (show _=vI (2) from rfl)) rfl (gv ((wJ (q:=3) rfl rfl oM oM).cv (show _=vI (2) from rfl)) rfl (go4 ?_));refine zL 17 _ [] [(0,.q),(1,.q),(2,.q),(3,.q),(4,.q),(5,.q),(6,.q),(8,.q),(9,.q),(10,.q),(11,.q),(12,.q),(13,.q),(7,.c),(14,.c),(15,.c),(16,.q),(17,.t)] yA nX (wI (by kernel_rfl)) nX (fun r hr=>hr) (go3 ?_);refine wX rfl (xB yB (Pc.ty pH) aa) fun bu bb=>(go2 ?_);refine wX rfl (xB yB (Pc.tz pH) Z) fun br ay=>(go2 ?_);refine wX rfl (xB yB (Pc.tz pH) aa) fun bo av=>(go2 ?_);refine wX rfl (xB yB (Pc.ty pH) Z) fun bl aq=>?_;refine w_c rfl (sC (ev2 rfl rfl) call153 (fun w hs=>jH hs bb ay oM) fun am h1 cl U=>?_)
 change (rpQ (k+l)).Is h1 am (a.y*b.z) at U
 refine w_c rfl (sC (ev2 rfl rfl) call153 (fun w hs=>jH hs av.up aq.up oM) fun ai h2 ck J=>?_)
 change (rpQ (k+l)).Is h2 ai (a.z*b.y) at J
 refine w_c rfl (sC (ev2 rfl rfl) call121 (fun w hs=>gH hs U.up J oM) fun ad h3 cj G=>?_)
 change (rpQ ((k+l)+(k+l)+1)).Is h3 ad ((a.y*b.z)-(a.z*b.y)) at G
 replace G:=Rp.Is.le G (Le.q (l:=2*k+2*l+1) oM);refine go1 ?_;refine yO (A:=[]) rfl (uB sizeOf29 (Pc.tx pH) bv (G.le (Le.q (l:=2*k+2*l+3) oM))) fun cb bh=>(go4 ?_);refine gv ((zP (q:=1) rfl rfl oM oM).cv (show _=vI (1) from rfl)) rfl (go2 ?_);refine xU (go2 ?_);refine gv (OpV.tr dC (yG (q:=3) rfl rfl)) rfl (mW ?_);refine gv ((zP (q:=1) rfl rfl oM oM).cv (show _=vI (2) from rfl)) rfl (gv ((wJ (q:=3) rfl rfl oM oM).cv (show _=vI (2) from rfl)) rfl (go1 ?_));refine gv ((zP (q:=2) rfl rfl oM oM).cv (show _=vI (3) from rfl)) rfl (gv ((wJ (q:=3) rfl rfl oM oM).cv (show _=vI (0) from rfl)) rfl (go4 ?_));refine zL 17 _ [] [(0,.q),(1,.q),(2,.q),(3,.q),(4,.q),(5,.q),(6,.q),(8,.q),(9,.q),(10,.q),(11,.q),(12,.q),(13,.q),(7,.c),(14,.c),(15,.c),(16,.q),(17,.t)] yA nX (wI (by kernel_rfl)) nX (fun r hr=>hr) (go3 ?_);refine wX rfl (xB yB (Pc.tz pH) aa) fun bt ba=>(go2 ?_);refine wX rfl (xB yB (Pc.tx pH) Z) fun bq ax=>(go2 ?_);refine wX rfl (xB yB (Pc.tx pH) aa) fun bn au=>(go2 ?_);refine wX rfl (xB yB (Pc.tz pH) Z) fun bk ap=>?_;refine w_c rfl (sC (ev2 rfl rfl) call153 (fun w hs=>jH hs ba ax oM) fun ak h4 ci O=>?_)
 change (rpQ (k+l)).Is h4 ak (a.z*b.x) at O
 refine w_c rfl (sC (ev2 rfl rfl) call153 (fun w hs=>jH hs au.up ap.up oM) fun ah h5 ch I=>?_)
 change (rpQ (k+l)).Is h5 ah (a.x*b.z) at I
 refine w_c rfl (sC (ev2 rfl rfl) call121 (fun w hs=>gH hs O.up I oM) fun ac h6 cg D=>?_)
 change (rpQ ((k+l)+(k+l)+1)).Is h6 ac ((a.z*b.x)-(a.x*b.z)) at D
 replace D:=Rp.Is.le D (Le.q (l:=2*k+2*l+1) oM);refine go1 ?_;refine yO (A:=[]) rfl (uB sizeOf29 (Pc.ty pH) bh (D.le (Le.q (l:=2*k+2*l+3) oM))) fun ca bg=>(go4 ?_);refine gv ((zP (q:=1) rfl rfl oM oM).cv (show _=vI (2) from rfl)) rfl (go2 ?_);refine xU (go2 ?_);refine gv (OpV.tr dC (yG (q:=3) rfl rfl)) rfl (mW ?_);refine gv ((zP (q:=1) rfl rfl oM oM).cv (show _=vI (3) from rfl)) rfl (gv ((wJ (q:=3) rfl rfl oM oM).cv (show _=vI (0) from rfl)) rfl (go1 ?_));refine gv ((zP (q:=2) rfl rfl oM oM).cv (show _=vI (4) from rfl)) rfl (gv ((wJ (q:=3) rfl rfl oM oM).cv (show _=vI (1) from rfl)) rfl (go4 ?_));refine zL 17 _ [] [(0,.q),(1,.q),(2,.q),(3,.q),(4,.q),(5,.q),(6,.q),(8,.q),(9,.q),(10,.q),(11,.q),(12,.q),(13,.q),(7,.c),(14,.c),(15,.c),(16,.q),(17,.t)] yA nX (wI (by kernel_rfl)) nX (fun r hr=>hr) (go3 ?_);refine wX rfl (xB yB (Pc.tx pH) aa) fun bs az=>(go2 ?_);refine wX rfl (xB yB (Pc.ty pH) Z) fun bp aw=>(go2 ?_);refine wX rfl (xB yB (Pc.ty pH) aa) fun bm ar=>(go2 ?_);refine wX rfl (xB yB (Pc.tx pH) Z) fun bj ao=>?_;refine w_c rfl (sC (ev2 rfl rfl) call153 (fun w hs=>jH hs az aw oM) fun aj h7 cf M=>?_)
 change (rpQ (k+l)).Is h7 aj (a.x*b.y) at M
 refine w_c rfl (sC (ev2 rfl rfl) call153 (fun w hs=>jH hs ar.up ao.up oM) fun ae h8 ce H=>?_)
 change (rpQ (k+l)).Is h8 ae (a.y*b.x) at H
 refine w_c rfl (sC (ev2 rfl rfl) call121 (fun w hs=>gH hs M.up H oM) fun ab h9 cd C=>?_)
 change (rpQ ((k+l)+(k+l)+1)).Is h9 ab ((a.x*b.y)-(a.y*b.x)) at C
 replace C:=Rp.Is.le C (Le.q (l:=2*k+2*l+1) oM);refine go1 ?_;refine yO (A:=[]) rfl (uB sizeOf29 (Pc.tz pH) bg (C.le (Le.q (l:=2*k+2*l+3) oM))) fun bz bf=>(go4 ?_);refine gv ((zP (q:=1) rfl rfl oM oM).cv (show _=vI (3) from rfl)) rfl (go2 ?_);refine xU (go2 ?_);refine gv (OpV.fa dC (yG (q:=3) rfl rfl)) rfl (qA ?_);refine lX (xB zN pH bf) fun bi an=>(yE (A:=[_]) (uB sizeOf31 pH bw an) fun bx be=>(go3 ?_));refine uR (tU (t:=4) zN mh1 rfl be) ?_;intro cc bc bd;refine yS (fun E S=>yD rfl bc E S) ?_;exact bd
theorem zIC{w0:World}{h0:Mem}(hs:MLe h0 (mem w0)){k l:Nat}{va:Value}{a:Tq}(ra:(tPt k).Is h0 va a){vb:Value}{b:Tq}(rb:(tPt l).Is h0 vb b)(hcd0:k+l≤10000000000):
 Calls Tryz.prog 119 #[va,vb] w0 (Ret w0 h0 (fun _ r=>r=vB (a=b))):=by
 refine cb2 18 va vb func119 hs ?_;refine go2 ?_;refine nB ra fun b2 au ae=>(nB rb fun b3 ar ad=>(uA ?_));refine fP (go2 ?_);refine gv (OpV.tr dC (yG (q:=3) rfl rfl)) rfl (rV ?_);refine zL 8 _ [] [(0,.q),(1,.q),(2,.q),(3,.q),(4,.q),(5,.q),(6,.c),(7,.q)] yA nX (by kernel_rfl) nX (fun r hr=>hr) (go2 ?_);refine wX rfl (xB yB (Pc.tx pH) ae) fun an ac=>(go2 ?_);refine wX rfl (xB yB (Pc.tx pH) ad) fun aj Z=>?_;refine w_c rfl (sC (ev2 rfl rfl) call159 (fun w hs=>iR hs ac Z oM) fun H h1 aq M=>?_);obtain rfl:H=vB (a.x=b.x):=M;refine gc3 (fun C=>?_) fun C=>?_
 ·
  refine qA ?_;refine zC rfl rfl ?_
  first|exact(xE (by rw[fV];grind)).symm|exact(yJ (by rw[fV];grind)).symm
 refine go4 ?_;refine gv ((zP (q:=1) rfl rfl oM oM).cv (show _=vI (1) from rfl)) rfl (go2 ?_);refine xU (go2 ?_);refine gv (OpV.tr dC (yG (q:=3) rfl rfl)) rfl (rV ?_);refine zL 8 _ [] [(0,.q),(1,.q),(2,.q),(3,.q),(4,.q),(5,.q),(6,.c),(7,.q)] yA nX (by kernel_rfl) nX (fun r hr=>hr) (go2 ?_);refine wX rfl (xB yB (Pc.ty pH) ae) fun am ab=>(go2 ?_);refine wX rfl (xB yB (Pc.ty pH) ad) fun ai U=>?_;refine w_c rfl (sC (ev2 rfl rfl) call159 (fun w hs=>iR hs ab U oM) fun G h2 ap J=>?_);obtain rfl:G=vB (a.y=b.y):=J;refine gc3 (fun C=>?_) fun C=>?_
 ·
  refine qA ?_;refine zC rfl rfl ?_
  first|exact(xE (by rw[fV];grind)).symm|exact(yJ (by rw[fV];grind)).symm
 refine go4 ?_;refine gv ((zP (q:=1) rfl rfl oM oM).cv (show _=vI (2) from rfl)) rfl (go2 ?_);refine xU (go2 ?_);refine gv (OpV.tr dC (yG (q:=3) rfl rfl)) rfl (rV ?_);refine zL 8 _ [] [(0,.q),(1,.q),(2,.q),(3,.q),(4,.q),(5,.q),(6,.c),(7,.q)] yA nX (by kernel_rfl) nX (fun r hr=>hr) (go2 ?_);refine wX rfl (xB yB (Pc.tz pH) ae) fun ak aa=>(go2 ?_);refine wX rfl (xB yB (Pc.tz pH) ad) fun ah O=>?_;refine w_c rfl (sC (ev2 rfl rfl) call159 (fun w hs=>iR hs aa O oM) fun D h3 ao I=>?_);obtain rfl:D=vB (a.z=b.z):=I;refine gc3 (fun C=>?_) fun C=>?_
 ·
  refine qA ?_;refine zC rfl rfl ?_
  first|exact(xE (by rw[fV];grind)).symm|exact(yJ (by rw[fV];grind)).symm
 refine go4 ?_;refine gv ((zP (q:=1) rfl rfl oM oM).cv (show _=vI (3) from rfl)) rfl (go2 ?_);refine xU (go2 ?_);refine gv (OpV.fa dC (yG (q:=3) rfl rfl)) rfl (rV ?_);refine zC rfl rfl ?_
 first|exact(xE (by rw[fV];grind)).symm|exact(yJ (by rw[fV];grind)).symm
theorem zIB{w0:World}{h0:Mem}(hs:MLe h0 (mem w0)){k:Nat}{va:Value}{a:Tq}(ra:(tPt k).Is h0 va a)(hcd0:k≤1000000000):
 Calls Tryz.prog 78 #[va] w0 (Ret w0 h0 (fun _ r=>r=vB (a=zT))):=by
 refine cb1 6 va func78 hs ?_;refine go2 ?_;refine nB ra fun I H z=>(go5 ?_);refine lX (xB zN pH z) fun v3 r3=>(lX (xV (ρ:=(tPt 1)) (xW (ps':=[]) underlying31 yX rfl rfl sizeOf29 trivial rfl (wB (yN dC)) zW)) fun v4 r4=>(cL (ev2 rfl rfl) call119 (fun w hs=>zIC hs r3 r4 oM) fun C h1 G D=>?_));obtain rfl:C=vB (a=zT):=D;refine go4 ?_;refine zC rfl rfl ?_
 rfl
end Go.Proofs.YtpkaegemlpaenaaGreat
namespace Go.Proofs.YtpkaegemlpaenaaGreat
open Bk Go Tryz
set_option linter.unusedVariables false
set_option linter.unusedSimpArgs false
set_option maxRecDepth 10000
set_option maxHeartbeats 1000000
attribute [local irreducible] GL GC GQ W OpV
theorem pL{w0:World}{h0:Mem}(hs:MLe h0 (mem w0)){k:Nat}{vp:Value}{p:Tq}(rp:(tPt k).Is h0 vp p):
 Calls Tryz.prog 185 #[vp] w0 (Ret w0 h0 (fun h r=>(tPt (k+1)).Is h r (zZ p))):=by
 refine cb1 8 vp func185 hs ?_;refine go2 ?_;refine nB rp fun b1 Z G=>(nA (ρ:=(tPt (k+1))) (X:=zT) yX (wB (yN oM)) fun b2 U H=>(go5 ?_));refine lX (xB yB (Pc.tx pH) G) fun v4 r4=>(go1 ?_);refine lX (xB yB (Pc.ty pH) G) fun v6 O=>(lX (xV (ρ:=(tPt (k+1))) (xW (ps':=[(0,_),(1,_)]) underlying31 yX rfl rfl sizeOf29 e4z rfl (wB (yN oM)) (zH rfl (Pc.tx (Pc.here _)) (r4.le (Le.q (l:=k+1) oM)) (zH rfl (Pc.ty (Pc.here _)) (O.le (Le.q (l:=k+1) oM)) zW)))) fun v7 M=>(yE (A:=[]) (uB sizeOf31 pH H M) fun I D=>(go3 ?_)));refine uR (tU (t:=2) zN mh0 rfl D) ?_;intro J z C;refine yS (fun E S=>yD rfl z E S) ?_;exact C
theorem qI{w0:World}{h0:Mem}(hs:MLe h0 (mem w0)){k:Nat}{va:Value}{a:Tq}(ra:(tPt k).Is h0 va a){vb:Value}{b:Tq}(rb:(tPt k).Is h0 vb b)(hcd0:k≤2000000000):
 Calls Tryz.prog 174 #[va,vb] w0 (Ret w0 h0 (fun _ r=>r=vB ((pr a 0 1)=(pr b 0 1)))):=by
 refine cb2 17 va vb func174 hs ?_;refine go2 ?_;refine nB ra fun b2 ab C=>(nB rb fun b3 aa z=>(go6 ?_));refine lX (xB yB (Pc.tx pH) C) fun v6 r6=>(go1 ?_);refine lX (xB yB (Pc.tx pH) z) fun v8 r8=>(cL (ev2 rfl rfl) call73 (fun w hs=>tD hs r6 r8 oM) fun v9 h1 ae r9=>?_);obtain rfl:v9=vB (a.x=b.x):=r9;refine uS (ι:=Mem) 7 (fun U=>MLe h1 U) (fun _=>[(16,vB ((a.x=b.x)∧(a.y=b.y)))]) (fun _=>[.var b3 31 aa,.var b2 31 ab]) (fun U=>U) ?_ ?_
 ·
  refine zS (a.x=b.x) (fun G=>?_) (fun G=>?_)
  ·
   refine gT G rfl (go3 ?_);refine lX (xB yB (Pc.ty pH) C) fun ad M=>(go3 ?_);refine lX (xB yB (Pc.ty pH) z) fun ac J=>(go1 ?_);refine cL (ev2 rfl rfl) call73 (fun w hs=>tD hs M J oM) fun H h2 Z I=>?_;obtain rfl:H=vB (a.y=b.y):=I;refine go2 ?_;refine zQ h2 Z ⟨?_,trivial⟩ rfl rfl;exact congrArg some (yU G)
  refine gF G rfl (go7 ?_);refine zQ h1 (MLe.refl _) ⟨?_,trivial⟩ rfl rfl;exact congrArg some (yV G)
 intro O D;refine sE ?_;refine go4 ?_;refine zC rfl rfl ?_
 first|exact jI (by rw[zRE];exact Iff.rfl)|exact(xE (by rw[zRE];exact Iff.rfl)).symm|exact(yJ (by rw[zRE];exact Iff.rfl)).symm
theorem rJ{w0:World}{h0:Mem}(hs:MLe h0 (mem w0)){k:Nat}{va:Value}{a:Tq}(ra:(tPt k).Is h0 va a){vb:Value}{b:Tq}(rb:(tPt k).Is h0 vb b)(hcd0:k≤2000000000):
 Calls Tryz.prog 200 #[va,vb] w0 (Ret w0 h0 (fun _ r=>r=vB (lx (pr a 0 1) (pr b 0 1)))):=by
 refine cb2 21 va vb func200 hs ?_;refine go2 ?_;refine nB ra fun b2 ah D=>(nB rb fun b3 ae C=>(go7 ?_));refine lX (xB yB (Pc.tx pH) D) fun v7 r7=>(go1 ?_);refine lX (xB yB (Pc.tx pH) C) fun v9 r9=>(cL (ev2 rfl rfl) call17 (fun w hs=>kA hs r7 r9 oM) fun H h1 ad O=>?_);obtain rfl:H=vI (yP a.x b.x):=O;have Z:=uN a.x b.x;refine gc9 (fun z=>?_) fun z=>?_
 ·
  refine go9 ?_;refine zC rfl rfl ?_;exact jI (yAB z)
 refine go5 ?_;refine lX (xB yB (Pc.ty pH) D) fun ab M=>(go1 ?_);refine lX (xB yB (Pc.ty pH) C) fun aa J=>(cL (ev2 rfl rfl) call17 (fun w hs=>kA hs M J oM) fun G h2 ac I=>?_);obtain rfl:G=vI (yP a.y b.y):=I;have U:=uN a.y b.y;refine go5 ?_;refine zC rfl rfl ?_;exact jI (yAA z)
theorem rK{w0:World}{h0:Mem}(hs:MLe h0 (mem w0)){k:Nat}{vl:Value}{l:(List Tq)}(rl:(tLs k).Is h0 vl l)(hcd0:k≤100000)(hcd1:l.length≤1000):
 Calls Tryz.prog 131 #[vl] w0 (Ret w0 h0 (fun h r=>(rpQ 1000000000).Is h r (uT l 0 1 l.length))):=by
 refine cb1 40 vl func131 hs ?_;refine go2 ?_;refine nA (ρ:=(rpQ 1)) (X:=(0:Rat)) xS (yN dC) fun b2 bg ap=>(go4 ?_);refine lX (xV (ρ:=(rpQ 1)) (wG (ps':=[]) underlying29 xS rfl rfl (uL underlying29) trivial rfl (yN dC) zW)) fun v7 r7=>(nA (ρ:=(rpQ 1)) (X:=(0:Rat)) xS (yN dC) fun b3 ce ao=>(yE (A:=[]) (uB sizeOf29 pH ao r7) fun ak ai=>(go9 ?_)));refine gcL (ι:=Nat×Nat×List Value×Mem) (fun(m,q,G,ma)=>(MLe h0 ma∧((rpQ q).R ma G (uT l 0 1 m)∧m≤l.length∧q≤(4*k+9)*m+1),[(0,vl),(2,vP b2 0),(3,vP b3 0),(4,vI ↑m)],[.var b3 29 G,.var b2 29 bg],ma,l.length-m)) (0,1,ak,h0) ?_ ?_
 · exact⟨mle,ai,by omega,by omega⟩
 rintro⟨m,q,G,ma⟩ ⟨bi,z,bz,bx⟩
 refine yW ?_;have bc:=Nat.mul_le_mul_left (4*k+9) (show m≤1000 by omega);refine gc9 (fun aj=>?_) fun aj=>?_
 ·
  refine go5 ?_;refine zL 16 _ [(12,(5,31,[.bool false,.slice none 0 0,.slice none 0 0,.bool false,.slice none 0 0,.slice none 0 0,.bool false,.slice none 0 0,.slice none 0 0])),(13,(6,31,[.bool false,.slice none 0 0,.slice none 0 0,.bool false,.slice none 0 0,.slice none 0 0,.bool false,.slice none 0 0,.slice none 0 0]))] [(0,.q),(1,.q),(2,.q),(3,.q),(4,.q),(5,.q),(6,.q),(7,.q),(8,.q),(9,.q),(10,.q),(11,.q),(12,.a),(13,.a),(14,.c),(15,.c)] yA (kW.cons rfl rfl (jK yX rfl rfl) (kW.cons rfl rfl (jK yX rfl rfl) kW.nil)) (wI (by kernel_rfl)) (jM rfl rfl (jM rfl rfl sQ)) (fun r hr=>hr) (go2 ?_);refine wX rfl (xI zT m underlying35 zN rl) fun bw bb=>(wX rfl (xA zN bb) fun bv ba=>(go4 ?_));refine w_q rfl (fun h' L' hh hR=>uP underlying35 rfl (rl.up.mono hh)) rfl (xN rfl (fun _ _=>wJ rfl rfl oM oM) rfl (wX rfl (xI zT ((m+1)%l.length) underlying35 zN rl (hi:=by exact Nat.mod_lt _ oM)) fun bu az=>(wX rfl (xA zN az) fun bt ay=>?_)));refine w_a rfl rfl (fun b5=>?_);have an:(tPt 1).R ma [.bool false,.slice none 0 0,.slice none 0 0,.bool false,.slice none 0 0,.slice none 0 0,.bool false,.slice none 0 0,.slice none 0 0] zT:=(wB (yN dC));refine w_a rfl rfl (fun b6=>?_);have am:(tPt 1).R ma [.bool false,.slice none 0 0,.slice none 0 0,.bool false,.slice none 0 0,.slice none 0 0,.bool false,.slice none 0 0,.slice none 0 0] zT:=(wB (yN dC));refine w_c rfl ?_;have ah:=(Le.t (Le.q (l:=k+1) oM)).R an;refine iK (A:=[_]) (uB sizeOf31 pH ah (ba.le (Le.t (Le.q (l:=k+1) oM)))) (wP (by first|(simp;done)|grind)) fun bf D=>?_;refine w_c rfl ?_;have M:=(Le.t (Le.q (l:=k+1) oM)).R am;refine iK (A:=[]) (uB sizeOf31 pH M (ay.le (Le.t (Le.q (l:=k+1) oM)))) (wP (by first|(simp;done)|grind)) fun be C=>(go2 ?_);refine zL 13 _ [] [(0,.q),(1,.q),(2,.q),(3,.q),(4,.q),(6,.q),(7,.q),(8,.q),(9,.q),(5,.c),(10,.c),(11,.c),(12,.c),(13,.t)] yA nX (wI (by kernel_rfl)) nX (fun r hr=>hr) (wX rfl (xB yB pH z) fun bs ax=>(go1 ?_));refine wX rfl (xB yB (Pc.tx pH) D) fun br aw=>(go1 ?_);refine wX rfl (xB yB (Pc.ty pH) C) fun bq av=>(go1 ?_);refine wX rfl (xB yB (Pc.tx pH) C) fun bo au=>(go1 ?_);refine wX rfl (xB yB (Pc.ty pH) D) fun bn ar=>?_;refine w_c rfl (sC (ev2 rfl rfl) call53 (fun w hs=>gX hs aw av oM) fun bp h1 cd ad=>?_);replace ad:=Rp.Is.le ad (Le.q (l:=2*k+2) oM);refine w_c rfl (sC (ev2 rfl rfl) call53 (fun w hs=>gX hs au.up ar.up oM) fun bm h2 cc ac=>?_);replace ac:=Rp.Is.le ac (Le.q (l:=2*k+2) oM);refine w_c rfl (sC (ev2 rfl rfl) call55 (fun w hs=>bT hs ad.up ac oM) fun bl h3 cb ab=>?_);replace ab:=Rp.Is.le ab (Le.q (l:=4*k+5) oM);refine w_c rfl (sC (ev2 rfl rfl) call45 (fun w hs=>sY hs ax.up ab oM) fun bk h4 ca aa=>?_);replace aa:=Rp.Is.le aa (Le.q (l:=4*k+q+6) oM);have J:=(Le.q (l:=4*k+q+6) oM).R z;refine yO (A:=[_,_]) rfl (uB sizeOf29 pH J aa) fun ae Z=>(go8 ?_);refine xM (A:=[]) (xM (A:=[]) ?_);refine gqL ((m+1),(q+(4*k+9)),ae,h4) ?_ ?_
  · exact⟨mle,(Rp.castR (Le.R (Le.q (l:=q+(4*k+9)) oM) Z) rfl),by omega,by rw[Nat.mul_succ];omega⟩
  omega
 have em:m=l.length:=by omega
 have bc:=Nat.mul_le_mul_left (4*k+9) (show m≤1000 by omega);refine go7 ?_;refine lX (xB yB pH z) fun bj aq=>?_;have I:=(Le.q (l:=q+1) oM).R ap;refine yE (A:=[_]) (uB sizeOf29 pH I (aq.le (Le.q (l:=q+1) oM))) fun bd U=>(go3 ?_);refine uR (tU (t:=2) yB mh1 rfl U) ?_;intro bh H O;refine yS (fun E S=>yD rfl H E S) ?_;exact(Rp.Is.cast (Rp.Is.le O (Le.q (l:=1000000000) oM)) (by rw[em]))
theorem fR{w0:World}{h0:Mem}(hs:MLe h0 (mem w0)){k:Nat}{va:Value}{a:Tq}(ra:(tPt k).Is h0 va a){vb:Value}{b:Tq}(rb:(tPt k).Is h0 vb b){vc:Value}{c:Tq}(rc:(tPt k).Is h0 vc c)(hcd0:k≤10000):
 Calls Tryz.prog 186 #[va,vb,vc] w0 (Ret w0 h0 (fun _ r=>r=vI (orZ (pr a 0 1) (pr b 0 1) (pr c 0 1)))):=by
 refine cb3 13 va vb vc func186 hs ?_;refine go2 ?_;refine nB ra fun b3 aj I=>(nB rb fun b4 ai H=>(nB rc fun b5 ah G=>(go5 ?_)));refine lX (xB zN pH I) fun v7 r7=>(lX (xB zN pH H) fun v8 r8=>(lX (xB zN pH G) fun v9 r9=>(zI (zU (ρ:=(tPt (k+1))) (m:=3) (xs:=[a,b,c]) (ps':=[(0,_),(1,_),(2,_)]) underlying35 yX rfl rfl rfl (wB (yN oM)) e6z (zH rfl (Pc.arr (Pc.here _) zT 0 dC) (r7.le (Le.t (Le.q (l:=k+1) oM))) (zH rfl (Pc.arr (Pc.here _) zT 1 dC) (r8.le (Le.t (Le.q (l:=k+1) oM))) (zH rfl (Pc.arr (Pc.here _) zT 2 dC) (r9.le (Le.t (Le.q (l:=k+1) oM))) zW))) (show 3*9≤16777216 from by decide) nP) rfl rfl rfl ?_)))
 rintro aa ab ⟨U,rfl,C⟩
 refine zY (A:=[]) (ρ:=(tPt (k+1))) C ?_;intro h1 ae z;refine cL (ev1 rfl) call131 (fun w hs=>rK hs z oM (by first|omega|exact(by decide:3≤1000))) fun Z h2 ad M=>(cL (ev1 rfl) call48 (fun w hs=>qF hs M dC) fun D h3 ac J=>?_);obtain rfl:D=vI (xC (uT [a,b,c] 0 1 [a,b,c].length)):=J;have O:=yY (uT [a,b,c] 0 1 [a,b,c].length);refine go4 ?_;refine zC rfl rfl ?_;exact congrArg vI (zUX a b c)
theorem nT{w0:World}{h0:Mem}(hs:MLe h0 (mem w0)){k:Nat}{va:Value}{a:Tq}(ra:(tPt k).Is h0 va a){vb:Value}{b:Tq}(rb:(tPt k).Is h0 vb b){vp:Value}{p:Tq}(rp:(tPt k).Is h0 vp p)(hcd0:k≤10000):
 Calls Tryz.prog 184 #[va,vb,vp] w0 (Ret w0 h0 (fun _ r=>r=vB (onS (pr a 0 1) (pr b 0 1) (pr p 0 1)))):=by
 refine cb3 29 va vb vp func184 hs ?_;refine go2 ?_;refine nB ra fun b3 bh O=>(nB rb fun b4 bg M=>(nB rp fun b5 aj ac=>(go3 ?_)));refine qN (ι:=List Value×List Value×Mem) (fun(C,z,U)=>MLe h0 U∧((tPt k).R U C (loT a b 0 1)∧(tPt k).R U z (hiT a b 0 1)∧True)) (fun(C,z,U)=>[(3,vP b3 0),(4,vP b4 0),(5,vP b5 0)]) (fun(C,z,U)=>[.var b5 31 aj,.var b4 31 z,.var b3 31 C]) (fun(C,z,U)=>U) ?_ ?_
 ·
  refine go2 ?_;refine lX (xB zN pH M) fun v7 r7=>(lX (xB zN pH O) fun v8 r8=>(cL (ev2 rfl rfl) call200 (fun w hs=>rJ hs r7 r8 oM) fun v9 h1 ae r9=>?_));obtain rfl:v9=vB (lx (pr b 0 1) (pr a 0 1)):=r9;refine gc2 (fun J=>?_) fun J=>?_
  ·
   refine go1 ?_;refine lX (xB zN pH M) fun br be=>(lX (xB zN pH O) fun bq bd=>(yE (A:=[_,_]) (uB sizeOf31 pH O be) fun ai ab=>(yE (A:=[_]) (uB sizeOf31 pH M bd) fun ah aa=>(go1 ?_))));refine zQ (ai,ah,h1) ?_ e3z rfl rfl;refine⟨ae,?_⟩;refine⟨(Rp.castR ab (if_pos J).symm),(Rp.castR aa (if_pos J).symm),?_⟩
   trivial
  refine go1 ?_;refine zQ (bh,bg,h1) ?_ e3z rfl rfl;refine⟨ae,?_⟩;refine⟨(Rp.castR O.up (if_neg J).symm),(Rp.castR M.up (if_neg J).symm),?_⟩
  trivial
 rintro⟨C,z,U⟩ ⟨bi,Z⟩
 refine yW ?_;obtain⟨G,D,Z⟩:=Z;refine go2 ?_;refine lX (xB zN pH G) fun bp bc=>(lX (xB zN pH D) fun bo bb=>(lX (xB zN pH ac) fun bn ba=>(cL (ev3 rfl rfl rfl) call186 (fun w hs=>fR hs bc bb ba oM) fun aq h1 ae az=>?_)));obtain rfl:aq=vI (orZ (pr (loT a b 0 1) 0 1) (pr (hiT a b 0 1) 0 1) (pr p 0 1)):=az;have bf:=fL (pr (loT a b 0 1) 0 1) (pr (hiT a b 0 1) 0 1) (pr p 0 1);refine go1 ?_;refine uS (ι:=Mem) 6 (fun m_=>MLe h1 m_) (fun _=>[(22,vB (((orZ (pr (loT a b 0 1) 0 1) (pr (hiT a b 0 1) 0 1) (pr p 0 1))=(0:Int))∧(¬(lx (pr p 0 1) (pr (loT a b 0 1) 0 1))))),(4,vP b4 0),(5,vP b5 0)]) (fun _=>[.var b5 31 aj,.var b4 31 z,.var b3 31 C]) (fun m_=>m_) ?_ ?_
 ·
  refine zS ((orZ (pr (loT a b 0 1) 0 1) (pr (hiT a b 0 1) 0 1) (pr p 0 1))=(0:Int)) (fun I=>?_) (fun I=>?_)
  ·
   refine gT I rfl (go1 ?_);refine lX (xB zN pH ac) fun bm ay=>(go1 ?_);refine lX (xB zN pH G) fun bl ax=>(go1 ?_);refine cL (ev2 rfl rfl) call200 (fun w hs=>rJ hs ay ax oM) fun ap h2 ad aw=>?_;obtain rfl:ap=vB (lx (pr p 0 1) (pr (loT a b 0 1) 0 1)):=aw;refine go4 ?_;refine zQ h2 ad ⟨?_,rfl,rfl,trivial⟩ rfl rfl;exact congrArg some (yU I)
  refine gF I rfl (go6 ?_);refine zQ h1 (MLe.refl _) ⟨?_,rfl,rfl,trivial⟩ rfl rfl;exact congrArg some (yV I)
 intro H am;refine sE ?_;refine uS (ι:=Mem) 6 (fun m_=>MLe H m_) (fun _=>[(28,vB ((((orZ (pr (loT a b 0 1) 0 1) (pr (hiT a b 0 1) 0 1) (pr p 0 1))=(0:Int))∧(¬(lx (pr p 0 1) (pr (loT a b 0 1) 0 1))))∧(¬(lx (pr (hiT a b 0 1) 0 1) (pr p 0 1)))))]) (fun _=>[.var b5 31 aj,.var b4 31 z,.var b3 31 C]) (fun m_=>m_) ?_ ?_
 ·
  refine zS (((orZ (pr (loT a b 0 1) 0 1) (pr (hiT a b 0 1) 0 1) (pr p 0 1))=(0:Int))∧(¬(lx (pr p 0 1) (pr (loT a b 0 1) 0 1)))) (fun I=>?_) (fun I=>?_)
  ·
   refine gT I rfl (go1 ?_);refine lX (xB zN pH D) fun bk av=>(go1 ?_);refine lX (xB zN pH ac) fun bj au=>(go1 ?_);refine cL (ev2 rfl rfl) call200 (fun w hs=>rJ hs av au oM) fun ao h2 ad ar=>?_;obtain rfl:ao=vB (lx (pr (hiT a b 0 1) 0 1) (pr p 0 1)):=ar;refine go4 ?_;refine zQ h2 ad ⟨?_,trivial⟩ rfl rfl;exact congrArg some (yU I)
  refine gF I rfl (go6 ?_);refine zQ H (MLe.refl _) ⟨?_,trivial⟩ rfl rfl;exact congrArg some (yV I)
 intro an ak;refine sE ?_;refine go4 ?_;refine zC rfl rfl ?_
 first|exact jI (by rw[←zZV];grind)|exact(xE (by rw[←zZV];grind)).symm|exact(yJ (by rw[←zZV];grind)).symm
theorem zOR{w0:World}{h0:Mem}(hs:MLe h0 (mem w0)){k:Nat}{va:Value}{a:Tq}(ra:(tPt k).Is h0 va a){vb:Value}{b:Tq}(rb:(tPt k).Is h0 vb b){vc:Value}{c:Tq}(rc:(tPt k).Is h0 vc c){vd:Value}{d:Tq}(rd:(tPt k).Is h0 vd d)(hcd0:k≤9000):
 Calls Tryz.prog 201 #[va,vb,vc,vd] w0 (Ret w0 h0 (fun _ r=>r=vI (zA5 (pr a 0 1) (pr b 0 1) (pr c 0 1) (pr d 0 1)))):=by
 refine qM (n:=72) (e:=[(0,va),(1,vb),(2,vc),(3,vd)]) (vs:=[va,vb,vc,vd]) func201 rfl rfl (bL rfl) hs e4z (go2 ?_);refine nB ra fun b4 ab av=>(nB rb fun b5 aa au=>(nB rc fun b6 Z an=>(nB rd fun b7 U am=>(go4 ?_))));refine zL 6 _ [(2,(9,31,[.bool false,.slice none 0 0,.slice none 0 0,.bool false,.slice none 0 0,.slice none 0 0,.bool false,.slice none 0 0,.slice none 0 0])),(3,(10,31,[.bool false,.slice none 0 0,.slice none 0 0,.bool false,.slice none 0 0,.slice none 0 0,.bool false,.slice none 0 0,.slice none 0 0]))] [(0,.q),(1,.q),(2,.a),(3,.a),(4,.c),(5,.c)] yA (kW.cons rfl rfl (jK yX rfl rfl) (kW.cons rfl rfl (jK yX rfl rfl) kW.nil)) (by kernel_rfl) (jM rfl rfl (jM rfl rfl sQ)) (fun r hr=>hr) (wX rfl (xB zN pH av) fun fj dz=>(wX rfl (xB zN pH au) fun fi dy=>?_));refine w_a rfl rfl (fun b9=>?_);have cb:(tPt (k+1)).R h0 [.bool false,.slice none 0 0,.slice none 0 0,.bool false,.slice none 0 0,.slice none 0 0,.bool false,.slice none 0 0,.slice none 0 0] zT:=(wB (yN oM));refine w_a rfl rfl (fun I=>?_);have bh:(tPt (k+1)).R h0 [.bool false,.slice none 0 0,.slice none 0 0,.bool false,.slice none 0 0,.slice none 0 0,.bool false,.slice none 0 0,.slice none 0 0] zT:=(wB (yN oM));refine w_c rfl (iK (A:=[_]) (uB sizeOf31 pH cb (dz.le (Le.t (Le.q (l:=k+1) oM)))) (wP (by first|(simp;done)|grind)) fun bd ad=>?_);refine w_c rfl (iK (A:=[]) (uB sizeOf31 pH bh (dy.le (Le.t (Le.q (l:=k+1) oM)))) (wP (by first|(simp;done)|grind)) fun ar ac=>(go2 ?_));refine qN (ι:=List Value×Mem) (fun(z,m1)=>MLe h0 m1∧((tPt (k+1)).R m1 z (mxT a c 0 1)∧True)) (fun(z,m1)=>[(4,vP b4 0),(5,vP b5 0),(6,vP b6 0),(7,vP b7 0),(9,vP b9 0),(10,vP I 0)]) (fun(z,m1)=>[.var I 31 ar,.var b9 31 z,.var b7 31 U,.var b6 31 Z,.var b5 31 aa,.var b4 31 ab]) (fun(z,m1)=>m1) ?_ ?_
 ·
  refine go2 ?_;refine lX (xB zN pH ad) fun fh dx=>(lX (xB zN pH an) fun fg dw=>(cL (ev2 rfl rfl) call200 (fun w hs=>rJ hs dx (dw.le (Le.t (Le.q (l:=k+1) oM))) oM) fun ca h1 aj dv=>?_));obtain rfl:ca=vB (lx (pr a 0 1) (pr c 0 1)):=dv;refine gc2 (fun aq=>?_) fun aq=>?_
  ·
   refine go1 ?_;refine lX (xB zN pH an) fun ff du=>(yE (A:=[_]) (uB sizeOf31 pH ad (du.le (Le.t (Le.q (l:=k+1) oM)))) fun bc ax=>(go1 ?_));refine zQ (bc,h1) ?_ e6z rfl rfl;refine⟨aj,?_⟩;refine⟨(Rp.castR ax (if_pos aq).symm),?_⟩
   trivial
  refine go1 ?_;refine zQ (bd,h1) ?_ e6z rfl rfl;refine⟨aj,?_⟩;refine⟨(Rp.castR ad.up (if_neg aq).symm),?_⟩
  trivial
 rintro⟨z,m1⟩ ⟨eb,O⟩
 refine yW ?_;obtain⟨D,O⟩:=O;refine qN (ι:=List Value×Mem) (fun(C,m2)=>MLe m1 m2∧((tPt (k+1)).R m2 C (mnT b d 0 1)∧True)) (fun(C,m2)=>[(4,vP b4 0),(5,vP b5 0),(6,vP b6 0),(7,vP b7 0),(9,vP b9 0),(10,vP I 0)]) (fun(C,m2)=>[.var I 31 C,.var b9 31 z,.var b7 31 U,.var b6 31 Z,.var b5 31 aa,.var b4 31 ab]) (fun(C,m2)=>m2) ?_ ?_
 ·
  refine go2 ?_;refine lX (xB zN pH am) fun fe dt=>(lX (xB zN pH ac) fun fd dr=>(cL (ev2 rfl rfl) call200 (fun w hs=>rJ hs (dt.le (Le.t (Le.q (l:=k+1) oM))) dr oM) fun bz h1 aj dq=>?_));obtain rfl:bz=vB (lx (pr d 0 1) (pr b 0 1)):=dq;refine gc2 (fun ap=>?_) fun ap=>?_
  ·
   refine go1 ?_;refine lX (xB zN pH am) fun fc dp=>(yE (A:=[]) (uB sizeOf31 pH ac (dp.le (Le.t (Le.q (l:=k+1) oM)))) fun bb aw=>(go1 ?_));refine zQ (bb,h1) ?_ e6z rfl rfl;refine⟨aj,?_⟩;refine⟨(Rp.castR aw (if_pos ap).symm),?_⟩
   trivial
  refine go1 ?_;refine zQ (ar,h1) ?_ e6z rfl rfl;refine⟨aj,?_⟩;refine⟨(Rp.castR ac.up (if_neg ap).symm),?_⟩
  trivial
 rintro⟨C,m2⟩ ⟨ea,O⟩
 refine yW ?_;obtain⟨ak,O⟩:=O;refine go4 ?_;refine lX (xB zN pH ak) fun fb dn=>(lX (xB zN pH D) fun fa dm=>(cL (ev2 rfl rfl) call200 (fun w hs=>rJ hs dn dm oM) fun bx h1 aj dl=>?_));obtain rfl:bx=vB (lx (pr (mnT b d 0 1) 0 1) (pr (mxT a c 0 1) 0 1)):=dl;refine gc3 (fun bm=>?_) fun bm=>?_
 ·
  refine go8 ?_;refine zC rfl rfl ?_;refine congrArg vI ?_;rw[←zDA rfl rfl];unfold zDB;grind
 refine go2 ?_;refine lX (xB zN pH D) fun ez dk=>(lX (xB zN pH ak) fun ey dj=>(cL (ev2 rfl rfl) call174 (fun w hs=>qI hs dk dj oM) fun bw h2 fl di=>?_));obtain rfl:bw=vB ((pr (mxT a c 0 1) 0 1)=(pr (mnT b d 0 1) 0 1)):=di;refine gc4 (fun bl=>?_) fun bl=>?_
 ·
  refine go8 ?_;refine zC rfl rfl ?_;refine congrArg vI ?_;rw[←zDA rfl rfl];unfold zDB;grind
 refine go2 ?_;refine lX (xB zN pH D) fun ew dh=>(lX (xB zN pH av) fun ev df=>(cL (ev2 rfl rfl) call174 (fun w hs=>qI hs dh (df.le (Le.t (Le.q (l:=k+1) oM))) oM) fun bv h3 fk de=>?_));obtain rfl:bv=vB ((pr (mxT a c 0 1) 0 1)=(pr a 0 1)):=de;refine uS (ι:=Mem) 5 (fun H=>MLe h3 H) (fun _=>[(38,vB (((pr (mxT a c 0 1) 0 1)=(pr a 0 1))∨((pr (mxT a c 0 1) 0 1)=(pr b 0 1)))),(4,vP b4 0),(5,vP b5 0),(6,vP b6 0),(7,vP b7 0),(9,vP b9 0)]) (fun _=>[.var I 31 C,.var b9 31 z,.var b7 31 U,.var b6 31 Z,.var b5 31 aa,.var b4 31 ab]) (fun H=>H) ?_ ?_
 ·
  refine zS ((pr (mxT a c 0 1) 0 1)=(pr a 0 1)) (fun G=>?_) (fun G=>?_)
  ·
   refine gT G rfl (go5 ?_);refine zQ h3 (MLe.refl _) ⟨?_,rfl,rfl,rfl,rfl,rfl,trivial⟩ rfl rfl;exact congrArg some (wU G)
  refine gF G rfl (go1 ?_);refine lX (xB zN pH D) fun eu dd=>(go1 ?_);refine lX (xB zN pH au) fun es dc=>(go1 ?_);refine cL (ev2 rfl rfl) call174 (fun w hs=>qI hs dd (dc.le (Le.t (Le.q (l:=k+1) oM))) oM) fun bu h4 M db=>?_;obtain rfl:bu=vB ((pr (mxT a c 0 1) 0 1)=(pr b 0 1)):=db;refine go2 ?_;refine zQ h4 M ⟨?_,rfl,rfl,rfl,rfl,rfl,trivial⟩ rfl rfl;exact congrArg some (wV G)
 intro ai bg;refine sE ?_;refine uS (ι:=Mem) 10 (fun H=>MLe ai H) (fun _=>[(48,vB ((((pr (mxT a c 0 1) 0 1)=(pr a 0 1))∨((pr (mxT a c 0 1) 0 1)=(pr b 0 1)))∧(((pr (mxT a c 0 1) 0 1)=(pr c 0 1))∨((pr (mxT a c 0 1) 0 1)=(pr d 0 1))))),(4,vP b4 0),(5,vP b5 0),(6,vP b6 0),(7,vP b7 0),(9,vP b9 0)]) (fun _=>[.var I 31 C,.var b9 31 z,.var b7 31 U,.var b6 31 Z,.var b5 31 aa,.var b4 31 ab]) (fun H=>H) ?_ ?_
 ·
  refine zS (((pr (mxT a c 0 1) 0 1)=(pr a 0 1))∨((pr (mxT a c 0 1) 0 1)=(pr b 0 1))) (fun G=>?_) (fun G=>?_)
  ·
   refine gT G rfl (go1 ?_);refine lX (xB zN pH D) fun er da=>(go1 ?_);refine lX (xB zN pH an) fun eq cz=>(go1 ?_);refine cL (ev2 rfl rfl) call174 (fun w hs=>qI hs da (cz.le (Le.t (Le.q (l:=k+1) oM))) oM) fun bt h4 M cy=>?_;obtain rfl:bt=vB ((pr (mxT a c 0 1) 0 1)=(pr c 0 1)):=cy;refine uS (ι:=Mem) 5 (fun H=>MLe h4 H) (fun _=>[(47,vB (((pr (mxT a c 0 1) 0 1)=(pr c 0 1))∨((pr (mxT a c 0 1) 0 1)=(pr d 0 1)))),(4,vP b4 0),(5,vP b5 0),(6,vP b6 0),(7,vP b7 0),(9,vP b9 0),(39,.bool true)]) (fun _=>[.var I 31 C,.var b9 31 z,.var b7 31 U,.var b6 31 Z,.var b5 31 aa,.var b4 31 ab]) (fun H=>H) ?_ ?_
   ·
    refine zS ((pr (mxT a c 0 1) 0 1)=(pr c 0 1)) (fun G=>?_) (fun G=>?_)
    ·
     refine go1 ?_;refine gT G rfl (go6 ?_);refine zQ h4 (MLe.refl _) ⟨?_,rfl,rfl,rfl,rfl,rfl,rfl,trivial⟩ rfl rfl;exact congrArg some (wU G)
    refine go1 ?_;refine gF G rfl (go1 ?_);refine lX (xB zN pH D) fun ep cw=>(go1 ?_);refine lX (xB zN pH am) fun eo cv=>(go1 ?_);refine cL (ev2 rfl rfl) call174 (fun w hs=>qI hs cw (cv.le (Le.t (Le.q (l:=k+1) oM))) oM) fun bs h5 ba cu=>?_;obtain rfl:bs=vB ((pr (mxT a c 0 1) 0 1)=(pr d 0 1)):=cu;refine go3 ?_;refine zQ h5 ba ⟨?_,rfl,rfl,rfl,rfl,rfl,rfl,trivial⟩ rfl rfl;exact congrArg some (wV G)
   intro ao ae;refine sE ?_;refine go2 ?_;refine zQ ao (M.trans ae) ⟨?_,rfl,rfl,rfl,rfl,rfl,trivial⟩ rfl rfl;exact congrArg some (yU G)
  refine gF G rfl (uA ?_);refine zQ ai (MLe.refl _) ⟨?_,rfl,rfl,rfl,rfl,rfl,trivial⟩ rfl rfl;exact congrArg some (yV G)
 intro ah bf;refine sE ?_;refine uS (ι:=Mem) 6 (fun H=>MLe ah H) (fun _=>[(54,vB (((((pr (mxT a c 0 1) 0 1)=(pr a 0 1))∨((pr (mxT a c 0 1) 0 1)=(pr b 0 1)))∧(((pr (mxT a c 0 1) 0 1)=(pr c 0 1))∨((pr (mxT a c 0 1) 0 1)=(pr d 0 1))))∧(onS (pr a 0 1) (pr b 0 1) (pr (mxT a c 0 1) 0 1)))),(4,vP b4 0),(5,vP b5 0),(6,vP b6 0),(7,vP b7 0),(9,vP b9 0)]) (fun _=>[.var I 31 C,.var b9 31 z,.var b7 31 U,.var b6 31 Z,.var b5 31 aa,.var b4 31 ab]) (fun H=>H) ?_ ?_
 ·
  refine zS ((((pr (mxT a c 0 1) 0 1)=(pr a 0 1))∨((pr (mxT a c 0 1) 0 1)=(pr b 0 1)))∧(((pr (mxT a c 0 1) 0 1)=(pr c 0 1))∨((pr (mxT a c 0 1) 0 1)=(pr d 0 1)))) (fun G=>?_) (fun G=>?_)
  ·
   refine gT G rfl (go1 ?_);refine lX (xB zN pH av) fun en ct=>(go1 ?_);refine lX (xB zN pH au) fun em cq=>(go1 ?_);refine lX (xB zN pH D) fun el cp=>(go1 ?_);refine cL (ev3 rfl rfl rfl) call184 (fun w hs=>nT hs (ct.le (Le.t (Le.q (l:=k+1) oM))) (cq.le (Le.t (Le.q (l:=k+1) oM))) cp oM) fun br h4 M co=>?_;obtain rfl:br=vB (onS (pr a 0 1) (pr b 0 1) (pr (mxT a c 0 1) 0 1)):=co;refine go2 ?_;refine zQ h4 M ⟨?_,rfl,rfl,rfl,rfl,rfl,trivial⟩ rfl rfl;exact congrArg some (yU G)
  refine gF G rfl (go6 ?_);refine zQ ah (MLe.refl _) ⟨?_,rfl,rfl,rfl,rfl,rfl,trivial⟩ rfl rfl;exact congrArg some (yV G)
 intro J az;refine sE ?_;refine uS (ι:=Mem) 6 (fun H=>MLe J H) (fun _=>[(60,vB ((((((pr (mxT a c 0 1) 0 1)=(pr a 0 1))∨((pr (mxT a c 0 1) 0 1)=(pr b 0 1)))∧(((pr (mxT a c 0 1) 0 1)=(pr c 0 1))∨((pr (mxT a c 0 1) 0 1)=(pr d 0 1))))∧(onS (pr a 0 1) (pr b 0 1) (pr (mxT a c 0 1) 0 1)))∧(onS (pr c 0 1) (pr d 0 1) (pr (mxT a c 0 1) 0 1)))),(4,vP b4 0),(5,vP b5 0),(6,vP b6 0),(7,vP b7 0),(9,vP b9 0)]) (fun _=>[.var I 31 C,.var b9 31 z,.var b7 31 U,.var b6 31 Z,.var b5 31 aa,.var b4 31 ab]) (fun H=>H) ?_ ?_
 ·
  refine zS (((((pr (mxT a c 0 1) 0 1)=(pr a 0 1))∨((pr (mxT a c 0 1) 0 1)=(pr b 0 1)))∧(((pr (mxT a c 0 1) 0 1)=(pr c 0 1))∨((pr (mxT a c 0 1) 0 1)=(pr d 0 1))))∧(onS (pr a 0 1) (pr b 0 1) (pr (mxT a c 0 1) 0 1))) (fun G=>?_) (fun G=>?_)
  ·
   refine gT G rfl (go1 ?_);refine lX (xB zN pH an) fun ek cn=>(go1 ?_);refine lX (xB zN pH am) fun ej cm=>(go1 ?_);refine lX (xB zN pH D) fun ei cl=>(go1 ?_);refine cL (ev3 rfl rfl rfl) call184 (fun w hs=>nT hs (cn.le (Le.t (Le.q (l:=k+1) oM))) (cm.le (Le.t (Le.q (l:=k+1) oM))) cl oM) fun bq h4 M ck=>?_;obtain rfl:bq=vB (onS (pr c 0 1) (pr d 0 1) (pr (mxT a c 0 1) 0 1)):=ck;refine go2 ?_;refine zQ h4 M ⟨?_,rfl,rfl,rfl,rfl,rfl,trivial⟩ rfl rfl;exact congrArg some (yU G)
  refine gF G rfl (go6 ?_);refine zQ J (MLe.refl _) ⟨?_,rfl,rfl,rfl,rfl,rfl,trivial⟩ rfl rfl;exact congrArg some (yV G)
 intro bi ay;refine sE ?_;refine gc3 (fun bk=>?_) fun bk=>?_
 ·
  refine go8 ?_;refine zC rfl rfl ?_;refine congrArg vI ?_;rw[←zDA rfl rfl];unfold zDB;grind
 refine go2 ?_;refine lX (xB zN pH av) fun eh cj=>(lX (xB zN pH au) fun eg ci=>(lX (xB zN pH D) fun ef ch=>(cL (ev3 rfl rfl rfl) call184 (fun w hs=>nT hs (cj.le (Le.t (Le.q (l:=k+1) oM))) (ci.le (Le.t (Le.q (l:=k+1) oM))) ch oM) fun bp h4 M cg=>?_)));obtain rfl:bp=vB (onS (pr a 0 1) (pr b 0 1) (pr (mxT a c 0 1) 0 1)):=cg;refine uS (ι:=Mem) 6 (fun H=>MLe h4 H) (fun _=>[(71,vB ((onS (pr a 0 1) (pr b 0 1) (pr (mxT a c 0 1) 0 1))∧(onS (pr c 0 1) (pr d 0 1) (pr (mxT a c 0 1) 0 1))))]) (fun _=>[.var I 31 C,.var b9 31 z,.var b7 31 U,.var b6 31 Z,.var b5 31 aa,.var b4 31 ab]) (fun H=>H) ?_ ?_
 ·
  refine zS (onS (pr a 0 1) (pr b 0 1) (pr (mxT a c 0 1) 0 1)) (fun G=>?_) (fun G=>?_)
  ·
   refine gT G rfl (go1 ?_);refine lX (xB zN pH an) fun ee cf=>(go1 ?_);refine lX (xB zN pH am) fun ed ce=>(go1 ?_);refine lX (xB zN pH D) fun ec cd=>(go1 ?_);refine cL (ev3 rfl rfl rfl) call184 (fun w hs=>nT hs (cf.le (Le.t (Le.q (l:=k+1) oM))) (ce.le (Le.t (Le.q (l:=k+1) oM))) cd oM) fun bo h5 ba cc=>?_;obtain rfl:bo=vB (onS (pr c 0 1) (pr d 0 1) (pr (mxT a c 0 1) 0 1)):=cc;refine go2 ?_;refine zQ h5 ba ⟨?_,trivial⟩ rfl rfl;exact congrArg some (yU G)
  refine gF G rfl (go6 ?_);refine zQ h4 (MLe.refl _) ⟨?_,trivial⟩ rfl rfl;exact congrArg some (yV G)
 intro bn be;refine sE ?_;refine gc3 (fun bj=>?_) fun bj=>?_
 ·
  refine go8 ?_;refine zC rfl rfl ?_;refine congrArg vI ?_;rw[←zDA rfl rfl];unfold zDB;grind
 refine go9 ?_;refine zC rfl rfl ?_;refine congrArg vI ?_;rw[←zDA rfl rfl];unfold zDB;grind
theorem zIF{w0:World}{h0:Mem}(hs:MLe h0 (mem w0)){k:Nat}{va:Value}{a:Tq}(ra:(tPt k).Is h0 va a){vb:Value}{b:Tq}(rb:(tPt k).Is h0 vb b){vc:Value}{c:Tq}(rc:(tPt k).Is h0 vc c){vd:Value}{d:Tq}(rd:(tPt k).Is h0 vd d)(hcd0:k≤10000):
 Calls Tryz.prog 202 #[va,vb,vc,vd] w0 (Ret w0 h0 (fun _ r=>r=vI (eC (pr a 0 1) (pr b 0 1) (pr c 0 1) (pr d 0 1)))):=by
 refine qM (n:=29) (e:=[(0,va),(1,vb),(2,vc),(3,vd)]) (vs:=[va,vb,vc,vd]) func202 rfl rfl (bL rfl) hs e4z (go2 ?_);refine nB ra fun b4 ab M=>(nB rb fun b5 aa ad=>(nB rc fun b6 Z J=>(nB rd fun b7 U ac=>(go6 ?_))));refine lX (xB zN pH M) fun v9 r9=>(lX (xB zN pH ad) fun bm bb=>(cL (ev2 rfl rfl) call174 (fun w hs=>qI hs r9 bb oM) fun am h1 bn ba=>?_));obtain rfl:am=vB ((pr a 0 1)=(pr b 0 1)):=ba;refine uS (ι:=Mem) 6 (fun G=>MLe h1 G) (fun _=>[(17,vB (((pr a 0 1)=(pr b 0 1))∧(onS (pr c 0 1) (pr d 0 1) (pr a 0 1)))),(4,vP b4 0),(5,vP b5 0),(6,vP b6 0),(7,vP b7 0)]) (fun _=>[.var b7 31 U,.var b6 31 Z,.var b5 31 aa,.var b4 31 ab]) (fun G=>G) ?_ ?_
 ·
  refine zS ((pr a 0 1)=(pr b 0 1)) (fun z=>?_) (fun z=>?_)
  ·
   refine gT z rfl (go1 ?_);refine lX (xB zN pH J) fun bl az=>(go1 ?_);refine lX (xB zN pH ac) fun bk ay=>(go1 ?_);refine lX (xB zN pH M) fun bj ax=>(go1 ?_);refine cL (ev3 rfl rfl rfl) call184 (fun w hs=>nT hs az ay ax oM) fun ak h2 O aw=>?_;obtain rfl:ak=vB (onS (pr c 0 1) (pr d 0 1) (pr a 0 1)):=aw;refine go2 ?_;refine zQ h2 O ⟨?_,rfl,rfl,rfl,rfl,trivial⟩ rfl rfl;exact congrArg some (yU z)
  refine gF z rfl (go6 ?_);refine zQ h1 (MLe.refl _) ⟨?_,rfl,rfl,rfl,rfl,trivial⟩ rfl rfl;exact congrArg some (yV z)
 intro D ah;refine sE ?_;refine uS (ι:=Mem) 11 (fun G=>MLe D G) (fun _=>[(28,vB ((((pr a 0 1)=(pr b 0 1))∧(onS (pr c 0 1) (pr d 0 1) (pr a 0 1)))∨(((pr c 0 1)=(pr d 0 1))∧(onS (pr a 0 1) (pr b 0 1) (pr c 0 1)))))]) (fun _=>[.var b7 31 U,.var b6 31 Z,.var b5 31 aa,.var b4 31 ab]) (fun G=>G) ?_ ?_
 ·
  refine zS (((pr a 0 1)=(pr b 0 1))∧(onS (pr c 0 1) (pr d 0 1) (pr a 0 1))) (fun z=>?_) (fun z=>?_)
  ·
   refine gT z rfl (qA ?_);refine zQ D (MLe.refl _) ⟨?_,trivial⟩ rfl rfl;exact congrArg some (wU z)
  refine gF z rfl (go1 ?_);refine lX (xB zN pH J) fun bi av=>(go1 ?_);refine lX (xB zN pH ac) fun bh au=>(go1 ?_);refine cL (ev2 rfl rfl) call174 (fun w hs=>qI hs av au oM) fun aj h2 O ar=>?_;obtain rfl:aj=vB ((pr c 0 1)=(pr d 0 1)):=ar;refine uS (ι:=Mem) 6 (fun G=>MLe h2 G) (fun _=>[(27,vB (((pr c 0 1)=(pr d 0 1))∧(onS (pr a 0 1) (pr b 0 1) (pr c 0 1)))),(18,.bool false)]) (fun _=>[.var b7 31 U,.var b6 31 Z,.var b5 31 aa,.var b4 31 ab]) (fun G=>G) ?_ ?_
  ·
   refine zS ((pr c 0 1)=(pr d 0 1)) (fun z=>?_) (fun z=>?_)
   ·
    refine go1 ?_;refine gT z rfl (go1 ?_);refine lX (xB zN pH M) fun bg aq=>(go1 ?_);refine lX (xB zN pH ad) fun bf ap=>(go1 ?_);refine lX (xB zN pH J) fun be ao=>(go1 ?_);refine cL (ev3 rfl rfl rfl) call184 (fun w hs=>nT hs aq ap ao oM) fun ai h3 bd an=>?_;obtain rfl:ai=vB (onS (pr a 0 1) (pr b 0 1) (pr c 0 1)):=an;refine go3 ?_;refine zQ h3 bd ⟨?_,rfl,trivial⟩ rfl rfl;exact congrArg some (yU z)
   refine go1 ?_;refine gF z rfl (go7 ?_);refine zQ h2 (MLe.refl _) ⟨?_,rfl,trivial⟩ rfl rfl;exact congrArg some (yV z)
  intro I C;refine sE ?_;refine go2 ?_;refine zQ I (O.trans C) ⟨?_,trivial⟩ rfl rfl;exact congrArg some (wV z)
 intro bc ae;refine sE ?_;refine gc2 (fun H=>?_) fun H=>?_
 ·
  refine go7 ?_;refine zC rfl rfl ?_;exact congrArg vI (if_pos H).symm
 refine go8 ?_;refine zC rfl rfl ?_;exact congrArg vI (if_neg H).symm
theorem zCU{w0:World}{h0:Mem}(hs:MLe h0 (mem w0)){k:Nat}{va:Value}{a:Tq}(ra:(tPt k).Is h0 va a){vb:Value}{b:Tq}(rb:(tPt k).Is h0 vb b){vc:Value}{c:Tq}(rc:(tPt k).Is h0 vc c){vd:Value}{d:Tq}(rd:(tPt k).Is h0 vd d)(hcd0:k≤5000):
 Calls Tryz.prog 175 #[va,vb,vc,vd] w0 (Ret w0 h0 (fun _ r=>r=vI (nL (pr a 0 1) (pr b 0 1) (pr c 0 1) (pr d 0 1)))):=by
 refine qM (n:=117) (e:=[(0,va),(1,vb),(2,vc),(3,vd)]) (vs:=[va,vb,vc,vd]) func175 rfl rfl (bL rfl) hs e4z (go2 ?_);refine nB ra fun b4 jx cb=>(nB rb fun b5 jw ca=>(nB rc fun b6 jv bz=>(nB rd fun b7 ju bx=>(go4 ?_))));refine zL 8 _ [] [(0,.q),(2,.q),(4,.q),(6,.q),(1,.c),(3,.c),(5,.c),(7,.c),(8,.t),(9,.t),(10,.t),(11,.t)] yA nX (wI (by kernel_rfl)) nX (fun r hr=>hr) (wX rfl (xB zN pH cb) fun jm gj=>(wX rfl (xB zN pH ca) fun jk gg=>(wX rfl (xB zN pH bz) fun ji ge=>(wX rfl (xB zN pH bx) fun jg gb=>?_))));refine w_c rfl (sC (ev1 rfl) call185 (fun w hs=>pL hs gj) fun jl h1 js gh=>?_);refine w_c rfl (sC (ev1 rfl) call185 (fun w hs=>pL hs gg.up) fun jj h2 jr gf=>?_);refine w_c rfl (sC (ev1 rfl) call185 (fun w hs=>pL hs ge.up) fun jh h3 jq gc=>?_);refine w_c rfl (sC (ev1 rfl) call185 (fun w hs=>pL hs gb.up) fun jf h4 jp ga=>?_);have bc:=(Le.t (Le.q (l:=k+1) oM)).R cb;refine yO (A:=[_,_,_]) rfl (uB sizeOf31 pH bc gh) fun bo ac=>?_;have bb:=(Le.t (Le.q (l:=k+1) oM)).R ca;refine yO (A:=[_,_]) rfl (uB sizeOf31 pH bb gf) fun bn ab=>?_;have ba:=(Le.t (Le.q (l:=k+1) oM)).R bz;refine yO (A:=[_]) rfl (uB sizeOf31 pH ba gc) fun ay aa=>?_;have az:=(Le.t (Le.q (l:=k+1) oM)).R bx;refine yO (A:=[]) rfl (uB sizeOf31 pH az ga) fun ax Z=>(go2 ?_);refine qN (ι:=List Value×List Value×Mem) (fun(C,z,m1)=>MLe h4 m1∧((tPt (k+1)).R m1 C (loT (zZ a) (zZ b) 0 1)∧(tPt (k+1)).R m1 z (hiT (zZ a) (zZ b) 0 1)∧True)) (fun(C,z,m1)=>[(4,vP b4 0),(5,vP b5 0),(6,vP b6 0),(7,vP b7 0)]) (fun(C,z,m1)=>[.var b7 31 ax,.var b6 31 ay,.var b5 31 z,.var b4 31 C]) (fun(C,z,m1)=>m1) ?_ ?_
 ·
  refine go2 ?_;refine lX (xB zN pH ab) fun je fz=>(lX (xB zN pH ac) fun jd fy=>(cL (ev2 rfl rfl) call200 (fun w hs=>rJ hs fz fy oM) fun dn h5 ao fx=>?_));obtain rfl:dn=vB (lx (pr (zZ b) 0 1) (pr (zZ a) 0 1)):=fx;refine gc2 (fun ai=>?_) fun ai=>?_
  ·
   refine go1 ?_;refine lX (xB zN pH ab) fun jc fw=>(lX (xB zN pH ac) fun jb fv=>(yE (A:=[_,_,_]) (uB sizeOf31 pH ac fw) fun bm bg=>(yE (A:=[_,_]) (uB sizeOf31 pH ab fv) fun bl bf=>(go1 ?_))));refine zQ (bm,bl,h5) ?_ e4z rfl rfl;refine⟨ao,?_⟩;refine⟨(Rp.castR bg (if_pos ai).symm),(Rp.castR bf (if_pos ai).symm),?_⟩
   trivial
  refine go1 ?_;refine zQ (bo,bn,h5) ?_ e4z rfl rfl;refine⟨ao,?_⟩;refine⟨(Rp.castR ac.up (if_neg ai).symm),(Rp.castR ab.up (if_neg ai).symm),?_⟩
  trivial
 rintro⟨C,z,m1⟩ ⟨ha,ae⟩
 refine yW ?_;obtain⟨M,J,ae⟩:=ae;refine qN (ι:=List Value×List Value×Mem) (fun(G,D,m2)=>MLe m1 m2∧((tPt (k+1)).R m2 G (loT (zZ c) (zZ d) 0 1)∧(tPt (k+1)).R m2 D (hiT (zZ c) (zZ d) 0 1)∧True)) (fun(G,D,m2)=>[(4,vP b4 0),(5,vP b5 0),(6,vP b6 0),(7,vP b7 0)]) (fun(G,D,m2)=>[.var b7 31 D,.var b6 31 G,.var b5 31 z,.var b4 31 C]) (fun(G,D,m2)=>m2) ?_ ?_
 ·
  refine go2 ?_;refine lX (xB zN pH Z) fun ja fu=>(lX (xB zN pH aa) fun iz ft=>(cL (ev2 rfl rfl) call200 (fun w hs=>rJ hs fu ft oM) fun dm h5 ao fs=>?_));obtain rfl:dm=vB (lx (pr (zZ d) 0 1) (pr (zZ c) 0 1)):=fs;refine gc2 (fun ah=>?_) fun ah=>?_
  ·
   refine go1 ?_;refine lX (xB zN pH Z) fun iy fr=>(lX (xB zN pH aa) fun ix fq=>(yE (A:=[_]) (uB sizeOf31 pH aa fr) fun bk be=>(yE (A:=[]) (uB sizeOf31 pH Z fq) fun bj bd=>(go1 ?_))));refine zQ (bk,bj,h5) ?_ e4z rfl rfl;refine⟨ao,?_⟩;refine⟨(Rp.castR be (if_pos ah).symm),(Rp.castR bd (if_pos ah).symm),?_⟩
   trivial
  refine go1 ?_;refine zQ (ay,ax,h5) ?_ e4z rfl rfl;refine⟨ao,?_⟩;refine⟨(Rp.castR aa.up (if_neg ah).symm),(Rp.castR Z.up (if_neg ah).symm),?_⟩
  trivial
 rintro⟨G,D,m2⟩ ⟨gz,ae⟩
 refine yW ?_;obtain⟨I,H,ae⟩:=ae;refine go3 ?_;refine lX (xB zN pH M) fun iw fp=>(lX (xB zN pH J) fun iv fo=>(lX (xB zN pH I) fun iu fm=>(cL (ev3 rfl rfl rfl) call186 (fun w hs=>fR hs fp fo fm oM) fun dl h5 ao fl=>?_)));obtain rfl:dl=vI (orZ (pr (loT (zZ a) (zZ b) 0 1) 0 1) (pr (hiT (zZ a) (zZ b) 0 1) 0 1) (pr (loT (zZ c) (zZ d) 0 1) 0 1)):=fl;have gq:=fL (pr (loT (zZ a) (zZ b) 0 1) 0 1) (pr (hiT (zZ a) (zZ b) 0 1) 0 1) (pr (loT (zZ c) (zZ d) 0 1) 0 1);refine go1 ?_;refine uS (ι:=Mem) 7 (fun U=>MLe h5 U) (fun _=>[(40,vB (((orZ (pr (loT (zZ a) (zZ b) 0 1) 0 1) (pr (hiT (zZ a) (zZ b) 0 1) 0 1) (pr (loT (zZ c) (zZ d) 0 1) 0 1))=(0:Int))∧((orZ (pr (loT (zZ a) (zZ b) 0 1) 0 1) (pr (hiT (zZ a) (zZ b) 0 1) 0 1) (pr (hiT (zZ c) (zZ d) 0 1) 0 1))=(0:Int)))),(4,vP b4 0),(5,vP b5 0),(6,vP b6 0),(7,vP b7 0)]) (fun _=>[.var b7 31 D,.var b6 31 G,.var b5 31 z,.var b4 31 C]) (fun U=>U) ?_ ?_
 ·
  refine zS ((orZ (pr (loT (zZ a) (zZ b) 0 1) 0 1) (pr (hiT (zZ a) (zZ b) 0 1) 0 1) (pr (loT (zZ c) (zZ d) 0 1) 0 1))=(0:Int)) (fun O=>?_) (fun O=>?_)
  ·
   refine gT O rfl (go1 ?_);refine lX (xB zN pH M) fun ir fk=>(go1 ?_);refine lX (xB zN pH J) fun iq fj=>(go1 ?_);refine lX (xB zN pH H) fun ip fi=>(go1 ?_);refine cL (ev3 rfl rfl rfl) call186 (fun w hs=>fR hs fk fj fi oM) fun dk h6 aj fh=>?_;obtain rfl:dk=vI (orZ (pr (loT (zZ a) (zZ b) 0 1) 0 1) (pr (hiT (zZ a) (zZ b) 0 1) 0 1) (pr (hiT (zZ c) (zZ d) 0 1) 0 1)):=fh;have go:=fL (pr (loT (zZ a) (zZ b) 0 1) 0 1) (pr (hiT (zZ a) (zZ b) 0 1) 0 1) (pr (hiT (zZ c) (zZ d) 0 1) 0 1);refine go4 ?_;refine zQ h6 aj ⟨?_,rfl,rfl,rfl,rfl,trivial⟩ rfl rfl;exact congrArg some (yU O)
  refine gF O rfl (go7 ?_);refine zQ h5 (MLe.refl _) ⟨?_,rfl,rfl,rfl,rfl,trivial⟩ rfl rfl;exact congrArg some (yV O)
 intro ap cp;refine sE ?_;refine uS (ι:=Mem) 7 (fun U=>MLe ap U) (fun _=>[(47,vB ((((orZ (pr (loT (zZ a) (zZ b) 0 1) 0 1) (pr (hiT (zZ a) (zZ b) 0 1) 0 1) (pr (loT (zZ c) (zZ d) 0 1) 0 1))=(0:Int))∧((orZ (pr (loT (zZ a) (zZ b) 0 1) 0 1) (pr (hiT (zZ a) (zZ b) 0 1) 0 1) (pr (hiT (zZ c) (zZ d) 0 1) 0 1))=(0:Int)))∧((orZ (pr (loT (zZ c) (zZ d) 0 1) 0 1) (pr (hiT (zZ c) (zZ d) 0 1) 0 1) (pr (loT (zZ a) (zZ b) 0 1) 0 1))=(0:Int)))),(4,vP b4 0),(5,vP b5 0),(6,vP b6 0),(7,vP b7 0)]) (fun _=>[.var b7 31 D,.var b6 31 G,.var b5 31 z,.var b4 31 C]) (fun U=>U) ?_ ?_
 ·
  refine zS (((orZ (pr (loT (zZ a) (zZ b) 0 1) 0 1) (pr (hiT (zZ a) (zZ b) 0 1) 0 1) (pr (loT (zZ c) (zZ d) 0 1) 0 1))=(0:Int))∧((orZ (pr (loT (zZ a) (zZ b) 0 1) 0 1) (pr (hiT (zZ a) (zZ b) 0 1) 0 1) (pr (hiT (zZ c) (zZ d) 0 1) 0 1))=(0:Int))) (fun O=>?_) (fun O=>?_)
  ·
   refine gT O rfl (go1 ?_);refine lX (xB zN pH I) fun io fg=>(go1 ?_);refine lX (xB zN pH H) fun im ff=>(go1 ?_);refine lX (xB zN pH M) fun il fe=>(go1 ?_);refine cL (ev3 rfl rfl rfl) call186 (fun w hs=>fR hs fg ff fe oM) fun dj h6 aj fd=>?_;obtain rfl:dj=vI (orZ (pr (loT (zZ c) (zZ d) 0 1) 0 1) (pr (hiT (zZ c) (zZ d) 0 1) 0 1) (pr (loT (zZ a) (zZ b) 0 1) 0 1)):=fd;have gn:=fL (pr (loT (zZ c) (zZ d) 0 1) 0 1) (pr (hiT (zZ c) (zZ d) 0 1) 0 1) (pr (loT (zZ a) (zZ b) 0 1) 0 1);refine go4 ?_;refine zQ h6 aj ⟨?_,rfl,rfl,rfl,rfl,trivial⟩ rfl rfl;exact congrArg some (yU O)
  refine gF O rfl (go7 ?_);refine zQ ap (MLe.refl _) ⟨?_,rfl,rfl,rfl,rfl,trivial⟩ rfl rfl;exact congrArg some (yV O)
 intro ak bq;refine sE ?_;refine uS (ι:=Mem) 7 (fun U=>MLe ak U) (fun _=>[(54,vB (((((orZ (pr (loT (zZ a) (zZ b) 0 1) 0 1) (pr (hiT (zZ a) (zZ b) 0 1) 0 1) (pr (loT (zZ c) (zZ d) 0 1) 0 1))=(0:Int))∧((orZ (pr (loT (zZ a) (zZ b) 0 1) 0 1) (pr (hiT (zZ a) (zZ b) 0 1) 0 1) (pr (hiT (zZ c) (zZ d) 0 1) 0 1))=(0:Int)))∧((orZ (pr (loT (zZ c) (zZ d) 0 1) 0 1) (pr (hiT (zZ c) (zZ d) 0 1) 0 1) (pr (loT (zZ a) (zZ b) 0 1) 0 1))=(0:Int)))∧((orZ (pr (loT (zZ c) (zZ d) 0 1) 0 1) (pr (hiT (zZ c) (zZ d) 0 1) 0 1) (pr (hiT (zZ a) (zZ b) 0 1) 0 1))=(0:Int)))),(4,vP b4 0),(5,vP b5 0),(6,vP b6 0),(7,vP b7 0)]) (fun _=>[.var b7 31 D,.var b6 31 G,.var b5 31 z,.var b4 31 C]) (fun U=>U) ?_ ?_
 ·
  refine zS ((((orZ (pr (loT (zZ a) (zZ b) 0 1) 0 1) (pr (hiT (zZ a) (zZ b) 0 1) 0 1) (pr (loT (zZ c) (zZ d) 0 1) 0 1))=(0:Int))∧((orZ (pr (loT (zZ a) (zZ b) 0 1) 0 1) (pr (hiT (zZ a) (zZ b) 0 1) 0 1) (pr (hiT (zZ c) (zZ d) 0 1) 0 1))=(0:Int)))∧((orZ (pr (loT (zZ c) (zZ d) 0 1) 0 1) (pr (hiT (zZ c) (zZ d) 0 1) 0 1) (pr (loT (zZ a) (zZ b) 0 1) 0 1))=(0:Int))) (fun O=>?_) (fun O=>?_)
  ·
   refine gT O rfl (go1 ?_);refine lX (xB zN pH I) fun ik fc=>(go1 ?_);refine lX (xB zN pH H) fun ij fb=>(go1 ?_);refine lX (xB zN pH J) fun ii fa=>(go1 ?_);refine cL (ev3 rfl rfl rfl) call186 (fun w hs=>fR hs fc fb fa oM) fun di h6 aj ez=>?_;obtain rfl:di=vI (orZ (pr (loT (zZ c) (zZ d) 0 1) 0 1) (pr (hiT (zZ c) (zZ d) 0 1) 0 1) (pr (hiT (zZ a) (zZ b) 0 1) 0 1)):=ez;have gm:=fL (pr (loT (zZ c) (zZ d) 0 1) 0 1) (pr (hiT (zZ c) (zZ d) 0 1) 0 1) (pr (hiT (zZ a) (zZ b) 0 1) 0 1);refine go4 ?_;refine zQ h6 aj ⟨?_,rfl,rfl,rfl,rfl,trivial⟩ rfl rfl;exact congrArg some (yU O)
  refine gF O rfl (go7 ?_);refine zQ ak (MLe.refl _) ⟨?_,rfl,rfl,rfl,rfl,trivial⟩ rfl rfl;exact congrArg some (yV O)
 intro cy bp;refine sE ?_;refine gc2 (fun cv=>?_) fun cv=>?_
 ·
  refine go2 ?_;refine lX (xB zN pH M) fun ih ey=>(lX (xB zN pH J) fun ig ew=>(lX (xB zN pH I) fun ie ev=>(lX (xB zN pH H) fun id eu=>(cL (ev4 rfl rfl rfl rfl) call201 (fun w hs=>zOR hs ey ew ev eu oM) fun dh h6 aj es=>?_))));obtain rfl:dh=vI (zA5 (pr (loT (zZ a) (zZ b) 0 1) 0 1) (pr (hiT (zZ a) (zZ b) 0 1) 0 1) (pr (loT (zZ c) (zZ d) 0 1) 0 1) (pr (hiT (zZ c) (zZ d) 0 1) 0 1)):=es;refine go5 ?_;refine zC rfl rfl ?_;refine congrArg vI ?_;rw[←dG rfl rfl rfl rfl];unfold iI;grind
 refine go5 ?_;refine lX (xB zN pH M) fun ic er=>(lX (xB zN pH J) fun ib eq=>(cL (ev2 rfl rfl) call174 (fun w hs=>qI hs er eq oM) fun df h6 aj ep=>?_));obtain rfl:df=vB ((pr (loT (zZ a) (zZ b) 0 1) 0 1)=(pr (hiT (zZ a) (zZ b) 0 1) 0 1)):=ep;refine uS (ι:=Mem) 5 (fun U=>MLe h6 U) (fun _=>[(67,vB (((pr (loT (zZ a) (zZ b) 0 1) 0 1)=(pr (hiT (zZ a) (zZ b) 0 1) 0 1))∨((pr (loT (zZ c) (zZ d) 0 1) 0 1)=(pr (hiT (zZ c) (zZ d) 0 1) 0 1)))),(4,vP b4 0),(5,vP b5 0),(6,vP b6 0),(7,vP b7 0)]) (fun _=>[.var b7 31 D,.var b6 31 G,.var b5 31 z,.var b4 31 C]) (fun U=>U) ?_ ?_
 ·
  refine zS ((pr (loT (zZ a) (zZ b) 0 1) 0 1)=(pr (hiT (zZ a) (zZ b) 0 1) 0 1)) (fun O=>?_) (fun O=>?_)
  ·
   refine gT O rfl (go5 ?_);refine zQ h6 (MLe.refl _) ⟨?_,rfl,rfl,rfl,rfl,trivial⟩ rfl rfl;exact congrArg some (wU O)
  refine gF O rfl (go1 ?_);refine lX (xB zN pH I) fun ia eo=>(go1 ?_);refine lX (xB zN pH H) fun hz en=>(go1 ?_);refine cL (ev2 rfl rfl) call174 (fun w hs=>qI hs eo en oM) fun de h7 bi em=>?_;obtain rfl:de=vB ((pr (loT (zZ c) (zZ d) 0 1) 0 1)=(pr (hiT (zZ c) (zZ d) 0 1) 0 1)):=em;refine go2 ?_;refine zQ h7 bi ⟨?_,rfl,rfl,rfl,rfl,trivial⟩ rfl rfl;exact congrArg some (wV O)
 intro gk co;refine sE ?_;refine gc2 (fun cu=>?_) fun cu=>?_
 ·
  refine go2 ?_;refine lX (xB zN pH M) fun hy el=>(lX (xB zN pH J) fun hx ek=>(lX (xB zN pH I) fun hw ej=>(lX (xB zN pH H) fun hv ei=>(cL (ev4 rfl rfl rfl rfl) call202 (fun w hs=>zIF hs el ek ej ei oM) fun dd h7 bi eh=>?_))));obtain rfl:dd=vI (eC (pr (loT (zZ a) (zZ b) 0 1) 0 1) (pr (hiT (zZ a) (zZ b) 0 1) 0 1) (pr (loT (zZ c) (zZ d) 0 1) 0 1) (pr (hiT (zZ c) (zZ d) 0 1) 0 1)):=eh;refine go5 ?_;refine zC rfl rfl ?_;refine congrArg vI ?_;rw[←dG rfl rfl rfl rfl];unfold iI;grind
 refine go3 ?_;refine zL 20 _ [] [(0,.q),(1,.q),(2,.q),(4,.q),(5,.q),(6,.q),(9,.q),(10,.q),(11,.q),(13,.q),(14,.q),(15,.q),(3,.c),(7,.c),(8,.q),(12,.c),(16,.c),(17,.q),(18,.q),(19,.q)] yA nX (wI (by kernel_rfl)) nX (fun r hr=>hr) (wX rfl (xB zN pH M) fun hu eg=>(wX rfl (xB zN pH J) fun ht ef=>(wX rfl (xB zN pH I) fun hq ee=>(wX rfl (xB zN pH M) fun hp ec=>(wX rfl (xB zN pH J) fun ho eb=>(wX rfl (xB zN pH H) fun hn ea=>(wX rfl (xB zN pH I) fun hm dy=>(wX rfl (xB zN pH H) fun hl dx=>(wX rfl (xB zN pH M) fun hk dw=>(wX rfl (xB zN pH I) fun hj du=>(wX rfl (xB zN pH H) fun hf dt=>(wX rfl (xB zN pH J) fun he dr=>?_))))))))))));refine w_c rfl (sC (ev3 rfl rfl rfl) call186 (fun w hs=>fR hs eg ef ee oM) fun dc h7 bi ed=>?_);obtain rfl:dc=vI (orZ (pr (loT (zZ a) (zZ b) 0 1) 0 1) (pr (hiT (zZ a) (zZ b) 0 1) 0 1) (pr (loT (zZ c) (zZ d) 0 1) 0 1)):=ed;have av:=fL (pr (loT (zZ a) (zZ b) 0 1) 0 1) (pr (hiT (zZ a) (zZ b) 0 1) 0 1) (pr (loT (zZ c) (zZ d) 0 1) 0 1);refine w_c rfl (sC (ev3 rfl rfl rfl) call186 (fun w hs=>fR hs ec.up eb.up ea.up oM) fun db h8 jo dz=>?_);obtain rfl:db=vI (orZ (pr (loT (zZ a) (zZ b) 0 1) 0 1) (pr (hiT (zZ a) (zZ b) 0 1) 0 1) (pr (hiT (zZ c) (zZ d) 0 1) 0 1)):=dz;have au:=fL (pr (loT (zZ a) (zZ b) 0 1) 0 1) (pr (hiT (zZ a) (zZ b) 0 1) 0 1) (pr (hiT (zZ c) (zZ d) 0 1) 0 1);refine xN rfl (fun _ _=>kO rfl rfl (by have:=eO av au;omega) (by have:=eO av au;omega)) rfl ?_;refine w_c rfl (sC (ev3 rfl rfl rfl) call186 (fun w hs=>fR hs dy.up dx.up dw.up oM) fun da h9 jn dv=>?_);obtain rfl:da=vI (orZ (pr (loT (zZ c) (zZ d) 0 1) 0 1) (pr (hiT (zZ c) (zZ d) 0 1) 0 1) (pr (loT (zZ a) (zZ b) 0 1) 0 1)):=dv;have ar:=fL (pr (loT (zZ c) (zZ d) 0 1) 0 1) (pr (hiT (zZ c) (zZ d) 0 1) 0 1) (pr (loT (zZ a) (zZ b) 0 1) 0 1);refine w_c rfl (sC (ev3 rfl rfl rfl) call186 (fun w hs=>fR hs du.up dt.up dr.up oM) fun cz jt hc dq=>?_);obtain rfl:cz=vI (orZ (pr (loT (zZ c) (zZ d) 0 1) 0 1) (pr (hiT (zZ c) (zZ d) 0 1) 0 1) (pr (hiT (zZ a) (zZ b) 0 1) 0 1)):=dq;have aq:=fL (pr (loT (zZ c) (zZ d) 0 1) 0 1) (pr (hiT (zZ c) (zZ d) 0 1) 0 1) (pr (hiT (zZ a) (zZ b) 0 1) 0 1);refine xN rfl (fun _ _=>kO rfl rfl (by have:=eO ar aq;omega) (by have:=eO ar aq;omega)) rfl (uA ?_);refine gU 4 97 (vB (((0:Int)<((orZ (pr (loT (zZ a) (zZ b) 0 1) 0 1) (pr (hiT (zZ a) (zZ b) 0 1) 0 1) (pr (loT (zZ c) (zZ d) 0 1) 0 1))*(orZ (pr (loT (zZ a) (zZ b) 0 1) 0 1) (pr (hiT (zZ a) (zZ b) 0 1) 0 1) (pr (hiT (zZ c) (zZ d) 0 1) 0 1))))∨((0:Int)<((orZ (pr (loT (zZ c) (zZ d) 0 1) 0 1) (pr (hiT (zZ c) (zZ d) 0 1) 0 1) (pr (loT (zZ a) (zZ b) 0 1) 0 1))*(orZ (pr (loT (zZ c) (zZ d) 0 1) 0 1) (pr (hiT (zZ c) (zZ d) 0 1) 0 1) (pr (hiT (zZ a) (zZ b) 0 1) 0 1)))))) ?_ ?_
 ·
  refine zS ((0:Int)<((orZ (pr (loT (zZ a) (zZ b) 0 1) 0 1) (pr (hiT (zZ a) (zZ b) 0 1) 0 1) (pr (loT (zZ c) (zZ d) 0 1) 0 1))*(orZ (pr (loT (zZ a) (zZ b) 0 1) 0 1) (pr (hiT (zZ a) (zZ b) 0 1) 0 1) (pr (hiT (zZ c) (zZ d) 0 1) 0 1)))) (fun O=>?_) (fun O=>?_)
  ·
   refine gT O rfl (go4 ?_);refine gqU ?_;exact congrArg some (wU O)
  refine gF O rfl (go6 ?_);refine gqU ?_;exact congrArg some (wV O)
 refine gc3 (fun ct=>?_) fun ct=>?_
 ·
  refine go8 ?_;refine zC rfl rfl ?_;refine congrArg vI ?_;rw[←dG rfl rfl rfl rfl];unfold iI;grind
 refine go2 ?_;refine lX (xB zN pH M) fun hd dp=>(lX (xB zN pH I) fun gy cm=>(cL (ev2 rfl rfl) call174 (fun w hs=>qI hs dp cm oM) fun bw cw hb cl=>?_));obtain rfl:bw=vB ((pr (loT (zZ a) (zZ b) 0 1) 0 1)=(pr (loT (zZ c) (zZ d) 0 1) 0 1)):=cl;refine uS (ι:=Mem) 5 (fun U=>MLe cw U) (fun _=>[(106,vB (((pr (loT (zZ a) (zZ b) 0 1) 0 1)=(pr (loT (zZ c) (zZ d) 0 1) 0 1))∨((pr (loT (zZ a) (zZ b) 0 1) 0 1)=(pr (hiT (zZ c) (zZ d) 0 1) 0 1)))),(5,vP b5 0),(6,vP b6 0),(7,vP b7 0)]) (fun _=>[.var b7 31 D,.var b6 31 G,.var b5 31 z,.var b4 31 C]) (fun U=>U) ?_ ?_
 ·
  refine zS ((pr (loT (zZ a) (zZ b) 0 1) 0 1)=(pr (loT (zZ c) (zZ d) 0 1) 0 1)) (fun O=>?_) (fun O=>?_)
  ·
   refine gT O rfl (go5 ?_);refine zQ cw (MLe.refl _) ⟨?_,rfl,rfl,rfl,trivial⟩ rfl rfl;exact congrArg some (wU O)
  refine gF O rfl (go1 ?_);refine lX (xB zN pH M) fun gx ck=>(go1 ?_);refine lX (xB zN pH H) fun gw cj=>(go1 ?_);refine cL (ev2 rfl rfl) call174 (fun w hs=>qI hs ck cj oM) fun bv aw ad ci=>?_;obtain rfl:bv=vB ((pr (loT (zZ a) (zZ b) 0 1) 0 1)=(pr (hiT (zZ c) (zZ d) 0 1) 0 1)):=ci;refine go2 ?_;refine zQ aw ad ⟨?_,rfl,rfl,rfl,trivial⟩ rfl rfl;exact congrArg some (wV O)
 intro an bs;refine sE ?_;refine uS (ι:=Mem) 5 (fun U=>MLe an U) (fun _=>[(111,vB ((((pr (loT (zZ a) (zZ b) 0 1) 0 1)=(pr (loT (zZ c) (zZ d) 0 1) 0 1))∨((pr (loT (zZ a) (zZ b) 0 1) 0 1)=(pr (hiT (zZ c) (zZ d) 0 1) 0 1)))∨((pr (hiT (zZ a) (zZ b) 0 1) 0 1)=(pr (loT (zZ c) (zZ d) 0 1) 0 1)))),(5,vP b5 0),(7,vP b7 0)]) (fun _=>[.var b7 31 D,.var b6 31 G,.var b5 31 z,.var b4 31 C]) (fun U=>U) ?_ ?_
 ·
  refine zS (((pr (loT (zZ a) (zZ b) 0 1) 0 1)=(pr (loT (zZ c) (zZ d) 0 1) 0 1))∨((pr (loT (zZ a) (zZ b) 0 1) 0 1)=(pr (hiT (zZ c) (zZ d) 0 1) 0 1))) (fun O=>?_) (fun O=>?_)
  ·
   refine gT O rfl (go5 ?_);refine zQ an (MLe.refl _) ⟨?_,rfl,rfl,trivial⟩ rfl rfl;exact congrArg some (wU O)
  refine gF O rfl (go1 ?_);refine lX (xB zN pH J) fun gu ch=>(go1 ?_);refine lX (xB zN pH I) fun gt cg=>(go1 ?_);refine cL (ev2 rfl rfl) call174 (fun w hs=>qI hs ch cg oM) fun bu aw ad cf=>?_;obtain rfl:bu=vB ((pr (hiT (zZ a) (zZ b) 0 1) 0 1)=(pr (loT (zZ c) (zZ d) 0 1) 0 1)):=cf;refine go2 ?_;refine zQ aw ad ⟨?_,rfl,rfl,trivial⟩ rfl rfl;exact congrArg some (wV O)
 intro am br;refine sE ?_;refine uS (ι:=Mem) 5 (fun U=>MLe am U) (fun _=>[(116,vB (((((pr (loT (zZ a) (zZ b) 0 1) 0 1)=(pr (loT (zZ c) (zZ d) 0 1) 0 1))∨((pr (loT (zZ a) (zZ b) 0 1) 0 1)=(pr (hiT (zZ c) (zZ d) 0 1) 0 1)))∨((pr (hiT (zZ a) (zZ b) 0 1) 0 1)=(pr (loT (zZ c) (zZ d) 0 1) 0 1)))∨((pr (hiT (zZ a) (zZ b) 0 1) 0 1)=(pr (hiT (zZ c) (zZ d) 0 1) 0 1))))]) (fun _=>[.var b7 31 D,.var b6 31 G,.var b5 31 z,.var b4 31 C]) (fun U=>U) ?_ ?_
 ·
  refine zS ((((pr (loT (zZ a) (zZ b) 0 1) 0 1)=(pr (loT (zZ c) (zZ d) 0 1) 0 1))∨((pr (loT (zZ a) (zZ b) 0 1) 0 1)=(pr (hiT (zZ c) (zZ d) 0 1) 0 1)))∨((pr (hiT (zZ a) (zZ b) 0 1) 0 1)=(pr (loT (zZ c) (zZ d) 0 1) 0 1))) (fun O=>?_) (fun O=>?_)
  ·
   refine gT O rfl (go5 ?_);refine zQ am (MLe.refl _) ⟨?_,trivial⟩ rfl rfl;exact congrArg some (wU O)
  refine gF O rfl (go1 ?_);refine lX (xB zN pH J) fun gs ce=>(go1 ?_);refine lX (xB zN pH H) fun gr cd=>(go1 ?_);refine cL (ev2 rfl rfl) call174 (fun w hs=>qI hs ce cd oM) fun bt aw ad cc=>?_;obtain rfl:bt=vB ((pr (hiT (zZ a) (zZ b) 0 1) 0 1)=(pr (hiT (zZ c) (zZ d) 0 1) 0 1)):=cc;refine go2 ?_;refine zQ aw ad ⟨?_,trivial⟩ rfl rfl;exact congrArg some (wV O)
 intro cn bh;refine sE ?_;refine gc3 (fun cq=>?_) fun cq=>?_
 ·
  refine go8 ?_;refine zC rfl rfl ?_;refine congrArg vI ?_;rw[←dG rfl rfl rfl rfl];unfold iI;grind
 refine go9 ?_;refine zC rfl rfl ?_;refine congrArg vI ?_;rw[←dG rfl rfl rfl rfl];unfold iI;grind
end Go.Proofs.YtpkaegemlpaenaaGreat
namespace Go.Proofs.YtpkaegemlpaenaaGreat
open Bk Go Tryz
set_option linter.unusedVariables false
set_option linter.unusedSimpArgs false
set_option maxRecDepth 10000
set_option maxHeartbeats 1000000
attribute [local irreducible] GL GC GQ W OpV
theorem zIJ{w0:World}{h0:Mem}(hs:MLe h0 (mem w0)){k:Nat}{vl:Value}{l:(List Tq)}(rl:(tLs k).Is h0 vl l){vp:Value}{p:Tq}(rp:(tPt k).Is h0 vp p)(hcd0:k≤5000)(hcd1:l.length≤1000):
 Calls Tryz.prog 150 #[vl,vp] w0 (Ret w0 h0 (fun _ r=>r=vI (fS l (pr p 0 1) 0 1))):=by
 refine cb2 66 vl vp func150 hs ?_;refine go2 ?_;refine nB rp fun b3 ad ab=>(rV ?_);refine gcL (ι:=Nat×Mem) (fun(m,ma)=>(MLe h0 ma∧(m≤l.length∧∀q,q<m→¬onS (vT l 0 1 q) (vO l 0 1 q) (pr p 0 1)),[(0,vl),(3,vP b3 0),(5,vB (jR l (pr p 0 1) 0 1 m)),(6,vI ↑m)],[.var b3 31 ad],ma,l.length-m)) (0,h0) ?_ ?_ (he:=⟨rfl,rfl,congrArg some (yJ id).symm,rfl,trivial⟩)
 · exact⟨mle,by omega,fun q hq=>by omega⟩
 rintro⟨m,ma⟩ ⟨cl,av,ac⟩
 refine yW ?_;refine gc9 (fun aw=>?_) fun aw=>?_
 ·
  refine go5 ?_;refine zL 16 _ [(12,(7,31,[.bool false,.slice none 0 0,.slice none 0 0,.bool false,.slice none 0 0,.slice none 0 0,.bool false,.slice none 0 0,.slice none 0 0])),(13,(8,31,[.bool false,.slice none 0 0,.slice none 0 0,.bool false,.slice none 0 0,.slice none 0 0,.bool false,.slice none 0 0,.slice none 0 0]))] [(0,.q),(1,.q),(2,.q),(3,.q),(4,.q),(5,.q),(6,.q),(7,.q),(8,.q),(9,.q),(10,.q),(11,.q),(12,.a),(13,.a),(14,.c),(15,.c)] yA (kW.cons rfl rfl (jK yX rfl rfl) (kW.cons rfl rfl (jK yX rfl rfl) kW.nil)) (wI (by kernel_rfl)) (jM rfl rfl (jM rfl rfl sQ)) (fun r hr=>hr) (go2 ?_);refine wX rfl (xI zT m underlying35 zN rl) fun dk cf=>(wX rfl (xA zN cf) fun dj ce=>(go4 ?_));refine w_q rfl (fun h' L' hh hR=>uP underlying35 rfl (rl.up.mono hh)) rfl (xN rfl (fun _ _=>wJ rfl rfl oM oM) rfl (wX rfl (xI zT ((m+1)%l.length) underlying35 zN rl (hi:=by exact Nat.mod_lt _ oM)) fun di cd=>(wX rfl (xA zN cd) fun dh cc=>?_)));refine w_a rfl rfl (fun b7=>?_);have bg:(tPt (k+1)).R ma [.bool false,.slice none 0 0,.slice none 0 0,.bool false,.slice none 0 0,.slice none 0 0,.bool false,.slice none 0 0,.slice none 0 0] zT:=(wB (yN oM));refine w_a rfl rfl (fun b8=>?_);have bf:(tPt (k+1)).R ma [.bool false,.slice none 0 0,.slice none 0 0,.bool false,.slice none 0 0,.slice none 0 0,.bool false,.slice none 0 0,.slice none 0 0] zT:=(wB (yN oM));refine w_c rfl (iK (A:=[_]) (uB sizeOf31 pH bg (ce.le (Le.t (Le.q (l:=k+1) oM)))) (wP (by first|(simp;done)|grind)) fun az H=>?_);refine w_c rfl (iK (A:=[]) (uB sizeOf31 pH bf (cc.le (Le.t (Le.q (l:=k+1) oM)))) (wP (by first|(simp;done)|grind)) fun ay G=>(go4 ?_));refine zL 7 _ [] [(0,.q),(2,.q),(4,.q),(1,.c),(3,.c),(5,.c),(6,.c)] yA nX (by kernel_rfl) nX (fun r hr=>hr) (wX rfl (xB zN pH H) fun df cb=>(wX rfl (xB zN pH G) fun dd ca=>(wX rfl (xB zN pH ab) fun db bz=>?_)));refine w_c rfl (sC (ev1 rfl) call185 (fun w hs=>pL hs cb) fun de h1 dp an=>?_);replace an:=Rp.Is.le an (Le.t (Le.q (l:=k+2) oM));refine w_c rfl (sC (ev1 rfl) call185 (fun w hs=>pL hs ca.up) fun dc h2 dn am=>?_);replace am:=Rp.Is.le am (Le.t (Le.q (l:=k+2) oM));refine w_c rfl (sC (ev1 rfl) call185 (fun w hs=>pL hs bz.up) fun da h3 dm bx=>?_);refine w_c rfl (sC (ev3 rfl rfl rfl) call184 (fun w hs=>nT hs an.up am.up (bx.le (Le.t (Le.q (l:=k+2) oM))) oM) fun be h4 dl bw=>?_);obtain rfl:be=vB (onS (pr (T3.mk ((l.getD m zT).x) ((l.getD m zT).y) (0:Rat)) 0 1) (pr (T3.mk ((l.getD ((m+1)%l.length) zT).x) ((l.getD ((m+1)%l.length) zT).y) (0:Rat)) 0 1) (pr (zZ p) 0 1)):=bw;refine gc2 (fun O=>?_) fun O=>?_
  ·
   refine uQ ?_;refine zC rfl rfl ?_;exact congrArg vI (zSY oM O)
  refine go2 ?_;refine qN (ι:=List Value×List Value×Mem) (fun(D,C,mc)=>MLe h4 mc∧((tPt (k+1)).R mc D (k9 (l.getD m zT) (l.getD ((m+1)%l.length) zT))∧(tPt (k+1)).R mc C (zA9 (l.getD m zT) (l.getD ((m+1)%l.length) zT))∧True)) (fun(D,C,mc)=>[(0,vl),(3,vP b3 0),(5,vB (jR l (pr p 0 1) 0 1 m)),(6,vI ↑m),(7,vP b7 0),(8,vP b8 0)]) (fun(D,C,mc)=>[.var b8 31 C,.var b7 31 D,.var b3 31 ad]) (fun(D,C,mc)=>mc) ?_ ?_
  ·
   refine go3 ?_;refine lX (xB yB (Pc.ty pH) H) fun cz bv=>(go1 ?_);refine lX (xB yB (Pc.ty pH) G) fun cy bu=>(cL (ev2 rfl rfl) call17 (fun w hs=>kA hs bv bu oM) fun bd h5 aq bt=>?_);obtain rfl:bd=vI (yP ((l.getD m zT).y) ((l.getD ((m+1)%l.length) zT).y)):=bt;have cj:=uN ((l.getD m zT).y) ((l.getD ((m+1)%l.length) zT).y);refine gc3 (fun J=>?_) fun J=>?_
   ·
    refine go1 ?_;refine lX (xB zN pH G) fun cw bs=>(lX (xB zN pH H) fun cv br=>(yE (A:=[_]) (uB sizeOf31 pH H bs) fun ax ak=>(yE (A:=[]) (uB sizeOf31 pH G br) fun ar aj=>(go1 ?_))));refine zQ (ax,ar,h5) ?_ e6z rfl rfl;refine⟨aq,?_⟩;refine⟨(Rp.castR ak (if_pos J).symm),(Rp.castR aj (if_pos J).symm),?_⟩
    trivial
   refine go1 ?_;refine zQ (az,ay,h5) ?_ e6z rfl rfl;refine⟨aq,?_⟩;refine⟨(Rp.castR H.up (if_neg J).symm),(Rp.castR G.up (if_neg J).symm),?_⟩
   trivial
  rintro⟨D,C,mc⟩ ⟨ck,ai⟩
  refine yW ?_;obtain⟨ah,ae,ai⟩:=ai;refine go3 ?_;refine lX (xB yB (Pc.ty pH) ah) fun cu bq=>(go1 ?_);refine lX (xB yB (Pc.ty pH) ab) fun ct bp=>(cL (ev2 rfl rfl) call17 (fun w hs=>kA hs bq bp oM) fun bc h5 aq bo=>?_);obtain rfl:bc=vI (yP ((k9 (l.getD m zT) (l.getD ((m+1)%l.length) zT)).y) p.y):=bo;have ci:=uN ((k9 (l.getD m zT) (l.getD ((m+1)%l.length) zT)).y) p.y;refine go1 ?_;refine uS (ι:=Mem) 8 (fun m_=>MLe h5 m_) (fun _=>[(55,vB (((yP ((k9 (l.getD m zT) (l.getD ((m+1)%l.length) zT)).y) p.y)≤(0:Int))∧((yP p.y ((zA9 (l.getD m zT) (l.getD ((m+1)%l.length) zT)).y))<(0:Int)))),(0,vl),(3,vP b3 0),(5,vB (jR l (pr p 0 1) 0 1 m)),(6,vI ↑m),(7,vP b7 0),(8,vP b8 0)]) (fun _=>[.var b8 31 C,.var b7 31 D,.var b3 31 ad]) (fun m_=>m_) ?_ ?_
  ·
   refine zS ((yP ((k9 (l.getD m zT) (l.getD ((m+1)%l.length) zT)).y) p.y)≤(0:Int)) (fun U=>?_) (fun U=>?_)
   ·
    refine gT U rfl (go3 ?_);refine lX (xB yB (Pc.ty pH) ab) fun cq bn=>(go3 ?_);refine lX (xB yB (Pc.ty pH) ae) fun cp bm=>(go1 ?_);refine cL (ev2 rfl rfl) call17 (fun w hs=>kA hs bn bm oM) fun bb h6 ap bl=>?_;obtain rfl:bb=vI (yP p.y ((zA9 (l.getD m zT) (l.getD ((m+1)%l.length) zT)).y)):=bl;have ch:=uN p.y ((zA9 (l.getD m zT) (l.getD ((m+1)%l.length) zT)).y);refine go4 ?_;refine zQ h6 ap ⟨?_,rfl,rfl,rfl,rfl,rfl,rfl,trivial⟩ rfl rfl;exact congrArg some (yU U)
   refine gF U rfl (go8 ?_);refine zQ h5 (MLe.refl _) ⟨?_,rfl,rfl,rfl,rfl,rfl,rfl,trivial⟩ rfl rfl;exact congrArg some (yV U)
  intro M au;refine sE ?_;refine uS (ι:=Mem) 7 (fun m_=>MLe M m_) (fun _=>[(62,vB ((((yP ((k9 (l.getD m zT) (l.getD ((m+1)%l.length) zT)).y) p.y)≤(0:Int))∧((yP p.y ((zA9 (l.getD m zT) (l.getD ((m+1)%l.length) zT)).y))<(0:Int)))∧((0:Int)<(orZ (pr (k9 (l.getD m zT) (l.getD ((m+1)%l.length) zT)) 0 1) (pr (zA9 (l.getD m zT) (l.getD ((m+1)%l.length) zT)) 0 1) (pr p 0 1))))),(0,vl),(3,vP b3 0),(5,vB (jR l (pr p 0 1) 0 1 m)),(6,vI ↑m)]) (fun _=>[.var b8 31 C,.var b7 31 D,.var b3 31 ad]) (fun m_=>m_) ?_ ?_
  ·
   refine zS (((yP ((k9 (l.getD m zT) (l.getD ((m+1)%l.length) zT)).y) p.y)≤(0:Int))∧((yP p.y ((zA9 (l.getD m zT) (l.getD ((m+1)%l.length) zT)).y))<(0:Int))) (fun U=>?_) (fun U=>?_)
   ·
    refine gT U rfl (go1 ?_);refine lX (xB zN pH ah) fun co bk=>(go1 ?_);refine lX (xB zN pH ae) fun cn bj=>(go1 ?_);refine lX (xB zN pH ab) fun cm bi=>(go1 ?_);refine cL (ev3 rfl rfl rfl) call186 (fun w hs=>fR hs bk bj (bi.le (Le.t (Le.q (l:=k+1) oM))) oM) fun ba h6 ap bh=>?_;obtain rfl:ba=vI (orZ (pr (k9 (l.getD m zT) (l.getD ((m+1)%l.length) zT)) 0 1) (pr (zA9 (l.getD m zT) (l.getD ((m+1)%l.length) zT)) 0 1) (pr p 0 1)):=bh;have cg:=fL (pr (k9 (l.getD m zT) (l.getD ((m+1)%l.length) zT)) 0 1) (pr (zA9 (l.getD m zT) (l.getD ((m+1)%l.length) zT)) 0 1) (pr p 0 1);refine go4 ?_;refine zQ h6 ap ⟨?_,rfl,rfl,rfl,rfl,trivial⟩ rfl rfl;exact congrArg some (yU U)
   refine gF U rfl (go7 ?_);refine zQ M (MLe.refl _) ⟨?_,rfl,rfl,rfl,rfl,trivial⟩ rfl rfl;exact congrArg some (yV U)
  intro I ao;refine sE ?_;refine gc2 (fun aa=>?_) fun aa=>?_
  ·
   refine uQ ?_;refine xM (A:=[]) (xM (A:=[]) ?_);refine gqL ((m+1),I) ?_ ?_ (he:=⟨rfl,rfl,congrArg (fun z=>some (vB z)) (zZX ((zDO _ _ _).1 aa)),rfl,trivial⟩)
   · exact⟨mle,by omega,z8 ac O⟩
   omega
  refine go8 ?_;refine xM (A:=[]) (xM (A:=[]) ?_);refine gqL ((m+1),I) ?_ ?_ (he:=⟨rfl,rfl,congrArg (fun z=>some (vB z)) (zVY fun e=>aa ((zDO _ _ _).2 e)),rfl,trivial⟩)
  · exact⟨mle,by omega,z8 ac O⟩
  omega
 refine zAK (fun Z=>?_) fun Z=>?_
 ·
  refine go7 ?_;refine zC rfl rfl ?_;exact congrArg vI (zSZ oM av ac Z)
 refine go8 ?_;refine zC rfl rfl ?_;exact congrArg vI (zM2 oM av ac Z)
theorem zK0{w0:World}{h0:Mem}(hs:MLe h0 (mem w0)){k:Nat}{vL:Value}{L:(List (List Tq))}(rL:(tLL k).Is h0 vL L){vp:Value}{p:Tq}(rp:(tPt k).Is h0 vp p){i:Nat}{j:Nat}(hcd0:i<3)(hcd1:j<3)(hcd2:k≤100000)(hcd3:∀x,x∈L→x.length≤1000)(hcd4:L.length≤1000):
 Calls Tryz.prog 149 #[vL,vp,vI ↑i,vI ↑j] w0 (Ret w0 h0 (fun _ r=>r=vI (whZ L (pr p i j) i j))):=by
 refine qM (n:=31) (e:=[(0,vL),(1,vp),(2,vI ↑i),(3,vI ↑j)]) (vs:=[vL,vp,vI ↑i,vI ↑j]) func149 rfl rfl (bL rfl) hs e4z (go2 ?_);refine nB rp fun b5 ab J=>(mW ?_);refine gcL (ι:=Nat×Mem) (fun(m,ma)=>(MLe h0 ma∧(m≤L.length∧∀q,q<m→¬fS (L.getD q []) (pr p i j) i j=0),[(2,vI ↑i),(3,vI ↑j),(5,vP b5 0),(9,vI (dB L (pr p i j) i j m)),(12,vL),(13,vI (↑(L).length:Int)),(14,vI ↑m)],[.var b5 31 ab],ma,L.length-m)) (0,h0) ?_ ?_
 · exact⟨mle,by omega,fun q hq=>by omega⟩
 rintro⟨m,ma⟩ ⟨ac,aa,G⟩
 refine yW ?_;have ai:=zHD L (pr p i j) i j m;refine gc6 (fun H=>?_) fun H=>?_
 ·
  refine go6 ?_;refine lX (xI [] m underlying76 uJ rL) fun ah Z=>(lX (xA uJ Z) fun ae U=>(go6 ?_));refine lX (xB zN pH J) fun ad O=>(go2 ?_);refine cL (ev4 rfl rfl rfl rfl) call183 (fun w hs=>zIM (i:=i) (j:=j) hs U O oM oM oM (by first|omega|exact zS9 (by assumption) _)) fun I h1 aj M=>?_;obtain rfl:I=vI (fS (L.getD m []) (pr p i j) i j):=M;refine gc9 (fun C=>?_) fun C=>?_
  ·
   refine uQ ?_;refine zC rfl rfl ?_;exact congrArg vI (if_pos ⟨m,by omega,C⟩).symm
  refine gc6 (fun D=>?_) fun D=>?_
  ·
   refine go2 ?_;refine gv (lK rfl oM oM) rfl (go9 ?_);refine gqL ((m+1),h1) ?_ ?_ (he:=⟨rfl,rfl,rfl,congrArg (fun z=>some (vI z)) (if_pos D).symm,rfl,rfl,rfl,trivial⟩)
   · exact⟨mle,by omega,zMA G C⟩
   omega
  refine go8 ?_;refine gqL ((m+1),h1) ?_ ?_ (he:=⟨rfl,rfl,rfl,congrArg (fun z=>some (vI z)) (if_neg D).symm,rfl,rfl,rfl,trivial⟩)
  · exact⟨mle,by omega,zMA G C⟩
  omega
 refine uQ ?_;refine zC rfl rfl ?_;exact congrArg vI (zYE oM aa G)
end Go.Proofs.YtpkaegemlpaenaaGreat
namespace Bk
set_option linter.unusedVariables false
open Classical
def zNV(R:Nat→Nat→Prop)(q b:Nat):Prop:=∀p,p<b→R p q
def zHI(R:Nat→Nat→Prop)(a:Nat):Prop:=∀q,q<a→zNV R q q
theorem zP9{R:Nat→Nat→Prop}:zHI R 0:=fun q h=>by omega
theorem zUR{R:Nat→Nat→Prop}{q:Nat}:zNV R q 0:=fun p h=>by omega
theorem zUS{R:Nat→Nat→Prop}{q b:Nat}(h:zNV R q b)(h1:R b q):zNV R q (b+1):=fun p h3=>by
 rcases Nat.lt_succ_iff_lt_or_eq.1 h3 with h4|h4
 · exact h p h4
 · subst h4;exact h1
theorem zQA{R:Nat→Nat→Prop}{a b:Nat}(h:zHI R a)(h1:zNV R a b)(hb:a≤b):zHI R (a+1):=fun q h2=>by
 rcases Nat.lt_succ_iff_lt_or_eq.1 h2 with h5|h5
 · exact h q h5
 · subst h5;exact fun p hp=>h1 p (by omega)
def zT2(l:List Pt)(k i:Nat):Prop:=yDI l 0 1 k i∧okT l 0 1 k i
theorem zVB{l:List Pt}(h3:3≤l.length)(h:zHI (zT2 l) l.length):aU l 0 1:=
 ⟨h3,fun p q h1 h2 h4=>(h q h4 p h2).1,fun p q h1 h2 h4=>(h q h4 p h2).2⟩
theorem zRY{l:List Pt}{k i:Nat}:nL (vT l 0 1 i) (vO l 0 1 i) (vT l 0 1 k) (vO l 0 1 k)=zEN l.length k i↔okT l 0 1 k i:=by
 unfold okT;rw[←zHH,zB1]
end Bk
namespace Go.Proofs.YtpkaegemlpaenaaGreat
open Bk Go Tryz
set_option linter.unusedVariables false
set_option linter.unusedSimpArgs false
set_option maxRecDepth 10000
set_option maxHeartbeats 1000000
attribute [local irreducible] GL GC GQ W OpV
theorem zIG{w0:World}{h0:Mem}(hs:MLe h0 (mem w0)){k:Nat}{vl:Value}{l:(List Tq)}(rl:(tLs k).Is h0 vl l)(hcd0:k≤5000)(hcd1:l.length≤1000):
 Calls Tryz.prog 129 #[vl] w0 (Ret w0 h0 (fun _ r=>r=vB (aU l 0 1))):=by
 refine cb1 69 vl func129 hs ?_;refine zS7 ?_;refine cnd (fun Z=>?_) fun Z=>?_
 ·
  refine go7 ?_;refine zC rfl rfl ?_;exact(yJ (fun e=>by have:=e.1;omega)).symm
 refine go9 ?_;refine gcL (ι:=Nat×Mem) (fun(i,I)=>(MLe h0 I∧(i≤l.length∧zHI (zT2 l) i),[(0,vl),(3,vI (↑(l).length:Int)),(4,vI ↑i)],[],I,l.length-i)) (0,h0) ?_ ?_
 · exact⟨mle,by omega,zP9⟩
 rintro⟨i,I⟩ ⟨ax,bm,hi2⟩
 refine yW ?_;refine gc8 (fun U=>?_) fun U=>?_
 ·
  refine uA ?_;refine gcL (ι:=Nat×Mem) (fun(q,mq)=>(MLe I mq∧(q≤i∧zNV (zT2 l) i q),[(0,vl),(3,vI (↑(l).length:Int)),(4,vI ↑i),(5,vI ↑q)],[],mq,i-q)) (0,I) ?_ ?_
  · exact⟨mle,by omega,zUR⟩
  rintro⟨q,mq⟩ ⟨aw,bl,J⟩
  refine yW ?_;refine gc8 (fun O=>?_) fun O=>?_
  ·
   refine go6 ?_;refine zL 9 _ [] [(0,.q),(1,.q),(2,.q),(3,.q),(4,.q),(5,.q),(6,.q),(7,.q),(8,.c)] yA nX (by kernel_rfl) nX (fun r hr=>hr) (go2 ?_);refine wX rfl (xI zT i underlying35 zN rl) fun bk au=>(wX rfl (xA zN au) fun bj ar=>(go2 ?_));refine wX rfl (xI zT q underlying35 zN rl) fun bi aq=>(wX rfl (xA zN aq) fun bh ap=>?_);refine w_c rfl (sC (ev2 rfl rfl) call174 (fun w hs=>qI hs ar ap oM) fun ab h1 bo ao=>?_);obtain rfl:ab=vB ((pr (l.getD i zT) 0 1)=(pr (l.getD q zT) 0 1)):=ao;refine gc2 (fun G=>?_) fun G=>?_
   ·
    refine iX ?_;refine zC rfl rfl ?_;exact(yJ (fun e=>e.2.1 q i oM oM oM G.symm)).symm
   refine go7 ?_;refine qN (ι:=Mem) (fun(H:(Mem))=>MLe h1 H∧(True)) (fun(H:(Mem))=>[(0,vl),(3,vI (↑(l).length:Int)),(4,vI ↑i),(5,vI ↑q),(6,vI (zEN l.length q i))]) (fun(H:(Mem))=>[]) (fun(H:(Mem))=>H) ?_ ?_
   ·
    refine go6 ?_;refine gU 10 43 (vB (((↑i:Int)=((↑q:Int)+(1:Int)))∨(((↑q:Int)=(0:Int))∧((↑i:Int)=((↑(l).length:Int)-(1:Int)))))) ?_ ?_
    ·
     refine zS ((↑i:Int)=((↑q:Int)+(1:Int))) (fun C=>?_) (fun C=>?_)
     ·
      refine gT C rfl (uA ?_);refine gqU ?_;exact congrArg some (wU C)
     refine gF C rfl (go4 ?_);refine gU 6 42 (vB (((↑q:Int)=(0:Int))∧((↑i:Int)=((↑(l).length:Int)-(1:Int))))) ?_ ?_
     ·
      refine zS ((↑q:Int)=(0:Int)) (fun C=>?_) (fun C=>?_)
      ·
       refine go1 ?_;refine gT C rfl (qA ?_);refine gqU ?_;exact congrArg some (yU C)
      refine go1 ?_;refine gF C rfl (go7 ?_);refine gqU ?_;exact congrArg some (yV C)
     refine go2 ?_;refine gqU ?_;exact congrArg some (wV C)
    refine gc2 (fun M=>?_) fun M=>?_
    ·
     refine go3 ?_;refine zQ (h1) ?_ ⟨rfl,rfl,rfl,rfl,?_,trivial⟩ rfl rfl
     ·
      refine⟨MLe.refl _,?_⟩
      trivial
     · exact congrArg (fun z=>some (vI z)) (zYF oM)
    refine go1 ?_;refine zQ (h1) ?_ ⟨rfl,rfl,rfl,rfl,?_,trivial⟩ rfl rfl
    ·
     refine⟨MLe.refl _,?_⟩
     trivial
    · exact congrArg (fun z=>some (vI z)) (zYG oM)
   rintro H ⟨av,ay⟩
   refine yW ?_;refine go1 ?_;refine zL 25 _ [] [(0,.q),(1,.q),(2,.q),(3,.q),(4,.q),(5,.q),(6,.q),(7,.q),(8,.q),(9,.q),(10,.q),(11,.q),(12,.q),(13,.q),(14,.q),(15,.q),(16,.q),(17,.q),(18,.q),(19,.q),(20,.q),(21,.q),(23,.q),(22,.c),(24,.q)] yA nX (wI (by kernel_rfl)) nX (fun r hr=>hr) (go2 ?_);refine wX rfl (xI zT i underlying35 zN rl) fun bg an=>(wX rfl (xA zN an) fun bf am=>(go4 ?_));refine xN rfl (fun _ _=>wJ rfl rfl oM oM) rfl (wX rfl (xI zT ((i+1)%l.length) underlying35 zN rl (hi:=by exact Nat.mod_lt _ oM)) fun be ak=>(wX rfl (xA zN ak) fun bd aj=>(go2 ?_)));refine wX rfl (xI zT q underlying35 zN rl) fun bc ai=>(wX rfl (xA zN ai) fun bb ah=>(go4 ?_));refine xN rfl (fun _ _=>wJ rfl rfl oM oM) rfl (wX rfl (xI zT ((q+1)%l.length) underlying35 zN rl (hi:=by exact Nat.mod_lt _ oM)) fun ba ae=>(wX rfl (xA zN ae) fun az ad=>(go1 ?_)));refine w_c rfl (sC (ev4 rfl rfl rfl rfl) call175 (fun w hs=>zCU hs am aj ah ad oM) fun aa h2 bn ac=>?_);obtain rfl:aa=vI (nL (pr (l.getD i zT) 0 1) (pr (l.getD ((i+1)%l.length) zT) 0 1) (pr (l.getD q zT) 0 1) (pr (l.getD ((q+1)%l.length) zT) 0 1)):=ac;refine gc3 (fun D=>?_) fun D=>?_
   ·
    refine rV ?_;refine zC rfl rfl ?_;exact(yJ (fun e=>D (zRY.2 (e.2.2 q i oM oM oM)))).symm
   refine go8 ?_;refine gqL ((q+1),h2) ?_ ?_
   · exact⟨mle,by omega,zUS J ⟨fun e=>G e.symm,zRY.1 (Classical.not_not.1 D)⟩⟩
   omega
  refine qA ?_;refine gqL ((i+1),mq) ?_ ?_
  · exact⟨mle,by omega,zQA hi2 J oM⟩
  omega
 have ei:i=l.length:=by omega
 have hT:=hi2;rw[ei] at hT;refine qA ?_;refine zC rfl rfl ?_;exact(xE (zVB oM hT)).symm
end Go.Proofs.YtpkaegemlpaenaaGreat
namespace Go.Proofs.YtpkaegemlpaenaaGreat
open Bk Go Tryz
set_option linter.unusedVariables false
set_option linter.unusedSimpArgs false
set_option maxRecDepth 10000
set_option maxHeartbeats 1000000
attribute [local irreducible] GL GC GQ W OpV
theorem zGK{w0:World}{h0:Mem}(hs:MLe h0 (mem w0)){k:Nat}{va:Value}{a:(List Tq)}(ra:(tLs k).Is h0 va a){vb:Value}{b:(List Tq)}(rb:(tLs k).Is h0 vb b)(hcd0:k≤5000)(hcd1:a.length≤1000)(hcd2:b.length≤1000):
 Calls Tryz.prog 130 #[va,vb] w0 (Ret w0 h0 (fun _ r=>r=vB (fQ a b 0 1))):=by
 refine cb2 45 va vb func130 hs ?_;refine uQ ?_;refine gcL (ι:=Nat×Mem) (fun(p,C)=>(MLe h0 C∧(p≤a.length∧∀u v,u<p→v<b.length→¬j3 a b 0 1 u v),[(0,va),(1,vb),(5,vI ↑p)],[],C,a.length-p)) (0,h0) ?_ ?_
 · exact⟨mle,by omega,fun u v h=>by omega⟩
 rintro⟨p,C⟩ ⟨aj,aw,G⟩
 refine yW ?_;refine gc9 (fun I=>?_) fun I=>?_
 ·
  refine uA ?_;refine gcL (ι:=Nat×Mem) (fun(q,J)=>(MLe C J∧(q≤b.length∧∀v,v<q→¬j3 a b 0 1 p v),[(0,va),(1,vb),(5,vI ↑p),(6,vI ↑q)],[],J,b.length-q)) (0,C) ?_ ?_
  · exact⟨mle,by omega,fun v h=>by omega⟩
  rintro⟨q,J⟩ ⟨ai,av,D⟩
  refine yW ?_;refine gc9 (fun H=>?_) fun H=>?_
  ·
   refine go5 ?_;refine zL 26 _ [] [(0,.q),(1,.q),(2,.q),(3,.q),(4,.q),(5,.q),(6,.q),(7,.q),(8,.q),(9,.q),(10,.q),(11,.q),(12,.q),(13,.q),(14,.q),(15,.q),(16,.q),(17,.q),(18,.q),(19,.q),(20,.q),(21,.q),(22,.q),(23,.q),(24,.c),(25,.q)] yA nX (wI (by kernel_rfl)) nX (fun r hr=>hr) (go2 ?_);refine wX rfl (xI zT p underlying35 zN ra) fun au ah=>(wX rfl (xA zN ah) fun ar ae=>(go4 ?_));refine w_q rfl (fun h' L' hh hR=>uP underlying35 rfl (ra.up.mono hh)) rfl (xN rfl (fun _ _=>wJ rfl rfl oM oM) rfl (wX rfl (xI zT ((p+1)%a.length) underlying35 zN ra (hi:=by exact Nat.mod_lt _ oM)) fun aq ad=>(wX rfl (xA zN ad) fun ap ac=>(go2 ?_))));refine wX rfl (xI zT q underlying35 zN rb) fun ao ab=>(wX rfl (xA zN ab) fun an aa=>(go4 ?_));refine w_q rfl (fun h' L' hh hR=>uP underlying35 rfl (rb.up.mono hh)) rfl (xN rfl (fun _ _=>wJ rfl rfl oM oM) rfl (wX rfl (xI zT ((q+1)%b.length) underlying35 zN rb (hi:=by exact Nat.mod_lt _ oM)) fun am Z=>(wX rfl (xA zN Z) fun ak U=>?_)));refine w_c rfl (sC (ev4 rfl rfl rfl rfl) call175 (fun w hs=>zCU hs ae ac aa U oM) fun M h1 ax O=>?_);obtain rfl:M=vI (nL (pr (a.getD p zT) 0 1) (pr (a.getD ((p+1)%a.length) zT) 0 1) (pr (b.getD q zT) 0 1) (pr (b.getD ((q+1)%b.length) zT) 0 1)):=O;refine gc3 (fun z=>?_) fun z=>?_
   ·
    refine rV ?_;refine zC rfl rfl ?_;exact(xE ⟨p,q,by omega,by omega,(zTP.1 z)⟩).symm
   refine go8 ?_;refine gqL ((q+1),h1) ?_ ?_
   · exact⟨mle,by omega,zQ2 (n:=0) (Q:=j3 a b 0 1) D (fun e=>z (zTP.2 e))⟩
   omega
  refine qA ?_;refine gqL ((p+1),J) ?_ ?_
  · exact⟨mle,by omega,zOF G D oM⟩
  omega
 refine qA ?_;refine zC rfl rfl ?_;exact(yJ (fun⟨u,v,h1,h2,h3⟩=>G u v oM h2 h3)).symm
theorem zII{w0:World}{h0:Mem}(hs:MLe h0 (mem w0)){k:Nat}{vp:Value}{p:Tq}(rp:(tPt k).Is h0 vp p){vq:Value}{q:Tq}(rq:(tPt k).Is h0 vq q)(hcd0:k≤100000):
 Calls Tryz.prog 176 #[vp,vq] w0 (Ret w0 h0 (fun h r=>(tPt (2*k+2)).Is h r (T3.mk (zBC p.x q.x) (zBC p.y q.y) (0:Rat)))):=by
 refine cb2 16 vp vq func176 hs ?_;refine go2 ?_;refine nB rp fun b2 an I=>(nB rq fun b3 am H=>(nA (ρ:=(tPt (2*k+2))) (X:=zT) yX (wB (yN oM)) fun b4 ak J=>(go3 ?_)));refine zL 11 _ [] [(0,.q),(1,.q),(2,.q),(3,.q),(5,.q),(6,.q),(7,.q),(8,.q),(4,.c),(9,.c),(10,.q),(11,.t)] yA nX (wI (by kernel_rfl)) nX (fun r hr=>hr) (go1 ?_);refine wX rfl (xB yB (Pc.tx pH) I) fun v6 r6=>(go1 ?_);refine wX rfl (xB yB (Pc.tx pH) H) fun v8 r8=>(go1 ?_);refine wX rfl (xB yB (Pc.ty pH) I) fun ah Z=>(go1 ?_);refine wX rfl (xB yB (Pc.ty pH) H) fun ae U=>?_;refine w_c rfl (sC (ev2 rfl rfl) call203 (fun w hs=>zCR hs r6 r8 oM) fun v9 h1 aj M=>?_);replace M:=Rp.Is.le M (Le.q (l:=2*k+2) oM);refine w_c rfl (sC (ev2 rfl rfl) call203 (fun w hs=>zCR hs Z.up U.up oM) fun ad h2 ai z=>?_);replace z:=Rp.Is.le z (Le.q (l:=2*k+2) oM);refine wX rfl (xV (ρ:=(tPt (2*k+2))) (xW (ps':=[(0,_),(1,_)]) underlying31 yX rfl rfl sizeOf29 e4z rfl (wB (yN oM)) (zH rfl (Pc.tx (Pc.here _)) M.up (zH rfl (Pc.ty (Pc.here _)) z zW)))) fun ac O=>(yO (A:=[]) rfl (uB sizeOf31 pH J O) fun aa G=>(go3 ?_));refine uR (tU (t:=4) zN mh0 rfl G) ?_;intro ab C D;refine yS (fun E S=>yD rfl C E S) ?_;exact D
theorem zA1{w0:World}{h0:Mem}(hs:MLe h0 (mem w0)){k:Nat}{va:Value}{a:(List Tq)}(ra:(tLs k).Is h0 va a){vb:Value}{b:(List Tq)}(rb:(tLs k).Is h0 vb b)(hcd0:k≤2000)(hcd1:a.length≤1000)(hcd2:b.length≤1000):
 Calls Tryz.prog 133 #[va,vb] w0 (Ret w0 h0 (fun _ r=>r=vI (wiZ a b 0 1))):=by
 refine cb2 32 va vb func133 hs ?_;refine mW ?_;refine gcL (ι:=Nat×Mem) (fun(m,ma)=>(MLe h0 ma∧(m≤b.length),[(0,va),(1,vb),(5,vI (cJ a b 0 1 m)),(6,vI ↑m)],[],ma,b.length-m)) (0,h0) ?_ ?_
 · exact⟨mle,oM⟩
 rintro⟨m,ma⟩ ⟨aa,D⟩
 refine yW ?_;have aj:=D;have ai:=nK a b 0 1 m;refine gc9 (fun G=>?_) fun G=>?_
 ·
  refine go5 ?_;refine zL 16 _ [] [(0,.q),(1,.q),(2,.q),(3,.q),(4,.q),(5,.q),(6,.q),(7,.q),(8,.q),(9,.q),(10,.q),(11,.q),(12,.q),(13,.c),(14,.c),(15,.q)] yA nX (wI (by kernel_rfl)) nX (fun r hr=>hr) (go3 ?_);refine wX rfl (xI zT m underlying35 zN rb) fun ah Z=>(wX rfl (xA zN Z) fun ae U=>(go4 ?_));refine w_q rfl (fun h' L' hh hR=>uP underlying35 rfl (rb.up.mono hh)) rfl (xN rfl (fun _ _=>wJ rfl rfl oM oM) rfl (wX rfl (xI zT ((m+1)%b.length) underlying35 zN rb (hi:=by exact Nat.mod_lt _ oM)) fun ad O=>(wX rfl (xA zN O) fun ac M=>?_)));refine w_c rfl (sC (ev2 rfl rfl) call176 (fun w hs=>zII hs U M oM) fun ab h1 am J=>?_);refine w_c rfl (sC (ev2 rfl rfl) call150 (fun w hs=>zIJ hs (ra.up.le (Le.s (Le.t (Le.q (l:=2*k+2) oM)))) J oM oM) fun H h2 ak I=>?_);obtain rfl:H=vI (fS a (pr (T3.mk (zBC (b.getD m zT).x (b.getD ((m+1)%b.length) zT).x) (zBC (b.getD m zT).y (b.getD ((m+1)%b.length) zT).y) (0:Rat)) 0 1) 0 1):=I;refine gc3 (fun C=>?_) fun C=>?_
  ·
   refine uQ ?_;refine gqL ((m+1),h2) ?_ ?_ (he:=⟨rfl,rfl,congrArg (fun z=>some (vI z)) (zYA (zXQ _ _) C),rfl,trivial⟩)
   · exact⟨mle,oM⟩
   omega
  refine go8 ?_;refine gqL ((m+1),h2) ?_ ?_ (he:=⟨rfl,rfl,congrArg (fun z=>some (vI z)) (zYB (zXQ _ _) C),rfl,trivial⟩)
  · exact⟨mle,oM⟩
  omega
 refine uQ ?_;refine zC rfl rfl ?_;have em:m=b.length:=by omega
 subst em
 rfl
theorem zIH{w0:World}{h0:Mem}(hs:MLe h0 (mem w0)){k:Nat}{vL:Value}{L:(List (List Tq))}(rL:(tLL k).Is h0 vL L){f:Nat}(hcd0:f<L.length)(hcd1:L.length≤16)(hcd2:k≤2000)(hcd3:∀u,u<L.length→¬64<(gl L u).length):
 Calls Tryz.prog 132 #[vL,vI ↑f] w0 (Ret w0 h0 (fun _ r=>r=vI (rR L 0 1 f L.length))):=by
 have J:=hcd3;refine cb2 55 vL (vI ↑f) func132 hs ?_;refine mW ?_;refine gcL (ι:=Nat×Mem) (fun(g,ma)=>(MLe h0 ma∧(g≤L.length),[(0,vL),(1,vI ↑f),(5,vI (rR L 0 1 f g)),(6,vI ↑g)],[],ma,L.length-g)) (0,h0) ?_ ?_
 · exact⟨mle,oM⟩
 rintro⟨g,ma⟩ ⟨az,bw⟩
 refine yW ?_;have bp:=s7 L 0 1 f g;refine gc9 (fun I=>?_) fun I=>?_
 ·
  refine go6 ?_;refine zL 24 _ [] [(0,.q),(1,.q),(2,.q),(3,.q),(4,.c),(5,.c),(6,.q),(7,.q),(8,.q),(9,.q),(10,.q),(11,.q),(12,.q),(13,.q),(14,.q),(15,.q),(17,.q),(18,.q),(19,.q),(20,.q),(21,.q),(16,.c),(22,.q),(23,.q)] yA nX (wI (by kernel_rfl)) nX (fun r hr=>hr) (go2 ?_);refine wX rfl (xI [] g underlying76 uJ rL) fun bo av=>(wX rfl (xA uJ av) fun bn au=>?_);refine w_c rfl (sC (ev1 rfl) call131 (fun w hs=>rK hs au oM (by first|omega|exact Nat.le_trans (Nat.not_lt.1 (J _ oM)) dC|exact Nat.le_trans (hF _ oM) dC)) fun bm h1 bv ar=>?_);refine w_c rfl (sC (ev1 rfl) call48 (fun w hs=>qF hs ar dC) fun U h2 bu aq=>?_);obtain rfl:U=vI (xC (uT (L.getD g []) 0 1 (L.getD g []).length)):=aq;have ax:=yY (uT (L.getD g []) 0 1 (L.getD g []).length);refine go2 ?_;refine qW ((xC (uT (L.getD g []) 0 1 (L.getD g []).length))≤(0:Int)) (fun G=>?_) (fun G=>?_)
  ·
   rw[xE G];refine rM ?_;refine w_c rfl (lE rfl rfl rfl rfl (tG ?_));refine gqL ((g+1),h2) ?_ ?_ (he:=⟨rfl,rfl,congrArg (fun z=>some (vI z)) ((if_neg (fun e=>absurd e.1.1 (Int.not_lt.2 (by assumption)))).symm),rfl,trivial⟩)
   · exact⟨mle,oM⟩
   omega
  rw[yJ G];refine yM rfl rfl rfl (fun h' L' hh hR=>yQ rfl) rfl (yM rfl rfl rfl (fun h' L' hh hR=>yQ rfl) rfl (oX rfl (xI [] g underlying76 uJ rL) fun bl ap=>(oX rfl (xA uJ ap) fun bk ao=>(yM rfl rfl rfl (fun h' L' hh hR=>yQ rfl) rfl (yM rfl rfl rfl (fun h' L' hh hR=>yQ rfl) rfl (oX rfl (xI [] f underlying76 uJ rL) fun bj an=>(oX rfl (xA uJ an) fun bi am=>(yM rfl rfl rfl (fun h' L' hh hR=>yQ rfl) rfl (yM rfl rfl rfl (fun h' L' hh hR=>yQ rfl) rfl (oX rfl (xI [] f underlying76 uJ rL) fun bh aj=>(oX rfl (xA uJ aj) fun bg ai=>(yM rfl rfl rfl (fun h' L' hh hR=>uP underlying35 rfl (ai.mono hh)) rfl ?_))))))))))));refine w_c rfl (t7 rfl rfl (sC (ev2 rfl rfl) call133 (fun w hs=>zA1 hs ao am oM (by first|omega|exact Nat.le_trans (Nat.not_lt.1 (J _ oM)) dC|exact Nat.le_trans (hF _ oM) dC) (by first|omega|exact Nat.le_trans (Nat.not_lt.1 (J _ oM)) dC|exact Nat.le_trans (hF _ oM) dC)) fun O h3 bt ak=>?_));obtain rfl:O=vI (wiZ (L.getD g []) (L.getD f []) 0 1):=ak;have aw:=nK (L.getD g []) (L.getD f []) 0 1 (L.getD f []).length;refine gc4 (fun C=>?_) fun C=>?_
  ·
   refine go9 ?_;refine gqL ((g+1),h3) ?_ ?_ (he:=⟨rfl,rfl,congrArg (fun z=>some (vI z)) ((if_neg (fun e=>C e.1.2)).symm),rfl,trivial⟩)
   · exact⟨mle,oM⟩
   omega
  refine go3 ?_;refine zL 16 _ [] [(0,.q),(1,.q),(2,.q),(3,.q),(4,.q),(5,.q),(6,.q),(8,.q),(9,.q),(10,.q),(11,.q),(7,.c),(12,.c),(13,.c),(14,.q),(15,.q)] yA nX (wI (by kernel_rfl)) nX (fun r hr=>hr) (go3 ?_);refine qW ((rR L 0 1 f g)<(0:Int)) (fun D=>?_) (fun D=>?_)
  ·
   rw[xE D];refine go8 ?_;refine w_c rfl (lE rfl rfl rfl rfl ?_);refine w_c rfl (lE rfl rfl rfl rfl ?_);refine w_c rfl (lE rfl rfl rfl rfl (iX ?_));refine gqL ((g+1),h3) ?_ ?_ (he:=⟨rfl,rfl,congrArg (fun z=>some (vI z)) ((if_pos ⟨⟨Int.not_le.1 (by assumption),Classical.not_not.1 C⟩,.inl (by assumption)⟩).symm),rfl,trivial⟩)
   · exact⟨mle,oM⟩
   omega
  rw[yJ D];refine yM rfl rfl rfl (fun h' L' hh hR=>yQ rfl) rfl (yM rfl rfl rfl (fun h' L' hh hR=>yQ rfl) rfl (oX rfl (xI [] g underlying76 uJ rL) fun bf ah=>(oX rfl (xA uJ ah) fun be ae=>(yM rfl rfl rfl (fun h' L' hh hR=>yQ rfl) rfl (yM rfl rfl rfl (fun h' L' hh hR=>yQ rfl) rfl (oX rfl (xI [] ((rR L 0 1 f g).toNat) underlying76 uJ rL) fun bc ac=>(oX rfl (xA uJ ac) fun bb ab=>?_)))))));refine w_c rfl (t7 rfl rfl (sC (ev1 rfl) call131 (fun w hs=>rK hs ae oM (by first|omega|exact Nat.le_trans (Nat.not_lt.1 (J _ oM)) dC|exact Nat.le_trans (hF _ oM) dC)) fun bd h4 bs ad=>?_));refine w_c rfl (t7 rfl rfl (sC (ev1 rfl) call131 (fun w hs=>rK hs ab.up oM (by first|omega|exact Nat.le_trans (Nat.not_lt.1 (J _ oM)) dC|exact Nat.le_trans (hF _ oM) dC)) fun ba h5 br aa=>?_));refine w_c rfl (t7 rfl rfl (sC (ev2 rfl rfl) call17 (fun w hs=>kA hs ad.up aa dC) fun M h6 bq Z=>?_));obtain rfl:M=vI (yP (uT (L.getD g []) 0 1 (L.getD g []).length) (uT (L.getD ((rR L 0 1 f g).toNat) []) 0 1 (L.getD ((rR L 0 1 f g).toNat) []).length)):=Z;have ay:=uN (uT (L.getD g []) 0 1 (L.getD g []).length) (uT (L.getD ((rR L 0 1 f g).toNat) []) 0 1 (L.getD ((rR L 0 1 f g).toNat) []).length);refine gc4 (fun H=>?_) fun H=>?_
  ·
   refine qA ?_;refine gqL ((g+1),h6) ?_ ?_ (he:=⟨rfl,rfl,congrArg (fun z=>some (vI z)) ((if_pos ⟨⟨Int.not_le.1 (by assumption),Classical.not_not.1 C⟩,.inr H⟩).symm),rfl,trivial⟩)
   · exact⟨mle,oM⟩
   omega
  refine go8 ?_;refine gqL ((g+1),h6) ?_ ?_ (he:=⟨rfl,rfl,congrArg (fun z=>some (vI z)) ((if_neg (fun e=>e.2.elim (fun h=>absurd h (by assumption)) H)).symm),rfl,trivial⟩)
  · exact⟨mle,oM⟩
  omega
 refine uQ ?_;refine zC rfl rfl ?_;have eg:g=L.length:=by omega
 rw[eg]
end Go.Proofs.YtpkaegemlpaenaaGreat
namespace Go.Proofs.YtpkaegemlpaenaaGreat
open Bk Go Tryz
set_option linter.unusedVariables false
set_option linter.unusedSimpArgs false
set_option maxRecDepth 10000
set_option maxHeartbeats 1000000
attribute [local irreducible] GL GC GQ W OpV
set_option maxHeartbeats 2000000 in
theorem zE1{w0:World}{h0:Mem}(hs:MLe h0 (mem w0)){k:Nat}{vL:Value}{L:(List (List Tq))}(rL:(tLL k).Is h0 vL L)(hcd0:k≤2000)(hcd1:∀x,x∈L→lZ x):
 Calls Tryz.prog 85 #[vL] w0 (Ret w0 h0 (fun h r=>∃u0,r=.tuple #[u0,vI (vS L 0 1)]∧(rpS rpI).Is h u0 (tE L 0 1))):=by
 have hF:=hcd1;refine cb1 133 vL func85 hs ?_;refine tG ?_;refine cnd (fun bu=>?_) fun bu=>?_
 ·
  refine go8 ?_;refine xY rfl rfl rfl ?_;refine⟨_,?_,(Rp.Is.cast (mD _) (by exact(show vS L 0 1=2∧tE L 0 1=[] from zGN (.inl oM)).2.symm))⟩;rw[(show vS L 0 1=2∧tE L 0 1=[] from zGN (.inl oM)).1]
 refine go9 ?_;refine gcL (ι:=Nat×Mem) (fun(q,ma)=>(MLe h0 ma∧(q≤L.length∧∀u,u<q→¬64<(gl L u).length),[(0,vL),(4,vI ↑q)],[],ma,L.length-q)) (0,h0) ?_ ?_
 · exact⟨mle,by omega,fun u h=>by omega⟩
 rintro⟨q,ma⟩ ⟨eb,fb,bf⟩
 refine yW ?_;refine gc9 (fun bt=>?_) fun bt=>?_
 ·
  refine go8 ?_;refine lX (xI [] q underlying76 uJ rL) fun es cz=>(lX (xA uJ cz) fun er eu=>(gc4 (fun bs=>?_) fun bs=>?_))
  ·
   refine uQ ?_;refine xY rfl rfl rfl ?_;refine⟨_,?_,(Rp.Is.cast (mD _) (by exact(show vS L 0 1=2∧tE L 0 1=[] from zGN (.inr ⟨q,by omega,(by show 64<(L.getD q []).length;omega)⟩)).2.symm))⟩;rw[(show vS L 0 1=2∧tE L 0 1=[] from zGN (.inr ⟨q,by omega,(by show 64<(L.getD q []).length;omega)⟩)).1]
  refine go8 ?_;refine gqL ((q+1),ma) ?_ ?_
  · exact⟨mle,by omega,vG (Q:=fun u=>¬64<(gl L u).length) bf (by show ¬64<(L.getD q []).length;omega)⟩
  omega
 have C:∀u,u<L.length→¬64<(gl L u).length:=fun u hu=>bf u oM;refine uQ ?_;refine gcL (ι:=Nat×Mem) (fun(s,ms)=>(MLe ma ms∧(s≤L.length∧∀u,u<s→aU (gl L u) 0 1),[(0,vL),(5,vI ↑s)],[],ms,L.length-s)) (0,ma) ?_ ?_
 · exact⟨mle,by omega,fun u h=>by omega⟩
 rintro⟨s,ms⟩ ⟨dw,fa,be⟩
 refine yW ?_;refine gc9 (fun br=>?_) fun br=>?_
 ·
  refine go8 ?_;refine lX (xI [] s underlying76 uJ rL) fun eq cy=>(lX (xA uJ cy) fun ep cw=>(cL (ev1 rfl) call129 (fun w hs=>zIG hs cw oM (by first|omega|assumption|exact Nat.le_trans (Nat.not_lt.1 (C _ oM)) dC)) fun cd h1 I cu=>?_));obtain rfl:cd=vB (aU (L.getD s []) 0 1):=cu;refine gc3 (fun U=>?_) fun U=>?_
  ·
   refine uQ ?_;refine xY rfl rfl rfl ?_;refine⟨_,?_,(Rp.Is.cast (mD _) (by exact(show vS L 0 1=8∧tE L 0 1=[] from zSE oM C ⟨s,by omega,U⟩).2.symm))⟩;rw[(show vS L 0 1=8∧tE L 0 1=[] from zSE oM C ⟨s,by omega,U⟩).1]
  refine go8 ?_;refine gqL ((s+1),h1) ?_ ?_
  · exact⟨mle,by omega,vG (Q:=fun u=>aU (gl L u) 0 1) be (Classical.not_not.1 U)⟩
  omega
 have hS:∀u,u<L.length→aU (gl L u) 0 1:=fun u hu=>be u oM;refine uQ ?_;refine gcL (ι:=Nat×Mem) (fun(c,mc)=>(MLe ms mc∧(c≤L.length∧∀u v,v<c→u<v→¬fQ (gl L u) (gl L v) 0 1),[(0,vL),(6,vI ↑c)],[],mc,L.length-c)) (0,ms) ?_ ?_
 · exact⟨mle,by omega,fun u v h=>by omega⟩
 rintro⟨c,mc⟩ ⟨ea,ec,aj⟩
 refine yW ?_;refine gc9 (fun bq=>?_) fun bq=>?_
 ·
  refine uA ?_;refine gcL (ι:=Nat×Mem) (fun(d,md)=>(MLe mc md∧(d≤c∧∀u,u<d→¬fQ (gl L u) (gl L c) 0 1),[(0,vL),(6,vI ↑c),(7,vI ↑d)],[],md,c-d)) (0,mc) ?_ ?_
  · exact⟨mle,by omega,fun u h=>by omega⟩
  rintro⟨d,md⟩ ⟨dz,fe,bk⟩
  refine yW ?_;refine gc8 (fun bp=>?_) fun bp=>?_
  ·
   refine go5 ?_;refine zL 9 _ [] [(0,.q),(1,.q),(2,.q),(3,.q),(4,.q),(5,.q),(6,.q),(7,.q),(8,.c)] yA nX (by kernel_rfl) nX (fun r hr=>hr) (go2 ?_);refine wX rfl (xI [] c underlying76 uJ rL) fun eo ct=>(wX rfl (xA uJ ct) fun en cq=>(go2 ?_));refine wX rfl (xI [] d underlying76 uJ rL) fun em cp=>(wX rfl (xA uJ cp) fun el co=>?_);refine w_c rfl (sC (ev2 rfl rfl) call130 (fun w hs=>zGK hs cq co oM (by first|omega|assumption|exact Nat.le_trans (Nat.not_lt.1 (C _ oM)) dC) (by first|omega|assumption|exact Nat.le_trans (Nat.not_lt.1 (C _ oM)) dC)) fun cc h1 I cn=>?_);obtain rfl:cc=vB (fQ (L.getD c []) (L.getD d []) 0 1):=cn;refine gc2 (fun O=>?_) fun O=>?_
   ·
    refine iX ?_;refine xY rfl rfl rfl ?_;refine⟨_,?_,(Rp.Is.cast (mD _) (by exact(show vS L 0 1=32∧tE L 0 1=[] from zMV oM C hS ⟨d,c,by omega,by omega,mK O⟩).2.symm))⟩;rw[(show vS L 0 1=32∧tE L 0 1=[] from zMV oM C hS ⟨d,c,by omega,by omega,mK O⟩).1]
   refine go8 ?_;refine gqL ((d+1),h1) ?_ ?_
   · exact⟨mle,by omega,vG (Q:=fun u=>¬fQ (gl L u) (gl L c) 0 1) bk (fun e=>O (mK e))⟩
   omega
  refine qA ?_;refine gqL ((c+1),md) ?_ ?_
  · exact⟨mle,by omega,zP8 aj bk oM⟩
  omega
 have hX:∀a b,b<L.length→a<b→¬fQ (gl L a) (gl L b) 0 1:=fun a b hb ha=>aj a b oM ha;refine mW ?_;refine xH 3 1 ?_;have ar:=RL.nil (ρ:=rpI) (h:=mc);refine gcL (ι:=Nat×List Int×Value×List Value×Mem) (fun(f,G,z,D,mf)=>(MLe mc mf∧(RL rpI mf D G∧(f≤L.length∧G.length=f)∧∀u,u<f→G.getD u (0:Int)=pZ L 0 1 u),[(0,vL),(8,z),(9,vI ↑f)],[.gs 3 1 z G.length D],mf,L.length-f)) (0,([]:List Int),(.slice none 0 0),[],mc) ?_ ?_
 · exact⟨mle,ar,⟨by omega,rfl⟩,fun u h=>by omega⟩
 rintro⟨f,G,z,D,mf⟩ ⟨dy,H,⟨fd,bj⟩,an⟩
 refine yW ?_;refine gc9 (fun bo=>?_) fun bo=>?_
 ·
  refine go9 ?_;refine qN (ι:=Int×Mem) (fun(p,mp)=>MLe mf mp∧((-1≤p∧p<9223372036854775808)∧p=pZ L 0 1 f)) (fun(p,mp)=>[(0,vL),(8,z),(9,vI ↑f),(10,vI p)]) (fun(p,mp)=>[.gs 3 1 z G.length D]) (fun(p,mp)=>mp) ?_ ?_
  ·
   refine go4 ?_;refine lX (xI [] f underlying76 uJ rL) fun ek cm=>(lX (xA uJ cm) fun ej cl=>(cL (ev1 rfl) call131 (fun w hs=>rK hs cl oM (by first|omega|assumption|exact Nat.le_trans (Nat.not_lt.1 (C _ oM)) dC)) fun ei h1 I ck=>(cL (ev1 rfl) call48 (fun w hs=>qF hs ck dC) fun cb h2 am cj=>?_)));obtain rfl:cb=vI (xC (uT (L.getD f []) 0 1 (L.getD f []).length)):=cj;have df:=yY (uT (L.getD f []) 0 1 (L.getD f []).length);refine gc3 (fun ad=>?_) fun ad=>?_
   ·
    refine go3 ?_;refine cL (ev2 rfl rfl) call132 (fun w hs=>zIH (f:=f) hs rL.up (by first|omega|assumption|exact Nat.le_trans (Nat.not_lt.1 (C _ oM)) dC) (by first|omega|assumption|exact Nat.le_trans (Nat.not_lt.1 (C _ oM)) dC) oM (by first|omega|assumption|exact Nat.le_trans (Nat.not_lt.1 (C _ oM)) dC)) fun ca h3 bi ci=>?_;obtain rfl:ca=vI (rR L 0 1 f L.length):=ci;have dh:=s7 L 0 1 f L.length;refine go2 ?_;refine zQ ((rR L 0 1 f L.length),h3) ?_ e4z rfl rfl;refine⟨((I.trans am).trans bi),?_⟩;exact⟨⟨by omega,by omega⟩,zZR ad⟩
   refine go1 ?_;refine zQ ((-1:Int),h2) ?_ e4z rfl rfl;refine⟨(I.trans am),?_⟩;exact⟨⟨by omega,by omega⟩,zZQ hF (hS f oM) ad⟩
  rintro⟨p,mp⟩ ⟨dx,bl⟩
  refine yW ?_;obtain⟨fc,bg⟩:=bl;refine go3 ?_;refine zI (zU (ρ:=rpI) (m:=1) (xs:=[p]) (ps':=[(0,_)]) underlying22 fO rfl rfl rfl wD e2z (zH rfl (Pc.arr (Pc.here _) (0:Int) 0 dC) (jD oM oM) zW) (show 1*1≤16777216 from by decide) nP) rfl rfl rfl ?_
  rintro eh ew ⟨ed,rfl,av⟩
  refine zY (A:=[]) (ρ:=rpI) av ?_;intro h1 I aq;refine xK (A:=[]) (zX (ρ:=rpI) (bytes:=8) underlying22 fO rfl rfl rfl rfl nP rfl rfl H.up aq bO bO) rfl rfl rfl ?_
  rintro bz ev ⟨bv,rfl,au⟩
  refine go9 ?_;refine gqL ((f+1),(G++[p]),bz,bv,h1) ?_ ?_
  · exact⟨mle,au,⟨by omega,(zFI bj an bg).1⟩,(zFI bj an bg).2⟩
  omega
 have Z:∀u,u<L.length→G.getD u (0:Int)=pZ L 0 1 u:=fun u hu=>an u oM;have bh:G.length=L.length:=by omega
 refine uQ ?_;refine gcL (ι:=Nat×Mem) (fun(v,ak)=>(MLe mf ak∧(v≤L.length∧∀a,a<v→¬mP L 0 1 a∧∀b,b<L.length→¬t6 L 0 1 a b),[(0,vL),(8,z),(11,vI ↑v)],[.gs 3 1 z G.length D],ak,L.length-v)) (0,mf) ?_ ?_
 · exact⟨mle,by omega,fun a h=>by omega⟩
 rintro⟨v,ak⟩ ⟨di,ez,ah⟩
 refine yW ?_;refine gc9 (fun bn=>?_) fun bn=>?_
 ·
  refine go9 ?_;refine lX (xI [] v underlying76 uJ rL) fun eg ch=>(lX (xA uJ ch) fun ef cg=>(cL (ev1 rfl) call131 (fun w hs=>rK hs cg oM (by first|omega|assumption|exact Nat.le_trans (Nat.not_lt.1 (C _ oM)) dC)) fun ee h1 I cf=>(cL (ev1 rfl) call48 (fun w hs=>qF hs cf dC) fun bx h2 am ce=>?_)));obtain rfl:bx=vI (xC (uT (L.getD v []) 0 1 (L.getD v []).length)):=ce;have de:=yY (uT (L.getD v []) 0 1 (L.getD v []).length);refine gc3 (fun M=>?_) fun M=>?_
  ·
   refine go9 ?_;refine gqL ((v+1),h2) ?_ ?_
   · exact⟨mle,by omega,vG (Q:=fun a=>¬mP L 0 1 a∧∀b,b<L.length→¬t6 L 0 1 a b) ah (zZZ (yAQ hF (hS v oM) M))⟩
   omega
  refine go8 ?_;refine gcL (ι:=Nat×Mem) (fun(w,mw)=>(MLe h2 mw∧((w≤L.length∧(0<w→¬mP L 0 1 v))∧∀b,b<w→¬t6 L 0 1 v b),[(0,vL),(8,z),(11,vI ↑v),(12,vI ↑w)],[.gs 3 1 z G.length D],mw,L.length-w)) (0,h2) ?_ ?_
  · exact⟨mle,⟨by omega,fun h=>by omega⟩,fun b h=>by omega⟩
  rintro⟨w,mw⟩ ⟨dv,⟨ey,da⟩,ae⟩
  refine yW ?_;refine gc9 (fun bm=>?_) fun bm=>?_
  ·
   refine go5 ?_;refine zL 33 _ [] [(0,.q),(1,.q),(2,.q),(3,.q),(4,.q),(5,.q),(6,.q),(7,.q),(8,.q),(9,.q),(10,.q),(11,.q),(12,.q),(13,.q),(14,.q),(15,.q),(16,.q),(17,.q),(18,.q),(19,.q),(20,.q),(21,.q),(22,.q),(23,.q),(24,.q),(25,.q),(26,.q),(27,.q),(28,.q),(29,.c),(30,.q),(31,.q),(32,.q)] yA nX (wI (by kernel_rfl)) nX (fun r hr=>hr) (go2 ?_);refine w_q rfl (fun h' L' hh hR=>(xD v (hR _ mh0) underlying22 sizeOf3 rfl rfl rfl bO nP).cv (show _=zJ 1 z ((v*1+0)) from congrArg (zJ 1 z) (by rfl))) rfl (mS (F:=fun v_=>rpI.Is mw v_ (G.getD v (0:Int))) rfl (wL ty3 (Pc.arr (Pc.here _) (0:Int) v bO) rfl nP rfl H.up rfl) (tW mh0) rfl ?_);intro du bd;obtain⟨rfl,dl,dd⟩:=jZ bd;refine go2 ?_;refine qW ((G.getD v (0:Int))<(0:Int)) (fun ac=>?_) (fun ac=>?_)
   ·
    rw[xE ac];refine go23 ?_;refine w_c rfl (zZH rfl rfl rfl (go22 ?_));refine xY rfl rfl rfl ?_;refine⟨_,?_,(Rp.Is.cast (mD _) (by exact(show vS L 0 1=33∧tE L 0 1=[] from zBM oM C hS hX (.inl ⟨v,by omega,zM0 M (Z v oM) (by assumption)⟩)).2.symm))⟩;rw[(show vS L 0 1=33∧tE L 0 1=[] from zBM oM C hS hX (.inl ⟨v,by omega,zM0 M (Z v oM) (by assumption)⟩)).1]
   rw[yJ ac];refine yM rfl rfl rfl (fun h' L' hh hR=>yQ rfl) rfl (yM rfl rfl rfl (fun h' L' hh hR=>yQ rfl) rfl (go1 ?_));refine yM rfl rfl rfl (fun h' L' hh hR=>yQ rfl) rfl ?_;refine qW ((↑w:Int)≠(↑v:Int)) (fun ab=>?_) (fun ab=>?_)
   ·
    rw[xE ab];refine yM rfl rfl rfl (fun h' L' hh hR=>yQ rfl) rfl (yM rfl rfl rfl (fun h' L' hh hR=>yQ rfl) rfl (yM rfl rfl rfl (fun h' L' hh hR=>(xD w (hR _ mh0) underlying22 sizeOf3 rfl rfl rfl bO nP).cv (show _=zJ 1 z ((w*1+0)) from congrArg (zJ 1 z) (by rfl))) rfl (aH (F:=fun v_=>rpI.Is mw v_ (G.getD w (0:Int))) rfl rfl rfl (wL ty3 (Pc.arr (Pc.here _) (0:Int) w bO) rfl nP rfl H.up rfl) (tW mh0) rfl ?_)));intro dt bc;obtain⟨rfl,dk,dc⟩:=jZ bc;refine yM rfl rfl rfl (fun h' L' hh hR=>yQ rfl) rfl (yM rfl rfl rfl (fun h' L' hh hR=>yQ rfl) rfl (yM rfl rfl rfl (fun h' L' hh hR=>(xD v (hR _ mh0) underlying22 sizeOf3 rfl rfl rfl bO nP).cv (show _=zJ 1 z ((v*1+0)) from congrArg (zJ 1 z) (by rfl))) rfl (aH (F:=fun v_=>rpI.Is mw v_ (G.getD v (0:Int))) rfl rfl rfl (wL ty3 (Pc.arr (Pc.here _) (0:Int) v bO) rfl nP rfl H.up rfl) (tW mh0) rfl ?_)));intro dr bb;obtain⟨rfl,dj,db⟩:=jZ bb;refine go2 ?_;refine yM rfl rfl rfl (fun h' L' hh hR=>yQ rfl) rfl ?_;refine qW ((G.getD w (0:Int))=(G.getD v (0:Int))) (fun aa=>?_) (fun aa=>?_)
    ·
     rw[xE aa];refine yM rfl rfl rfl (fun h' L' hh hR=>yQ rfl) rfl (yM rfl rfl rfl (fun h' L' hh hR=>yQ rfl) rfl (oX rfl (xI [] w underlying76 uJ rL) fun dq ba=>(oX rfl (xA uJ ba) fun dp az=>(yM rfl rfl rfl (fun h' L' hh hR=>yQ rfl) rfl (yM rfl rfl rfl (fun h' L' hh hR=>yQ rfl) rfl (oX rfl (xI [] v underlying76 uJ rL) fun dn ay=>(oX rfl (xA uJ ay) fun dm ax=>?_)))))));refine w_c rfl (t7 rfl rfl (sC (ev2 rfl rfl) call133 (fun w hs=>zA1 hs az ax oM (by first|omega|assumption|exact Nat.le_trans (Nat.not_lt.1 (C _ oM)) dC) (by first|omega|assumption|exact Nat.le_trans (Nat.not_lt.1 (C _ oM)) dC)) fun ao h3 bi aw=>?_));obtain rfl:ao=vI (wiZ (L.getD w []) (L.getD v []) 0 1):=aw;have bw:=nK (L.getD w []) (L.getD v []) 0 1 (L.getD v []).length;refine gc5 (fun J=>?_) fun J=>?_
     ·
      have ai:t6 L 0 1 v w:=⟨⟨⟨by omega,by have:=y4 (Z v oM) (by assumption);rw[←Z v oM];omega⟩,by rw[←Z w oM,←Z v oM];assumption⟩,J⟩;refine iX ?_;refine xY rfl rfl rfl ?_;refine⟨_,?_,(Rp.Is.cast (mD _) (by exact(show vS L 0 1=33∧tE L 0 1=[] from zBM oM C hS hX (.inr ⟨v,w,by omega,by omega,ai⟩)).2.symm))⟩;rw[(show vS L 0 1=33∧tE L 0 1=[] from zBM oM C hS hX (.inr ⟨v,w,by omega,by omega,ai⟩)).1]
     refine go8 ?_;refine gqL ((w+1),h3) ?_ ?_
     · exact⟨mle,⟨by omega,fun _=>y4 (Z v oM) (by assumption)⟩,vG (Q:=fun b=>¬t6 L 0 1 v b) ae (fun e=>J e.2)⟩
     omega
    rw[yJ aa];refine go8 ?_;refine w_c rfl (lE rfl rfl rfl rfl (tG ?_));refine gqL ((w+1),mw) ?_ ?_
    · exact⟨mle,⟨by omega,fun _=>y4 (Z v oM) (by assumption)⟩,vG (Q:=fun b=>¬t6 L 0 1 v b) ae (fun e=>absurd e.1.2 (by rw[←Z w oM,←Z v oM];assumption))⟩
    omega
   rw[yJ ab];refine uA ?_;refine yM rfl rfl rfl (fun h' L' hh hR=>yQ rfl) rfl (go8 ?_);refine w_c rfl (lE rfl rfl rfl rfl (tG ?_));refine gqL ((w+1),mw) ?_ ?_
   · exact⟨mle,⟨by omega,fun _=>y4 (Z v oM) (by assumption)⟩,vG (Q:=fun b=>¬t6 L 0 1 v b) ae (fun e=>absurd e.1.1.1 oM)⟩
   omega
  refine qA ?_;refine gqL ((v+1),mw) ?_ ?_
  · exact⟨mle,by omega,vG (Q:=fun a=>¬mP L 0 1 a∧∀b,b<L.length→¬t6 L 0 1 a b) ah ⟨da oM,fun b hb=>ae b oM⟩⟩
  omega
 have hB:∀a b,a<L.length→b<L.length→¬t6 L 0 1 a b:=fun a b ha hb=>(ah a oM).2 b hb;have hL:∀a,a<L.length→¬mP L 0 1 a:=fun a ha=>(ah a oM).1;refine rM ?_;refine vJ (A:=[]) (ρ:=rpI) H.up ?_;intro h1 I ap;refine xY rfl rfl rfl ?_;refine⟨_,?_,(Rp.Is.cast ap (by exact(show vS L 0 1=0∧tE L 0 1=G from zSF oM C hS hX hL hB bh Z).2.symm))⟩;rw[(show vS L 0 1=0∧tE L 0 1=G from zSF oM C hS hX hL hB bh Z).1]
end Go.Proofs.YtpkaegemlpaenaaGreat
namespace Go.Proofs.YtpkaegemlpaenaaGreat
open Bk Go Tryz
set_option linter.unusedVariables false
set_option linter.unusedSimpArgs false
set_option maxRecDepth 10000
set_option maxHeartbeats 1000000
attribute [local irreducible] GL GC GQ W OpV
theorem z9{w0:World}{h0:Mem}(hs:MLe h0 (mem w0)){m l k:Nat}{vs:Value}{s:Pq}(rs:(tPl m l).Is h0 vs s){vp:Value}{p:Tq}(rp:(tPt k).Is h0 vp p)(hcd0:k≤100000000)(hcd1:l≤100000000)(hcd2:m≤100000000):
 Calls Tryz.prog 147 #[vs,vp] w0 (Ret w0 h0 (fun _ r=>r=vI (sdZ s p))):=by
 refine cb2 12 vs vp func147 hs ?_;refine go2 ?_;refine nB rs fun b2 ad z=>(nB rp fun b3 ac D=>(go4 ?_));refine zL 8 _ [] [(0,.q),(1,.q),(2,.q),(4,.q),(5,.q),(3,.c),(6,.c),(7,.q)] yA nX (by kernel_rfl) nX (fun r Z=>Z) (go1 ?_);refine wX rfl (xB zN (Pc.fst pH) z) fun v6 U=>(wX rfl (xB zN pH D) fun v7 O=>(go1 ?_));refine wX rfl (xB yB (Pc.snd pH) z) fun M I=>?_;refine w_c rfl (sC (ev2 rfl rfl) call120 (fun w hs=>zBL hs U O oM) fun v8 h1 ab G=>?_);replace G:=Rp.Is.le G (Le.q (l:=3*k+3*m+9) oM);refine w_c rfl (sC (ev2 rfl rfl) call182 (fun w hs=>cZ hs G I.up oM) fun C h2 aa H=>?_);obtain rfl:C=vI (yP (wO s.1 p) s.2):=H;have J:=uN (wO s.1 p) s.2;refine go4 ?_;refine zC rfl rfl ?_;exact congrArg vI (zQN s p)
theorem zO3{w0:World}{h0:Mem}(hs:MLe h0 (mem w0)){m l k:Nat}{vs:Value}{s:Pq}(rs:(tPl m l).Is h0 vs s){vp:Value}{p:Tq}(rp:(tPt k).Is h0 vp p)(hcd0:k≤100000000)(hcd1:l≤100000000)(hcd2:m≤100000000):
 Calls Tryz.prog 108 #[vs,vp] w0 (Ret w0 h0 (fun _ r=>r=vI (sdZ s p))):=by
 refine cb2 61 vs vp func108 hs ?_;refine go2 ?_;refine nB rs fun b2 cy D=>(nB rp fun b3 cw H=>(rV ?_));refine fP (go2 ?_);refine gv (OpV.tr dC (yG (q:=3) rfl rfl)) rfl (zS7 ?_);refine lX (xB yB (Pc.fst (Pc.tx pH)) D) fun cj bf=>(cL (ev1 rfl) call146 (fun w hs=>gY hs bf) fun cg h1 cu bc=>?_);obtain rfl:=bc;refine qA ?_;refine lX (xB yB (Pc.tx pH) H) fun cd az=>(cL (ev1 rfl) call146 (fun w hs=>gY hs az) fun ca h2 ct aw=>?_);obtain rfl:=aw;refine uQ ?_;refine gU 4 36 (vB ((¬(smB s.1.x))∨(¬(smB p.x)))) ?_ ?_
 ·
  refine zS (¬(smB s.1.x)) (fun G=>?_) (fun G=>?_)
  ·
   refine gT G rfl (go4 ?_);refine gqU ?_;exact congrArg some (wU G)
  refine gF G rfl (go6 ?_);refine gqU ?_;exact congrArg some (wV G)
 refine gc2 (fun C=>?_) fun C=>?_
 ·
  refine go2 ?_;refine lX (xB dE pH D) fun bw ar=>(lX (xB zN pH H) fun bt ao=>(cL (ev2 rfl rfl) call147 (fun w hs=>z9 hs ar ao oM oM oM) fun Z h3 cn ak=>?_));obtain rfl:Z=vI (sdZ s p):=ak;have bk:=oB s p;refine uA ?_;refine zC rfl rfl ?_
  rfl
 obtain⟨bg,bm⟩:=zF3 C;refine go6 ?_;refine gv (kO rfl rfl oM oM) rfl (go6 ?_);refine gv ((zP (q:=1) rfl rfl oM oM).cv (show _=vI (1) from rfl)) rfl (go2 ?_);refine xU (go2 ?_);refine gv (OpV.tr dC (yG (q:=3) rfl rfl)) rfl (zS7 ?_);refine lX (xB yB (Pc.fst (Pc.ty pH)) D) fun ci be=>(cL (ev1 rfl) call146 (fun w hs=>gY hs be) fun cf h3 cn bb=>?_);obtain rfl:=bb;refine qA ?_;refine lX (xB yB (Pc.ty pH) H) fun cc ay=>(cL (ev1 rfl) call146 (fun w hs=>gY hs ay) fun bz h4 cq av=>?_);obtain rfl:=av;refine uQ ?_;refine gU 4 36 (vB ((¬(smB s.1.y))∨(¬(smB p.y)))) ?_ ?_
 ·
  refine zS (¬(smB s.1.y)) (fun G=>?_) (fun G=>?_)
  ·
   refine gT G rfl (go4 ?_);refine gqU ?_;exact congrArg some (wU G)
  refine gF G rfl (go6 ?_);refine gqU ?_;exact congrArg some (wV G)
 refine gc2 (fun C=>?_) fun C=>?_
 ·
  refine go2 ?_;refine lX (xB dE pH D) fun bv aq=>(lX (xB zN pH H) fun bs an=>(cL (ev2 rfl rfl) call147 (fun w hs=>z9 hs aq an oM oM oM) fun U h5 cm aj=>?_));obtain rfl:U=vI (sdZ s p):=aj;have bj:=oB s p;refine uA ?_;refine zC rfl rfl ?_
  rfl
 obtain⟨bg,bm⟩:=zF3 C;refine go6 ?_;refine gv (kO rfl rfl oM oM) rfl (go6 ?_);refine gv ((zP (q:=1) rfl rfl oM oM).cv (show _=vI (2) from rfl)) rfl (go2 ?_);refine xU (go2 ?_);refine gv (OpV.tr dC (yG (q:=3) rfl rfl)) rfl (zS7 ?_);refine lX (xB yB (Pc.fst (Pc.tz pH)) D) fun ch bd=>(cL (ev1 rfl) call146 (fun w hs=>gY hs bd) fun ce h5 cm ba=>?_);obtain rfl:=ba;refine qA ?_;refine lX (xB yB (Pc.tz pH) H) fun cb ax=>(cL (ev1 rfl) call146 (fun w hs=>gY hs ax) fun bx h6 cp au=>?_);obtain rfl:=au;refine uQ ?_;refine gU 4 36 (vB ((¬(smB s.1.z))∨(¬(smB p.z)))) ?_ ?_
 ·
  refine zS (¬(smB s.1.z)) (fun G=>?_) (fun G=>?_)
  ·
   refine gT G rfl (go4 ?_);refine gqU ?_;exact congrArg some (wU G)
  refine gF G rfl (go6 ?_);refine gqU ?_;exact congrArg some (wV G)
 refine gc2 (fun C=>?_) fun C=>?_
 ·
  refine go2 ?_;refine lX (xB dE pH D) fun bu ap=>(lX (xB zN pH H) fun br am=>(cL (ev2 rfl rfl) call147 (fun w hs=>z9 hs ap am oM oM oM) fun O h7 cl ai=>?_));obtain rfl:O=vI (sdZ s p):=ai;have bi:=oB s p;refine uA ?_;refine zC rfl rfl ?_
  rfl
 obtain⟨bg,bm⟩:=zF3 C;refine go6 ?_;refine gv (kO rfl rfl oM oM) rfl (go6 ?_);refine gv ((zP (q:=1) rfl rfl oM oM).cv (show _=vI (3) from rfl)) rfl (go2 ?_);refine xU (go2 ?_);refine gv (OpV.fa dC (yG (q:=3) rfl rfl)) rfl (uQ ?_);refine lX (xB yB (Pc.snd pH) D) fun bq ah=>(cL (ev1 rfl) call146 (fun w hs=>gY hs ah) fun bp h7 cl ae=>?_);obtain rfl:=ae;refine tG ?_;refine cnd (fun I=>?_) fun I=>?_
 ·
  refine go2 ?_;refine lX (xB dE pH D) fun bo ad=>(lX (xB zN pH H) fun bn ac=>(cL (ev2 rfl rfl) call147 (fun w hs=>z9 hs ad ac oM oM oM) fun M h8 ck ab=>?_));obtain rfl:M=vI (sdZ s p):=ab;have bh:=oB s p;refine go5 ?_;refine zC rfl rfl ?_
  rfl
 have bl:=Classical.not_not.1 I;have co:=tR bl;refine go7 ?_;refine cL (ev1 rfl) call148 (fun w hs=>zE7 hs oM oM) fun J h8 ck aa=>?_;obtain rfl:J=vI (zD5 (((((0:Int)+((smZ s.1.x)*(smZ p.x)))+((smZ s.1.y)*(smZ p.y)))+((smZ s.1.z)*(smZ p.z)))-(smZ s.2))):=aa;refine go4 ?_;refine zC rfl rfl ?_;exact congrArg vI (zQM (by assumption) (by assumption) (by assumption) bl)
end Go.Proofs.YtpkaegemlpaenaaGreat
namespace Bk
set_option linter.unusedVariables false
open Go Go.RowKit
section
variable {P:Program}{n:Nat}{w0:World}{h0:Mem}{e:List (Nat×Value)}{L:List Res}{h:Mem}{Q:Exit→Act→World→Prop}
theorem zTB{c:Code}(k:GC P n w0 h0 c (Exit.noGoto Q) e L h):GC P n w0 h0 (.scope c) Q e L h:=fun a w E S=>wp_scope_straight (k a w E S)
theorem zTC{l:Nat}(k:GQ n w0 h0 Q .normal e L h):GC P n w0 h0 (.label l) Q e L h:=fun a w E S=>wp_label (k a w E S)
theorem yDB(k:GQ n w0 h0 Q .ret e L h):GQ n w0 h0 (Exit.noGoto Q) .ret e L h:=k
end
end Bk
namespace Go.Proofs.YtpkaegemlpaenaaGreat
open Bk Go Tryz
set_option linter.unusedVariables false
set_option linter.unusedSimpArgs false
set_option maxRecDepth 10000
set_option maxHeartbeats 1000000
attribute [local irreducible] GL GC GQ W OpV
theorem zO5{w0:World}{h0:Mem}(hs:MLe h0 (mem w0)){k m n j:Nat}{vs:Value}{s:Sq}(rs:(tSd k m n j).Is h0 vs s){vf:Value}{f:(Pq×((List (List Int))×(List Nat)))}(rf:(tFc m n).Is h0 vf f)(hcd0:∀u v,u<f.2.1.length→v<(f.2.1.getD u []).length→0≤(f.2.1.getD u []).getD v 0∧(f.2.1.getD u []).getD v 0<s.1.length)(hcd1:s.1.length≤100000)(hcd2:∀u,u<f.2.1.length→(f.2.1.getD u []).length≤10000)(hcd3:f.2.1.length≤10000):
 Calls Tryz.prog 104 #[vs,vf] w0 (Ret w0 h0 (fun _ r=>r=vB (True))):=by
 refine cb2 33 vs vf func104 hs ?_;refine go2 ?_;refine nB rs fun Z U ac=>(nB rf fun b3 O ab=>(go7 ?_));refine lX (xB cK (Pc.snd (Pc.fst pH)) ab) fun D aj=>(go5 ?_);refine gcL (ι:=Nat×Mem) (fun(l,H)=>(MLe h0 H∧(l≤f.2.1.length),[(2,vP Z 0),(10,D),(11,vI (↑(f.2.1).length:Int)),(12,vI ↑l)],[.var b3 53 O,.var Z 39 U],H,f.2.1.length-l)) (0,h0) ?_ ?_
 · exact⟨mle,oM⟩
 rintro⟨l,H⟩ ⟨an,z⟩
 refine yW ?_;have az:=z;refine gc6 (fun M=>?_) fun M=>?_
 ·
  refine go6 ?_;refine lX (xI [] l underlying51 fG aj) fun au ai=>(lX (xA fG ai) fun aa ah=>(qA ?_));refine gcL (ι:=Nat×Mem) (fun(u,G)=>(MLe H G∧(u≤(f.2.1.getD l []).length),[(2,vP Z 0),(10,D),(11,vI (↑(f.2.1).length:Int)),(12,vI ↑l),(16,aa),(17,vI (↑((f.2.1.getD l [])).length:Int)),(18,vI ↑u)],[.var b3 53 O,.var Z 39 U],G,(f.2.1.getD l []).length-u)) (0,H) ?_ ?_
  · exact⟨mle,oM⟩
  rintro⟨u,G⟩ ⟨am,z⟩
  refine yW ?_;have aw:=z;have ba:=hcd2 l oM;refine gc6 (fun J=>?_) fun J=>?_
  ·
   obtain⟨ay,ax⟩:=hcd0 l u oM oM;refine go6 ?_;refine lX (xI (0:Int) u underlying22 ty3 ah) fun ar ae=>(lX (xA ty3 ae) fun aq ad=>?_);obtain⟨rfl,ao,ak⟩:=jZ ad;refine go7 ?_;refine gU 7 30 (vB ((((f.2.1.getD l []).getD u (0:Int))<(0:Int))∨((↑(s.1).length:Int)≤((f.2.1.getD l []).getD u (0:Int))))) ?_ ?_
   ·
    refine zS (((f.2.1.getD l []).getD u (0:Int))<(0:Int)) (fun I=>?_) (fun I=>?_)
    ·
     refine gT I rfl (go7 ?_);refine gqU ?_;exact congrArg some (wU I)
    refine gF I rfl (go5 ?_);refine lX (xB uJ (Pc.fst pH) ac) fun ap av=>(go6 ?_);refine gqU ?_;exact congrArg some (wV I)
   refine gc2 (fun C=>?_) fun C=>?_
   · exact absurd C oM
   refine go7 ?_;refine gqL ((u+1),G) ?_ ?_
   · exact⟨mle,oM⟩
   omega
  refine uA ?_;refine gqL ((l+1),G) ?_ ?_
  · exact⟨mle,oM⟩
  omega
 refine qA ?_;refine zC rfl rfl ?_;exact(xE trivial).symm
theorem zID{w0:World}{h0:Mem}(hs:MLe h0 (mem w0)){k m n j:Nat}{vs:Value}{s:Sq}(rs:(tSd k m n j).Is h0 vs s){vf:Value}{f:(Pq×((List (List Int))×(List Nat)))}(rf:(tFc m n).Is h0 vf f)(hcd0:∀u v,u<f.2.1.length→v<(f.2.1.getD u []).length→0≤(f.2.1.getD u []).getD v 0∧(f.2.1.getD u []).getD v 0<s.1.length)(hcd1:s.1.length≤100000)(hcd2:∀u,u<f.2.1.length→(f.2.1.getD u []).length≤10000)(hcd3:f.2.1.length≤10000):
 Calls Tryz.prog 105 #[vs,vf] w0 (Ret w0 h0 (fun h r=>(tLL (k+1)).Is h r (dP s.1 f.2.1 f.2.1.length))):=by
 refine cb2 39 vs vf func105 hs ?_;refine go2 ?_;refine nB rs fun b2 ar ay=>(nB rf fun b3 aq ax=>(uQ ?_));refine lX (xB cK (Pc.snd (Pc.fst pH)) ax) fun aa bg=>(go5 ?_);refine xH 35 1 ?_;have ad:=RL.nil (ρ:=rpS (tPt (k+1))) (h:=h0);refine gcL (ι:=Nat×List (List Tq)×Value×List Value×Mem) (fun(l,D,z,C,Z)=>(MLe h0 Z∧(RL (tLs (k+1)) Z C D∧l≤f.2.1.length∧D=dP s.1 f.2.1 l),[(2,vP b2 0),(5,z),(12,aa),(13,vI (↑(f.2.1).length:Int)),(14,vI ↑l)],[.gs 35 1 z D.length C,.var b3 53 aq,.var b2 39 ar],Z,f.2.1.length-l)) (0,[],(.slice none 0 0),[],h0) ?_ ?_
 · exact⟨mle,ad,by omega,rfl⟩
 rintro⟨l,D,z,C,Z⟩ ⟨bj,J,cd,hD⟩
 refine yW ?_;have ch:D.length=l:=by rw[hD];exact xL _ _
 refine gc6 (fun an=>?_) fun an=>?_
 ·
  refine go6 ?_;refine lX (xI [] l underlying51 fG bg) fun bu bf=>(lX (xA fG bf) fun aw be=>(mW ?_));refine xH 31 9 ?_;have ac:=RL.nil (ρ:=rpT (rpQ (k+1))) (h:=Z);refine gcL (ι:=Nat×List Tq×Value×List Value×Mem) (fun(u,E,G,H,mb)=>(MLe Z mb∧(RL (tPt (k+1)) mb H E∧u≤(f.2.1.getD l []).length∧E=zF7 s.1 (f.2.1.getD l []) u),[(2,vP b2 0),(5,z),(8,G),(12,aa),(13,vI (↑(f.2.1).length:Int)),(14,vI ↑l),(18,aw),(19,vI (↑((f.2.1.getD l [])).length:Int)),(20,vI ↑u)],[.gs 31 9 G E.length H,.gs 35 1 z D.length C,.var b3 53 aq,.var b2 39 ar],mb,(f.2.1.getD l []).length-u)) (0,[],(.slice none 0 0),[],Z) ?_ ?_
  · exact⟨mle,ac,by omega,rfl⟩
  rintro⟨u,E,G,H,mb⟩ ⟨bi,I,ca,hE⟩
  refine yW ?_;have cg:E.length=u:=by rw[hE];exact xL _ _
  have cf:=hcd2 l oM;refine gc6 (fun am=>?_) fun am=>?_
  ·
   obtain⟨cc,cb⟩:=hcd0 l u oM oM;refine go6 ?_;refine lX (xI (0:Int) u underlying22 ty3 be) fun bt bd=>(lX (xA ty3 bd) fun bs bc=>?_);obtain⟨rfl,bk,bh⟩:=jZ bc;refine go6 ?_;refine lX (xB uJ (Pc.fst pH) ay) fun br bb=>(go1 ?_);refine lX (xI zT (((f.2.1.getD l []).getD u 0).toNat) underlying35 zN bb) fun bq ba=>(lX (xA zN ba) fun bp az=>(zI (zU (ρ:=(tPt (k+1))) (m:=1) (xs:=[(s.1.getD (((f.2.1.getD l []).getD u 0).toNat) zT)]) (ps':=[(0,_)]) underlying35 yX rfl rfl rfl (wB (yN oM)) e2z (zH rfl (Pc.arr (Pc.here _) zT 0 dC) (az.le (Le.t (Le.q (l:=k+1) oM))) zW) (show 1*9≤16777216 from by decide) nP) rfl rfl rfl ?_))
   rintro bo bz ⟨bm,rfl,aj⟩
   refine zY (A:=[]) (ρ:=(tPt (k+1))) aj ?_;intro h1 ak ab;refine xK (A:=[]) (zX (ρ:=(tPt (k+1))) (bytes:=168) underlying35 yX rfl rfl rfl rfl nP rfl rfl I.up ab bO bO) rfl rfl rfl ?_
   rintro av bx ⟨ap,rfl,ai⟩
   refine go8 ?_;refine gqL ((u+1),(E++[(s.1.getD (((f.2.1.getD l []).getD u 0).toNat) zT)]),av,ap,h1) ?_ ?_
   · exact⟨mle,ai,by omega,by rw[hE];rfl⟩
   omega
  have eu:u=(f.2.1.getD l []).length:=by omega
  refine go8 ?_;refine zY (A:=[]) (ρ:=(tPt (k+1))) I.up ?_;intro h1 ak U;refine zI (zU (ρ:=(tLs (k+1))) (m:=1) (xs:=[E]) (ps':=[(0,_)]) underlying76 oP rfl rfl rfl uV e2z (zH rfl (Pc.arr (Pc.here _) [] 0 dC) U zW) (show 1*1≤16777216 from by decide) nP) rfl rfl rfl ?_
  rintro bn bw ⟨bl,rfl,ah⟩
  refine zY (A:=[]) (ρ:=(tLs (k+1))) ah ?_;intro h2 ce O;refine xK (A:=[]) (zX (ρ:=(tLs (k+1))) (bytes:=24) underlying76 oP rfl rfl rfl rfl nP rfl rfl J.up O bO bO) rfl rfl rfl ?_
  rintro au bv ⟨ao,rfl,ae⟩
  refine go8 ?_;refine gqL ((l+1),(D++[E]),au,ao,h2) ?_ ?_
  · exact⟨mle,ae,by omega,by rw[hD,hE,eu];rfl⟩
  omega
 have el:l=f.2.1.length:=by omega
 refine uQ ?_;refine vJ (A:=[]) (ρ:=(tLs (k+1))) J.up ?_;intro h1 ak M;refine zC rfl rfl ?_;exact(Rp.Is.cast M (by rw[hD,el]))
theorem zE8{w0:World}{h0:Mem}(hs:MLe h0 (mem w0)){m n k j:Nat}{vf:Value}{f:(Pq×((List (List Tq))×(Int×Int)))}(rf:(rpP (tPl m n) (rpP (tLL k) (rpP rpI rpI))).Is h0 vf f){vp:Value}{p:Tq}(rp:(tPt j).Is h0 vp p)(hcd0:k≤50000)(hcd1:j≤50000)(hcd2:yAT f):
 Calls Tryz.prog 109 #[vf,vp] w0 (Ret w0 h0 (fun _ r=>r=vI (whM f p))):=by
 obtain⟨H,hi2⟩:∃H:Nat,f.2.2.1=↑H:=⟨f.2.2.1.toNat,by have:=hcd2.1;omega⟩;obtain⟨G,D⟩:∃G:Nat,f.2.2.2=↑G:=⟨f.2.2.2.toNat,by have:=hcd2.2.1;omega⟩;have z:=hcd2;unfold yAT at z;rw[hi2,D] at z;refine cb2 13 vf vp func109 hs ?_;refine go2 ?_;refine nB rf fun b2 ah C=>(nB rp fun b3 ae J=>(go6 ?_));refine lX (xB zYN (Pc.snd (Pc.fst pH)) C) fun v6 r6=>(lX (xB zN pH J) fun v7 r7=>(go1 ?_));refine lX (xB ty3 (Pc.snd (Pc.snd (Pc.fst pH))) C) fun v9 r9=>?_;obtain⟨rfl,ac,ab⟩:=jZ r9;refine go1 ?_;refine lX (xB ty3 (Pc.snd (Pc.snd (Pc.snd pH))) C) fun aa O=>?_;obtain⟨rfl,Z,U⟩:=jZ O;rw[hi2,D];refine cL (ev4 rfl rfl rfl rfl) call149 (fun w hs=>zK0 (i:=H) (j:=G) hs (r6.le (Le.s (Le.s (Le.t (Le.q (l:=j+k) oM))))) (r7.le (Le.t (Le.q (l:=j+k) oM))) oM oM oM (by first|omega|exact z.2.2.2|exact z.2.2.1) (by first|omega|exact z.2.2.2|exact z.2.2.1)) fun I h1 ad M=>?_;obtain rfl:I=vI (whZ f.2.1 (pr p H G) H G):=M;refine go4 ?_;refine zC rfl rfl ?_;unfold whM;rw[hi2,D];rfl
theorem zV1{w0:World}{h0:Mem}(hs:MLe h0 (mem w0)){k l j:Nat}{vx:Value}{x:(Tq×(Tq×Prop))}(rx:(rpP (tPt k) (rpP (tPt l) rpB)).Is h0 vx x){vd:Value}{d:Tq}(rd:(tPt j).Is h0 vd d)(hcd0:k≤1000000)(hcd1:l≤1000000)(hcd2:j≤1000000):
 Calls Tryz.prog 117 #[vx,vd] w0 (Ret w0 h0 (fun _ r=>r=vB (zDG x d))):=by
 refine cb2 18 vx vd func117 hs ?_;refine go2 ?_;refine nB rx fun b2 ak z=>(nB rd fun b3 aj H=>(go7 ?_));refine lX (xB ty4 (Pc.snd (Pc.snd pH)) z) fun v6 r6=>?_;obtain rfl:=zZW r6;refine gc2 (fun G=>?_) fun G=>?_
 ·
  refine go3 ?_;refine lX (xB zN (Pc.snd (Pc.fst pH)) z) fun v8 r8=>(lX (xB zN pH H) fun v9 r9=>(cL (ev2 rfl rfl) call114 (fun w hs=>zE0 hs r8 r9 oM) fun ai h1 ac D=>?_));replace D:=Rp.Is.le D (Le.t (Le.q (l:=2*j+2*l+3) oM));refine cL (ev1 rfl) call78 (fun w hs=>zIB hs D oM) fun J h2 ab Z=>?_;obtain rfl:J=vB ((wH x.2.1 d)=zT):=Z;refine go5 ?_;refine zC rfl rfl ?_;exact jI (by unfold zDG;rw[if_pos G])
 refine go5 ?_;refine lX (xB zN (Pc.fst pH) z) fun ah U=>(lX (xB zN pH H) fun ae O=>(cL (ev2 rfl rfl) call120 (fun w hs=>zBL hs U O oM) fun ad h1 ac C=>?_));replace C:=Rp.Is.le C (Le.q (l:=3*j+3*k+9) oM);refine cL (ev1 rfl) call122 (fun w hs=>sZ hs C oM) fun I h2 ab M=>?_;obtain rfl:I=vI (xC (wO x.1 d)):=M;have aa:=yY (wO x.1 d);refine go5 ?_;refine zC rfl rfl ?_;exact jI (by unfold zDG;rw[if_neg G];exact zVG)
end Go.Proofs.YtpkaegemlpaenaaGreat
namespace Go.Proofs.YtpkaegemlpaenaaGreat
open Bk Go Tryz
set_option linter.unusedVariables false
set_option linter.unusedSimpArgs false
set_option maxRecDepth 10000
set_option maxHeartbeats 1000000
attribute [local irreducible] GL GC GQ W OpV
theorem zZY{w0:World}{h0:Mem}(hs:MLe h0 (mem w0)){m n k j:Nat}{vmd:Value}{md:((List (Pq×((List (List Tq))×(Int×Int))))×(List (List Tq)))}(rmd:(rpP (rpS (rpP (tPl m n) (rpP (tLL k) (rpP rpI rpI)))) (rpS (rpA 2 (tPt k)))).Is h0 vmd md){vp:Value}{p:Tq}(rp:(tPt j).Is h0 vp p)(hcd0:k≤20000)(hcd1:j≤20000)(hcd2:m≤20000)(hcd3:n≤20000)(hcd4:zO7 md):
 Calls Tryz.prog 70 #[vmd,vp] w0 (Ret w0 h0 (fun h r=>r=.tuple #[vI (↑(onJ md p):Int),vB (onA md p)])):=by
 refine cb2 35 vmd vp func70 hs ?_;refine go2 ?_;refine nB rmd fun b2 aa ae=>(nB rp fun b3 Z J=>(go8 ?_));refine lX (xB zYM (Pc.fst pH) ae) fun v9 r9=>(go5 ?_);refine gcL (ι:=Nat×Mem) (fun(f,ma)=>(MLe h0 ma∧(f≤md.1.length∧∀u,u<f→¬onM md p u),[(3,vP b3 0),(9,v9),(10,vI (↑(md.1).length:Int)),(11,vI ↑f)],[.var b3 31 Z,.var b2 99 aa],ma,md.1.length-f)) (0,h0) ?_ ?_
 · exact⟨mle,by omega,fun u h=>by omega⟩
 rintro⟨f,ma⟩ ⟨av,bg,G⟩
 refine yW ?_;have be:=hcd4.1;refine gc6 (fun O=>?_) fun O=>?_
 ·
  refine go7 ?_;refine lX (xI fm0 f underlying96 zBY r9) fun bc ap=>(lX (xA zBY ap) fun bb ao=>(nA (ρ:=(rpP (tPl 1 1) (rpP (tLL 1) (rpP rpI rpI)))) (X:=((zT,(0:Rat)),([],((0:Int),(0:Int))))) mF (yI (yI (wB (yN dC)) (yN dC)) (yI uV (yI wD wD))) fun b7 bh ad=>(go1 ?_)));have I:=(Le.p (Le.p (Le.t (Le.q (l:=m+1) oM)) (Le.q (l:=n+1) oM)) (Le.p (Le.s (Le.s (Le.t (Le.q (l:=k+1) oM)))) (Le.refl _))).R ad;refine yE (A:=[]) (uB sizeOf140 pH I (ao.le (Le.p (Le.p (Le.t (Le.q (l:=m+1) oM)) (Le.q (l:=n+1) oM)) (Le.p (Le.s (Le.s (Le.t (Le.q (l:=k+1) oM)))) (Le.refl _))))) fun U z=>(go5 ?_);refine lX (xB dE (Pc.fst pH) z) fun ba an=>(lX (xB zN pH J) fun az am=>(cL (ev2 rfl rfl) call108 (fun w hs=>zO3 hs an am oM oM oM) fun ac h1 bf ak=>?_));obtain rfl:ac=vI (sdZ ((md.1.getD f fm0).1) p):=ak;have aq:=oB ((md.1.getD f fm0).1) p;refine go1 ?_;refine gU 6 26 (vB (((sdZ ((md.1.getD f fm0).1) p)=(0:Int))∧((0:Int)<(↑(((md.1.getD f fm0).2).1).length:Int)))) ?_ ?_
  ·
   refine zS ((sdZ ((md.1.getD f fm0).1) p)=(0:Int)) (fun C=>?_) (fun C=>?_)
   ·
    refine gT C rfl (go3 ?_);refine lX (xB zYN (Pc.snd (Pc.fst pH)) z) fun ay bd=>(go6 ?_);refine gqU ?_;exact congrArg some (yU C)
   refine gF C rfl (go6 ?_);refine gqU ?_;exact congrArg some (yV C)
  refine uS (ι:=Mem) 6 (fun m_=>MLe h1 m_) (fun _=>[(32,vB ((((sdZ ((md.1.getD f fm0).1) p)=(0:Int))∧((0:Int)<(↑(((md.1.getD f fm0).2).1).length:Int)))∧((0:Int)≤(whM (md.1.getD f fm0) p)))),(3,vP b3 0),(9,v9),(10,vI (↑(md.1).length:Int)),(11,vI ↑f),(6,vI ↑f)]) (fun _=>[.var b7 140 U,.var b3 31 Z,.var b2 99 aa]) (fun m_=>m_) ?_ ?_
  ·
   refine zS (((sdZ ((md.1.getD f fm0).1) p)=(0:Int))∧((0:Int)<(↑(((md.1.getD f fm0).2).1).length:Int))) (fun C=>?_) (fun C=>?_)
   ·
    refine gT C rfl (go1 ?_);refine lX (xB zBY pH z) fun ax aj=>(go1 ?_);refine lX (xB zN pH J) fun aw ai=>(go1 ?_);refine cL (ev2 rfl rfl) call109 (fun w hs=>zE8 hs aj ai oM oM (by first|omega|exact hcd4.2.2 f oM)) fun ab h2 au ah=>?_;obtain rfl:ab=vI (whM (md.1.getD f fm0) p):=ah;refine go4 ?_;refine zQ h2 au ⟨?_,rfl,rfl,rfl,rfl,rfl,trivial⟩ rfl rfl;exact congrArg some (yU C)
   refine gF C rfl (go6 ?_);refine zQ h1 (MLe.refl _) ⟨?_,rfl,rfl,rfl,rfl,rfl,trivial⟩ rfl rfl;exact congrArg some (yV C)
  intro D H;refine sE ?_;refine gc2 (fun M=>?_) fun M=>?_
  ·
   have ar:onM md p f:=by show((_∧_)∧_);omega
   obtain⟨e1,e2⟩:=zON oM ar G;refine rM ?_;refine xY rfl rfl rfl ?_;rw[e1,xE e2]
  refine go7 ?_;refine xM (A:=[]) ?_;refine gqL ((f+1),D) ?_ ?_
  · exact⟨mle,by omega,vG (Q:=fun u=>¬onM md p u) G (by show ¬((_∧_)∧_);omega)⟩
  omega
 obtain⟨e1,e2⟩:=zRX (md:=md) (p:=p) (fun u hu=>G u oM);refine uQ ?_;refine xY rfl rfl rfl ?_;rw[e1,yJ e2];rfl
end Go.Proofs.YtpkaegemlpaenaaGreat
