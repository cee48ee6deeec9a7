/- Texts that the proof needs, part 6. -/
import Derived.Test.YtboaboflnckgoaaGreatKB5
namespace Bk
set_option linter.unusedVariables false
set_option linter.unusedSimpArgs false
open Go Go.RowKit
section
variable {P:Program}{n:Nat}{w0:World}{h0:Mem}{e:List (Nat×Value)}{L:List Res}{h:Mem}{Q:Exit→Act→World→Prop}{ds:Option Tmp}{ty:TypeId}{ps:String}{af:Array Edge}{gd:Option (Nat×Bool)}{α β:Type}
variable {E:TypeId}{cs:List Value}{v:Value}{ρ:Rp α}{σ:Rp β}{g:List α→β}{s:List α→β→List α}{xs:List α}{off k:Nat}
theorem zGA{w:World}{h':Mem}(hm:.gs E ρ.n v xs.length cs∈L)(pc:Pc (rpA xs.length ρ) off σ g s)(hp:0<σ.n)(r:RL ρ h cs xs)(S:St w0 h0 L h' w):
 ∃b o',∀d,zL 1 v (off+d)=vP b (o'+off+d):=by
 have C:off+σ.n≤xs.length*ρ.n:=pc.fits;have z:=r.len;obtain⟨b,o',D,u,_⟩:=zHC (l:=1) (zF5 hm S) (by decide) (show off+1≤cs.length by omega);refine⟨b,o',fun d=>?_⟩;rw[u];simp[zL,qZ,Nat.add_assoc]
theorem sI{x:Operand}(pc:Pc (rpA xs.length ρ) off σ g s)(hk:k=off)(hp:0<σ.n)(r:RL ρ h cs xs)(hm:.gs E ρ.n v xs.length cs∈L)(hx:zJ e x=some (zL 1 v k)):
 OpV P n w0 h0 ⟨ds,.nilCheck x,ty,ps,af,gd⟩ e L h (zL 1 v k):=by
 subst hk;intro a w z S;obtain⟨b,o',H⟩:=zGA hm pc hp r S;have u:=H 0;rw[Nat.add_zero,Nat.add_zero] at u;rw[u] at hx ⊢;exact fU hx a w z S
theorem gV{t:TypeId}{x:Operand}{f:Nat}{fs:Array Field}{fl:Field}{m:Nat}(pc:Pc (rpA xs.length ρ) off σ g s)(hk:k=off)(hp:0<σ.n)(r:RL ρ h cs xs)(hm:.gs E ρ.n v xs.length cs∈L)(ht:P.underlying t=some (.struct fs))(hf:fs[f]?=some fl)(hsz:∀w,(Go.sizeOf fl.type).run P w=.ok (m+1) w)(hx:zJ e x=some (zL 1 v k)):
 OpV P n w0 h0 ⟨ds,.fieldAddr t x f,ty,ps,af,gd⟩ e L h (zL 1 v (k+fl.offset)):=by
 subst hk;intro a w z S;obtain⟨b,o',H⟩:=zGA hm pc hp r S;have u:=H 0;rw[Nat.add_zero,Nat.add_zero] at u;rw[H];rw[u] at hx;exact xW ht hf hsz hx a w z S
theorem tG{t E':TypeId}{x y:Operand}{m sz:Nat}{q:Int}(i:Nat)(pc:Pc (rpA xs.length ρ) off σ g s)(hk:k=off)(hp:0<σ.n)(r:RL ρ h cs xs)(hm:.gs E ρ.n v xs.length cs∈L)(ht:P.underlying t=some (.array m E'))(hsz:∀w,(Go.sizeOf E').run P w=.ok sz w)(hx:zJ e x=some (zL 1 v k))(hy:zJ e y=some (vI q))(hq:q=(i:Int))(hi:i<m):
 OpV P n w0 h0 ⟨ds,.indexAddr t x y,ty,ps,af,gd⟩ e L h (zL 1 v (k+i*sz)):=by
 subst hk;intro a w z S;obtain⟨b,o',H⟩:=zGA hm pc hp r S;have u:=H 0;rw[Nat.add_zero,Nat.add_zero] at u;rw[H];rw[u] at hx;exact zX i ht hsz hx hy hq hi a w z S
end
end Bk
namespace Go.Proofs.YtboaboflnckgoaaGreat
open Bk Go Tryz
set_option linter.unusedVariables false
set_option linter.unusedSimpArgs false
set_option maxRecDepth 10000
set_option maxHeartbeats 1000000
attribute [local irreducible] GL GC GQ W OpV
theorem uE{w0:World}{h0:Mem}(hs:MLe h0 (mem w0)){n:Int}(hn1:-9223372036854775808≤n)(hn2:n<9223372036854775808):
 Calls Tryz.prog 126 #[vI n] w0 (Ret w0 h0 (fun h r=>fD.Is h r (jF ((n:Int):Rat)))):=by
 refine cb1 6 (vI n) func126 hs ?_;refine zM (zE (asg rfl rfl (zR (zH (zM (zE (mv rfl rfl (cL (ev1 rfl) call39 (fun w hs=>jS hs oM oM) fun v4 U O r4=>?_))))))));obtain⟨G,H,u,z,C,D⟩:=qG r4;subst u;refine cL (ev1 rfl) call173 (fun w hs=>zNV hs z C oM) fun S T M I=>?_;subst I;have J:=zB5 ((n:Int):Rat);refine asg rfl rfl (zR (zH (bQ (zD rfl rfl ?_))));exact(bP (zSW ((n:Int):Rat)))
set_option maxHeartbeats 1000000 in
theorem zOG{w0:World}{h0:Mem}(hs:MLe h0 (mem w0)){k l1 l2:Nat}{vL:Value}{L:(List (List Tq))}(rL:(tLL k).Is h0 vL L){vlo:Value}{lo:Rat}(rlo:(rpQ l1).Is h0 vlo lo){vhi:Value}{hi:Rat}(rhi:(rpQ l2).Is h0 vhi hi)(hcd0:k≤20)(hcd1:l1≤20)(hcd2:l2≤20)(hcd3:∀x,x∈L→nF x)(hcd4:prE L lo hi=0→okS (prR L lo hi)):
 Calls Tryz.prog 81 #[vL,vlo,vhi] w0 (sQ w0 h0 (fun h r L_=>∃u0 vF cs,r=.tuple #[u0,vI (prE L lo hi)]∧(rpP (tLs (k+l1+l2+20)) (rpP rpV (rpS (rpP rpI (rpP rpI (rpQ 5)))))).Is h u0 (prP L lo hi,(vF,[]))∧L_=[.gs 83 14 vF (prF L lo hi).length cs]∧vF.oneCell'=true∧RL (tFc (1000*k+1000*l1+1000*l2+2000) (1000*k+1000*l1+1000*l2+2000)) h cs (prF L lo hi))):=by
 refine cb3 341 vL vlo vhi func81 hs ?_;refine zM (zE (nB rlo fun b4 dx cz=>(nB rhi fun b5 dw cy=>(nA (ρ:=(rpP (tLs 1) (rpP rpV (rpS (rpP rpI (rpP rpI (rpQ 1))))))) (X:=([],((Value.slice none 0 0),[]))) tO (yL qJ (yL cI qJ)) fun b6 dv bf=>(asg (v:=vI (0)) rfl rfl (zR (zH (zM (zM (zE (mv rfl rfl (cL (ev1 rfl) call123 (fun w hs=>zEX hs rL oM (by first|omega|exact hcd3)) fun zq h1 dr sl=>?_))))))))))));obtain⟨jd,rfl,lc⟩:=sl
 change (rpS rpI).Is h1 jd (fX L 0 1) at lc
 refine mv rfl rfl (gv (kP (vs:=[_,_]) rfl rfl) rfl (gv (kP (vs:=[_,_]) rfl rfl) rfl (asg rfl rfl (asg rfl rfl (zR (zH (zM (zE (mv rfl rfl (gv (lK (q:=0) rfl rfl) rfl (zR (wU (e':=[(0,_),(4,_),(5,_),(6,_),(9,_),(40,_)]) e6z (zH ?_)))))))))))));refine cnd (fun gg=>?_) fun gg=>?_
 ·
  refine zM (zE (lX (xV (ρ:=(rpP (tLs 1) (rpP rpV (rpS (rpP rpI (rpP rpI (rpQ 1))))))) (wD (ps':=[]) underlying50 tO rfl rfl (bF underlying50) trivial rfl (yL qJ (yL cI qJ)) zY)) fun zp sk=>(mv rfl rfl ?_)));replace bf:=bf.mono dr;refine zS (A:=[]) (uB sizeOf50 pH bf sk) fun yr nl=>(asg rfl rfl (zR (zH (bQ (aJ ?_)))));obtain⟨e1,e2,e3⟩:=pr_1 (lo:=lo) (hi:=hi) gg;rw[e1,e2,e3];refine cY 83 14 ?_;have nj:=RL.nil (ρ:=rpP (tPl (1000*k+1000*l1+1000*l2+2000) (1000*k+1000*l1+1000*l2+2000)) (rpP tII fD)) (h:=h1);refine wM (kA (t:=6) kF mh1 rfl nl) ?_;intro yw ld nh;refine gX (.cons_cons _ (List.nil_sublist _)) (fun E S=>vV rfl ld (jQ rfl) E S) ?_;exact⟨_,_,_,rfl,(Rp.Is.le nh (Le.p (Le.s (Le.t (Le.q (l:=k+l1+l2+20) oM))) (Le.p (Le.refl _) (Le.s (Le.p (Le.refl _) (Le.p (Le.refl _) (Le.q (l:=5) dC))))))),rfl,rfl,nj⟩
 refine uK (zH (zM (zM (zE (mv rfl rfl ?_)))));have gb:vQ L 0 1=0:=Classical.not_not.1 gg;have dp:=zUZ gb;have lk:=zWQ dp.2;replace rL:=rL.mono dr;refine cL (ev1 rfl) call124 (fun w hs=>zEY hs rL oM (by first|omega|exact fun l hl=>Nat.le_trans (dp.2 l hl) dC) (by first|omega|exact fun l hl=>Nat.le_trans (dp.2 l hl) dC)) fun rk h2 ed sj=>?_;obtain rfl:rk=vI (ouZ L):=sj;have ss:=w4 L L.length;refine gv (lK (q:=1) rfl rfl) rfl (zR (zH ?_));refine cnd (fun du=>?_) fun du=>?_
 ·
  refine zM (zE (lX (xV (ρ:=(rpP (tLs 1) (rpP rpV (rpS (rpP rpI (rpP rpI (rpQ 1))))))) (wD (ps':=[]) underlying50 tO rfl rfl (bF underlying50) trivial rfl (yL qJ (yL cI qJ)) zY)) fun zo si=>?_));replace bf:=bf.mono (dr.trans ed);refine zS (A:=[]) (uB sizeOf50 pH bf si) fun yq nk=>(asg (v:=vI (33)) rfl rfl (zR (zH (bQ (aJ ?_)))));obtain⟨e1,e2,e3⟩:=yA2 (lo:=lo) (hi:=hi) gb du;rw[e1,e2,e3];refine cY 83 14 ?_;have ni:=RL.nil (ρ:=rpP (tPl (1000*k+1000*l1+1000*l2+2000) (1000*k+1000*l1+1000*l2+2000)) (rpP tII fD)) (h:=h2);refine wM (kA (t:=6) kF mh1 rfl nk) ?_;intro um ij js;refine gX (.cons_cons _ (List.nil_sublist _)) (fun E S=>vV rfl ij (jQ rfl) E S) ?_;exact⟨_,_,_,rfl,(Rp.Is.le js (Le.p (Le.s (Le.t (Le.q (l:=k+l1+l2+20) oM))) (Le.p (Le.refl _) (Le.s (Le.p (Le.refl _) (Le.p (Le.refl _) (Le.q (l:=5) dC))))))),rfl,rfl,ni⟩
 refine uK (zH (zM (zM (zE ?_))));replace cz:=cz.mono (dr.trans ed);refine lX (xB yB pH cz) fun zn sf=>?_;replace cy:=cy.mono (dr.trans ed);refine lX (xB yB pH cy) fun zm se=>(cL (ev2 rfl rfl) call18 (fun w hs=>kB hs sf se oM) fun rj h3 dq sd=>?_);obtain rfl:rj=vI (wH lo hi):=sd;have tj:=jC lo hi;refine gv (bJ (q:=0) rfl rfl) rfl (zR (zH ?_));refine cnd (fun ey=>?_) fun ey=>?_
 ·
  refine zGT (e':=[(6,_)]) ⟨rfl,trivial⟩ (zM (zE (lX (xV (ρ:=(rpP (tLs 1) (rpP rpV (rpS (rpP rpI (rpP rpI (rpQ 1))))))) (wD (ps':=[]) underlying50 tO rfl rfl (bF underlying50) trivial rfl (yL qJ (yL cI qJ)) zY)) fun zl sc=>?_)));replace bf:=bf.mono ((dr.trans ed).trans dq);refine zS (A:=[]) (uB sizeOf50 pH bf sc) fun tv lb=>(asg (v:=vI (9)) rfl rfl (zR (zH (bQ (aJ ?_)))));obtain⟨e1,e2,e3⟩:=pr_9 gb (Classical.not_not.1 du) ey;rw[e1,e2,e3];refine cY 83 14 ?_;have kd:=RL.nil (ρ:=rpP (tPl (1000*k+1000*l1+1000*l2+2000) (1000*k+1000*l1+1000*l2+2000)) (rpP tII fD)) (h:=h3);refine wM (kA (t:=6) kF mh1 rfl lb) ?_;intro ul ii jr;refine gX (.cons_cons _ (List.nil_sublist _)) (fun E S=>vV rfl ii (jQ rfl) E S) ?_;exact⟨_,_,_,rfl,(Rp.Is.le jr (Le.p (Le.s (Le.t (Le.q (l:=k+l1+l2+20) oM))) (Le.p (Le.refl _) (Le.s (Le.p (Le.refl _) (Le.p (Le.refl _) (Le.q (l:=5) dC))))))),rfl,rfl,kd⟩
 refine uK (zH (zM (zE (nA (ρ:=(rpP rpV (rpP rpV (rpS (rpP rpI (rpP rpI (rpQ 1))))))) (X:=((Value.slice none 0 0),((Value.slice none 0 0),[]))) tO (yL cI (yL cI qJ)) fun T dy ns=>(zR (zH (zM (zE (asg rfl rfl (zR (zH (zM (zE ?_)))))))))))));refine asg rfl rfl (zR (zH (zM (zE (asg rfl rfl (zR (zH (zM (zM (zE (asg (v:=vI (0)) rfl rfl (zR (zH ?_)))))))))))));refine wV (xR 116 2 ?_);have kc:=RL.nil (ρ:=rpA 2 rpI) (h:=h3);refine xR 53 9 ?_;have kb:=RL.nil (ρ:=rpT (rpQ (k+1))) (h:=h3);refine xR 32 1 ?_;have ka:=RL.nil (ρ:=rpS rpI) (h:=h3);refine gcL (ι:=Nat×List (List Int)×List Tq×List (List Int)×Value×List Value×Value×List Value×Value×List Value×Mem) (fun(i,ED,H,U,aa,ap,C,az,u,ar,ma)=>(MLe h3 ma∧(RL (rpA 2 rpI) ma ap ED∧RL (tPt (k+1)) ma az H∧RL (rpS rpI) ma ar U∧i≤L.length∧ED.length=k8 L i∧H=ptB L i∧U=ptN L i),[(0,vL),(4,vP b4 0),(5,vP b5 0),(6,vP b6 0),(10,vP T 0),(11,aa),(12,C),(13,u),(14,vI ↑i)],[.gs 32 1 u U.length ar,.gs 53 9 C H.length az,.gs 116 2 aa ED.length ap,.var T 50 dy,.var b6 50 dv,.var b5 26 dw,.var b4 26 dx],ma,L.length-i)) (0,[],[],[],(.slice none 0 0),[],(.slice none 0 0),[],(.slice none 0 0),[],h3) ?_ ?_
 · exact⟨mle,kc,kb,ka,by omega,rfl,rfl,rfl⟩
 rintro⟨i,ED,H,U,aa,ap,C,az,u,ar,ma⟩ ⟨cc,jz,ae,Z,tg,qz,bg,ce⟩
 refine yU ?_;have tk:=zMA L i;have qt:=lk i tg;have hIl:U.length=i:=by rw[ce];exact wK _ _
 rw[←bg] at tk;refine zM (zM (zE (mv rfl rfl (mv rfl rfl ?_))));replace rL:=rL.mono ((ed.trans dq).trans cc);refine gv (uW underlying115 rfl rL) rfl (gv (yN rfl rfl) rfl (zR (zH ?_)));refine cnd (fun qy=>?_) fun qy=>?_
 ·
  refine uK (zH (zM (wV (zM (zE (asg rfl rfl (zR (zH (zM (zM (zE (asg (v:=vI (0)) rfl rfl (zR ?_)))))))))))));refine zH (wV (xR 3 1 ?_));have jy:=RL.nil (ρ:=rpI) (h:=ma);refine gcL (ι:=Nat×List Tq×List Int×Value×List Value×Value×List Value×Mem) (fun(q,B2,LN,I,bh,ba,dh,mb)=>(MLe ma mb∧(RL (tPt (k+1)) mb bh B2∧RL rpI mb dh LN∧q≤(L.getD i []).length∧B2=plB (ptB L i) (L.getD i []) q∧LN=plN (ptB L i) (L.getD i []) q),[(0,vL),(4,vP b4 0),(5,vP b5 0),(6,vP b6 0),(10,vP T 0),(11,aa),(12,I),(13,u),(14,vI ↑i),(15,ba),(16,vI ↑q)],[.gs 3 1 ba LN.length dh,.gs 32 1 u U.length ar,.gs 53 9 I B2.length bh,.gs 116 2 aa ED.length ap,.var T 50 dy,.var b6 50 dv,.var b5 26 dw,.var b4 26 dx],mb,(L.getD i []).length-q)) (0,H,[],C,az,(.slice none 0 0),[],ma) ?_ ?_
  · exact⟨mle,ae,jy,by omega,by rw[bg];rfl,rfl⟩
  rintro⟨q,B2,LN,I,bh,ba,dh,mb⟩ ⟨ja,ad,bd,zy,fb,ip⟩
  refine yU ?_;have tl:=zF1 (ptB L i) (L.getD i []) q;rw[←fb,←bg] at tl;have tm:LN.length=q:=by rw[ip];exact wK _ _
  have ig:=dp.2 i oM;refine zM (zM (zE (mv rfl rfl (mv rfl rfl (mv rfl rfl ?_)))));replace rL:=rL.mono ja;refine lX (xI [] i underlying115 uR rL) fun zk sb=>(lX (xA uR sb) fun zj sa=>(gv (uW underlying46 rfl sa) rfl (gv (yN rfl rfl) rfl (zR (zH ?_)))));refine cnd (fun qx=>?_) fun qx=>?_
  ·
   refine uK (zH (zM (wV (zM (zE (asg (v:=vI (-1)) rfl rfl (zR (zH (zM (zM (zE (asg (v:=vI (0)) rfl rfl (zR ?_)))))))))))));refine zH (wV ?_);refine gcL (ι:=Nat×Mem) (fun(j,mj)=>(MLe mb mj∧(j≤B2.length),[(0,vL),(4,vP b4 0),(5,vP b5 0),(6,vP b6 0),(10,vP T 0),(11,aa),(12,I),(13,u),(14,vI ↑i),(15,ba),(16,vI ↑q),(17,vI (j6 B2 ((L.getD i []).getD q zT) j)),(18,vI ↑j)],[.gs 3 1 ba LN.length dh,.gs 32 1 u U.length ar,.gs 53 9 I B2.length bh,.gs 116 2 aa ED.length ap,.var T 50 dy,.var b6 50 dv,.var b5 26 dw,.var b4 26 dx],mj,B2.length-j)) (0,mb) ?_ ?_
   · exact⟨mle,oM⟩
   rintro⟨j,mj⟩ ⟨cm,qs⟩
   refine yU ?_;have zz:=qs;have hfr:=zDJ B2 ((L.getD i []).getD q zT) j;refine zM (zM (zE (mv rfl rfl (mv rfl rfl (gv (gA mh2 underlying46 rfl) rfl (gv (yN rfl rfl) rfl (zR (zH ?_))))))));refine cnd (fun qw=>?_) fun qw=>?_
   ·
    refine uK (zH (zM (wV (zM ?_))));refine zK 30 _ [] [(0,.q),(1,.q),(2,.q),(3,.q),(4,.q),(5,.q),(6,.q),(7,.q),(8,.q),(9,.q),(10,.q),(11,.q),(12,.q),(13,.c),(14,.q),(15,.q),(16,.q),(17,.q),(18,.q),(19,.q),(20,.q),(21,.q),(22,.q),(23,.q),(24,.q),(25,.q),(26,.q),(27,.q),(28,.c),(29,.q)] yC nX (vJ (by kernel_rfl)) nX (fun r hr=>hr) (uY rfl rfl rfl (uY rfl rfl rfl (w_q rfl (fun h' L' hh hR=>(yZ j (hR _ mh2) underlying46 sizeOf53 rfl rfl rfl bO nP).cv (show _=zL 1 I ((j*9+0)) from congrArg (zL 1 I) (by rfl))) rfl ?_)));replace ad:=ad.mono cm;refine w_q rfl (fun h' L' hh hR=>(tG (sz:=3) (q:=0) 0 (Pc.arr (Pc.here _) zT j bO) rfl nP (ad.mono hh) (hR _ mh2) underlying53 sizeOf26 rfl rfl rfl dC).cv (show _=zL 1 I ((j*9+0)) from congrArg (zL 1 I) (by show(j*9+0)+0*3=(j*9+0);omega))) rfl (mX (F:=fun v_=>(rpQ (k+1)).Is mj v_ ((B2.getD j zT).x)) rfl (wW yB (Pc.arr (Pc.tx (Pc.here _)) zT j bO) rfl nP rfl ad rfl) (tT mh2) rfl ?_);intro zi ry;refine uY rfl rfl rfl (uY rfl rfl rfl ?_);replace rL:=rL.mono cm;refine wX rfl (xI [] i underlying115 uR rL) fun zh rx=>(wX rfl (xA uR rx) fun zg rv=>(uY rfl rfl rfl (wX rfl (xI zT q underlying46 zU rv) fun zf ru=>(mX (F:=fun v_=>AtP (rpQ k) mj v_ (((L.getD i []).getD q zT).x)) rfl (zES (q:=0) 0 underlying53 sizeOf26 (Pc.tx (Pc.here _)) rfl rfl rfl ru rfl dC rfl) zBI rfl ?_))));intro ze rt;refine wX rfl (xA yB rt) fun zd rs=>?_;refine w_c rfl (sC (ev2 rfl rfl) call15 (fun w hs=>vO hs ry rs oM) fun ri h4 an rr=>?_);obtain rfl:ri=vB (((B2.getD j zT).x)=(((L.getD i []).getD q zT).x)):=rr;refine uY rfl rfl rfl ?_;refine gR (((B2.getD j zT).x)=(((L.getD i []).getD q zT).x)) (fun ee=>?_) (fun ee=>?_)
    ·
     rw[xM ee];refine yO rfl rfl rfl (fun h' L' hh hR=>yX rfl) rfl (yO rfl rfl rfl (fun h' L' hh hR=>yX rfl) rfl (yO rfl rfl rfl (fun h' L' hh hR=>(yZ j (hR _ mh2) underlying46 sizeOf53 rfl rfl rfl bO nP).cv (show _=zL 1 I ((j*9+0)) from congrArg (zL 1 I) (by rfl))) rfl ?_));replace ad:=ad.mono an;refine yO rfl rfl rfl (fun h' L' hh hR=>(tG (sz:=3) (q:=1) 1 (Pc.arr (Pc.here _) zT j bO) rfl nP (ad.mono hh) (hR _ mh2) underlying53 sizeOf26 rfl rfl rfl dC).cv (show _=zL 1 I ((j*9+3)) from congrArg (zL 1 I) (by show(j*9+0)+1*3=(j*9+3);omega))) rfl (aB (F:=fun v_=>(rpQ (k+1)).Is h4 v_ ((B2.getD j zT).y)) rfl rfl rfl (wW yB (Pc.arr (Pc.ty (Pc.here _)) zT j bO) rfl nP rfl ad rfl) (tT mh2) rfl ?_);intro zc rq;refine yO rfl rfl rfl (fun h' L' hh hR=>yX rfl) rfl (yO rfl rfl rfl (fun h' L' hh hR=>yX rfl) rfl ?_);replace rL:=rL.mono an;refine oX rfl (xI [] i underlying115 uR rL) fun za rp=>(oX rfl (xA uR rp) fun yz ro=>(yO rfl rfl rfl (fun h' L' hh hR=>yX rfl) rfl (oX rfl (xI zT q underlying46 zU ro) fun yy rn=>(aB (F:=fun v_=>AtP (rpQ k) h4 v_ (((L.getD i []).getD q zT).y)) rfl rfl rfl (zES (q:=1) 1 underlying53 sizeOf26 (Pc.ty (Pc.here _)) rfl rfl rfl rn rfl dC rfl) zBI rfl ?_))));intro yx rm;refine oX rfl (xA yB rm) fun xw qk=>?_;refine w_c rfl (rK rfl rfl (sC (ev2 rfl rfl) call15 (fun w hs=>vO hs rq qk oM) fun ng h5 cj qj=>?_));obtain rfl:ng=vB (((B2.getD j zT).y)=(((L.getD i []).getD q zT).y)):=qj;refine xK rfl (fun _ _=>rT rfl rfl) rfl (rM (wU (e':=[(0,_),(4,_),(5,_),(6,_),(10,_),(11,_),(12,_),(13,_),(14,_),(15,_),(16,_),(17,_),(18,_),(102,_)]) ⟨rfl,rfl,rfl,rfl,rfl,rfl,rfl,rfl,rfl,rfl,rfl,rfl,rfl,rfl,trivial⟩ (zH ?_)));refine cnd (fun el=>?_) fun el=>?_
     ·
      refine zE (mv rfl rfl (asg rfl rfl (zR (tU (zH (zE (mv rfl rfl (gv (yA (q:=1) rfl rfl oM oM) rfl (asg rfl rfl (zR ?_))))))))));refine gqL ((j+1),h5) ?_ ?_ (he:=⟨rfl,rfl,rfl,rfl,rfl,rfl,rfl,rfl,rfl,rfl,rfl,congrArg (fun z=>some (vI z)) (fd_t ⟨by assumption,el⟩),rfl,trivial⟩)
      · exact⟨mle,oM⟩
      omega
     refine uK (tU (zH (zE (mv rfl rfl (gv (yA (q:=1) rfl rfl oM oM) rfl (asg rfl rfl (zR ?_)))))));refine gqL ((j+1),h5) ?_ ?_ (he:=⟨rfl,rfl,rfl,rfl,rfl,rfl,rfl,rfl,rfl,rfl,rfl,congrArg (fun z=>some (vI z)) (zZM (fun e=>el e.2)),rfl,trivial⟩)
     · exact⟨mle,oM⟩
     omega
    rw[yV ee];refine vC rfl rfl rfl rfl rfl (vC rfl rfl rfl rfl rfl (vC rfl rfl rfl rfl rfl (vC rfl rfl rfl rfl rfl (vC rfl rfl rfl rfl rfl (vC rfl rfl rfl rfl rfl (vC rfl rfl rfl rfl rfl (vC rfl rfl rfl rfl rfl (vC rfl rfl rfl rfl rfl (vC rfl rfl rfl rfl rfl (vC rfl rfl rfl rfl rfl (vC rfl rfl rfl rfl rfl (vC rfl rfl rfl rfl rfl ?_))))))))))));refine w_c rfl (y7 rfl rfl rfl rfl (xK rfl (fun _ _=>rU rfl rfl) rfl (rM (wU (e':=[(0,_),(4,_),(5,_),(6,_),(10,_),(11,_),(12,_),(13,_),(14,_),(15,_),(16,_),(17,_),(18,_),(102,_)]) ⟨rfl,rfl,rfl,rfl,rfl,rfl,rfl,rfl,rfl,rfl,rfl,rfl,rfl,rfl,trivial⟩ (zH (zFE rfl (uK (tU (zH (zE (mv rfl rfl (gv (yA (q:=1) rfl rfl oM oM) rfl (asg rfl rfl ?_)))))))))))));refine zR ?_;refine gqL ((j+1),h4) ?_ ?_ (he:=⟨rfl,rfl,rfl,rfl,rfl,rfl,rfl,rfl,rfl,rfl,rfl,congrArg (fun z=>some (vI z)) (zZM (fun e=>absurd e.1 (by assumption))),rfl,trivial⟩)
    · exact⟨mle,oM⟩
    omega
   refine kX (uH (uH (kW (zH (zM (zM (zE (mv rfl rfl (gv (yN (q:=0) rfl rfl) rfl (zR (zH ?_)))))))))));refine cnd (fun eh=>?_) fun eh=>?_
   ·
    have ej:j=B2.length:=by omega
    have dt:fdZ B2 ((L.getD i []).getD q zT)<0:=by unfold fdZ;rw[←ej];exact eh
    refine zM (zE (mv rfl rfl (gv (gA mh2 underlying46 rfl) rfl (asg rfl rfl (zR (zH (zE (mv rfl rfl (mv rfl rfl (mv rfl rfl ?_))))))))));replace rL:=rL.mono cm;refine lX (xI [] i underlying115 uR rL) fun xv qi=>(lX (xA uR qi) fun xu qh=>(mv rfl rfl (lX (xI zT q underlying46 zU qh) fun xt qg=>(lX (xA zU qg) fun xr qf=>(zF (zW (ρ:=(tPt (k+1))) (m:=1) (xs:=[((L.getD i []).getD q zT)]) (ps':=[(0,_)]) underlying46 yW rfl rfl rfl (xY (yH oM)) e2z (zI rfl (Pc.arr (Pc.here _) zT 0 dC) (qf.le (Le.t (Le.q (l:=k+1) oM))) zY) (show 1*9≤16777216 from by decide) nP) rfl rfl rfl ?_)))))
    rintro xq ym ⟨uj,rfl,kt⟩
    refine yJ (A:=[]) (ρ:=(tPt (k+1))) kt ?_;intro h4 an jp;replace ad:=ad.mono (cm.trans an);refine xT (A:=[_,_]) (jN (yF (ρ:=(tPt (k+1))) (bytes:=168) underlying46 yW rfl rfl rfl rfl nP rfl rfl ad jp bO bO)) rfl rfl rfl ?_
    rintro nf yl ⟨ta,ms,rfl,ks⟩
    refine asg rfl rfl (zR (wU (e':=[(0,_),(4,_),(5,_),(6,_),(10,_),(11,_),(13,_),(14,_),(15,_),(16,_),(17,_),(12,_)]) e12 (zH (zE (mv rfl rfl (mv rfl rfl (zF (zW (ρ:=rpI) (m:=1) (xs:=[(↑B2.length:Int)]) (ps':=[(0,_)]) underlying32 gJ rfl rfl rfl wG e2z (zI rfl (Pc.arr (Pc.here _) (0:Int) 0 dC) (qD oM oM) zY) (show 1*1≤16777216 from by decide) nP) rfl rfl rfl ?_)))))))
    rintro ne qo ⟨mo,rfl,ec⟩
    refine yJ (A:=[]) (ρ:=rpI) ec ?_;intro h5 cj jo;replace bd:=bd.mono ((cm.trans an).trans cj);refine xT (A:=[]) (jN (yF (ρ:=rpI) (bytes:=8) underlying32 gJ rfl rfl rfl rfl nP rfl rfl bd jo bO bO)) rfl rfl rfl ?_
    rintro fg qn ⟨lj,es,rfl,eb⟩
    refine asg rfl rfl (zR (tU (zH (zE (mv rfl rfl (gv (yA (q:=1) rfl rfl oM oM) rfl (asg rfl rfl (zR ?_))))))));refine gqL ((q+1),(B2++[((L.getD i []).getD q zT)]),(LN++[(↑B2.length:Int)]),nf,ms,fg,es,h5) ?_ ?_
    · exact⟨mle,ks.up,eb,by omega,by rw[fb] at dt ⊢;exact(if_pos dt).symm,by rw[ip,show(↑B2.length:Int)=adN (plB (ptB L i) (L.getD i []) q) ((L.getD i []).getD q zT) from by rw[fb] at dt ⊢;exact(if_pos dt).symm];rfl⟩
    omega
   have ej:j=B2.length:=by omega
   have dt:¬fdZ B2 ((L.getD i []).getD q zT)<0:=by unfold fdZ;rw[←ej];exact eh
   refine uK (zH (zE (mv rfl rfl (mv rfl rfl (zF (zW (ρ:=rpI) (m:=1) (xs:=[(j6 B2 ((L.getD i []).getD q zT) j)]) (ps':=[(0,_)]) underlying32 gJ rfl rfl rfl wG e2z (zI rfl (Pc.arr (Pc.here _) (0:Int) 0 dC) (qD oM oM) zY) (show 1*1≤16777216 from by decide) nP) rfl rfl rfl ?_)))))
   rintro ne qo ⟨mo,rfl,ec⟩
   refine yJ (A:=[]) (ρ:=rpI) ec ?_;intro h4 an jn;replace bd:=bd.mono (cm.trans an);refine xT (A:=[]) (jN (yF (ρ:=rpI) (bytes:=8) underlying32 gJ rfl rfl rfl rfl nP rfl rfl bd jn bO bO)) rfl rfl rfl ?_
   rintro fg qn ⟨lj,es,rfl,eb⟩
   refine asg rfl rfl (zR (tU (wU (e':=[(0,_),(4,_),(5,_),(6,_),(10,_),(11,_),(12,_),(13,_),(14,_),(16,_),(15,_)]) ⟨rfl,rfl,rfl,rfl,rfl,rfl,rfl,rfl,rfl,rfl,rfl,trivial⟩ (zH (zE (mv rfl rfl (gv (yA (q:=1) rfl rfl oM oM) rfl (asg rfl rfl (zR ?_)))))))));refine gqL ((q+1),B2,(LN++[(j6 B2 ((L.getD i []).getD q zT) j)]),I,bh,fg,es,h4) ?_ ?_
   · exact⟨mle,ad.up,eb,by omega,by rw[fb] at dt ⊢;exact(if_neg dt).symm,by rw[ip,show j6 B2 ((L.getD i []).getD q zT) j=adN (plB (ptB L i) (L.getD i []) q) ((L.getD i []).getD q zT) from by rw[ej,fb] at *;exact(if_neg dt).symm];rfl⟩
   omega
  have ek:q=(L.getD i []).length:=by omega
  refine kX (uH (uH (kW (zH (zM (zE (mv rfl rfl (mv rfl rfl (yJ (A:=[]) (ρ:=rpI) bd ?_)))))))));intro h4 an bb;refine zF (zW (ρ:=(rpS rpI)) (m:=1) (xs:=[LN]) (ps':=[(0,_)]) underlying81 jU rfl rfl rfl qJ e2z (zI rfl (Pc.arr (Pc.here _) [] 0 dC) bb zY) (show 1*1≤16777216 from by decide) nP) rfl rfl rfl ?_
  rintro xp yk ⟨ui,rfl,kr⟩
  refine yJ (A:=[]) (ρ:=(rpS rpI)) kr ?_;intro h5 cj jm;replace Z:=Z.mono ((ja.trans an).trans cj);refine xT (A:=[]) (jN (yF (ρ:=(rpS rpI)) (bytes:=24) underlying81 jU rfl rfl rfl rfl nP rfl rfl Z jm bO bO)) rfl rfl rfl ?_
  rintro ff yj ⟨sy,gn,rfl,kq⟩
  refine asg rfl rfl (zR (wU (e':=[(0,_),(4,_),(5,_),(6,_),(10,_),(11,_),(12,_),(14,_),(15,_),(13,_)]) e10 (zH (zM (zE (asg (v:=vI (0)) rfl rfl (zR (zH (wV ?_)))))))));refine gcL (ι:=Nat×List (List Int)×Value×List Value×Mem) (fun(e,E2,br,df,me)=>(MLe h5 me∧(RL (rpA 2 rpI) me df E2∧e≤LN.length∧E2.length=k8 L i+e),[(0,vL),(4,vP b4 0),(5,vP b5 0),(6,vP b6 0),(10,vP T 0),(11,br),(12,I),(13,ff),(14,vI ↑i),(15,ba),(19,vI ↑e)],[.gs 32 1 ff (U++[LN]).length gn,.gs 53 9 I B2.length bh,.gs 116 2 br E2.length df,.var T 50 dy,.var b6 50 dv,.var b5 26 dw,.var b4 26 dx],me,LN.length-e)) (0,ED,aa,ap,h5) ?_ ?_
  · exact⟨mle,jz.up,by omega,qz⟩
  rintro⟨e,E2,br,df,me⟩ ⟨qr,cq,qu,to⟩
  refine yU ?_;have ig:=dp.2 i oM;refine zM (zM (zE (mv rfl rfl (mv rfl rfl ?_))));replace bb:=bb.mono (cj.trans qr);refine gv (uW underlying32 rfl bb) rfl (gv (yN rfl rfl) rfl (zR (zH ?_)));refine cnd (fun lt=>?_) fun lt=>?_
  ·
   refine uK (zH (zM (wV ?_)));refine jJ (A:=[_,_]) 17 [] [(0,.q),(1,.q),(2,.q),(3,.q),(4,.q),(5,.q),(6,.q),(7,.q),(8,.q),(9,.q),(10,.q),(11,.q),(12,.q),(13,.q),(14,.c),(15,.c),(16,.q)] yC nX (vJ (by kernel_rfl)) nX (uY rfl rfl rfl (uY rfl rfl rfl (uY rfl rfl rfl (wX rfl (xI (0:Int) e underlying32 ty3 bb) fun xo qe=>(wX rfl (xA ty3 qe) fun xn qd=>?_)))));obtain⟨rfl,tf,sq⟩:=jX qd;refine uY rfl rfl rfl (uY rfl rfl rfl (xK rfl (fun _ _=>yA (q:=1) rfl rfl oM oM) rfl (uY rfl rfl rfl (w_q rfl (fun h' L' hh hR=>uW underlying32 rfl (bb.mono hh)) rfl (xK rfl (fun _ _=>vW rfl rfl oM oM) rfl (wX rfl (xI (0:Int) ((e+1)%LN.length) underlying32 ty3 bb (hi:=by exact Nat.mod_lt _ oM)) fun xm qc=>(wX rfl (xA ty3 qc) fun xl qb=>?_)))))));obtain⟨rfl,te,sp⟩:=jX qb;refine wX rfl (xV (ρ:=(rpA 2 rpI)) (xD (ps':=[(0,_),(1,_)]) underlying116 rD rfl rfl sizeOf3 e4z rfl (mW 2 wG) (zI rfl (Pc.arr (Pc.here _) (0:Int) 0 dC) (qD oM oM) (zI rfl (Pc.arr (Pc.here _) (0:Int) 1 dC) (qD oM oM) zY)))) fun xk qa=>?_;refine w_c rfl (kU (fun X=>zW (ρ:=(rpA 2 rpI)) (m:=1) (xs:=[[(LN.getD e (0:Int)),(LN.getD ((e+1)%LN.length) (0:Int))]]) (ps':=[(0,_)]) underlying153 rD rfl rfl rfl (mW 2 wG) e2z (zI rfl (Pc.arr (Pc.here _) (List.replicate 2 (0:Int)) 0 dC) qa zY) (show 1*2≤16777216 from by decide) nP) rfl ?_)
   rintro xj yi ⟨uh,rfl,kp⟩
   refine w_c rfl (vG (A:=[]) (ρ:=(rpA 2 rpI)) kp dK ?_);intro h6 da jl;replace cq:=cq.mono da;refine sR (A:=[_,_]) (fun X=>jN (yF (ρ:=(rpA 2 rpI)) (bytes:=16) underlying153 rD rfl rfl rfl rfl nP rfl rfl cq jl bO bO)) rfl (wN (by first|(simp;done)|grind)) ?_
   rintro nd yh ⟨sx,mn,rfl,ko⟩
   refine zD0 rfl rfl rfl (rM (tU (wU (e':=[(0,_),(4,_),(5,_),(6,_),(10,_),(12,_),(13,_),(14,_),(15,_),(19,_),(11,_)]) ⟨rfl,rfl,rfl,rfl,rfl,rfl,rfl,rfl,rfl,rfl,rfl,trivial⟩ (zH (zE (mv rfl rfl (gv (yA (q:=1) rfl rfl oM oM) rfl (asg rfl rfl (zR ?_)))))))));refine gqL ((e+1),(E2++[[(LN.getD e (0:Int)),(LN.getD ((e+1)%LN.length) (0:Int))]]),nd,mn,h6) ?_ ?_
   · exact⟨mle,ko,by omega,by rw[lAz,to];rfl⟩
   omega
  have tn:E2.length=k8 L i+LN.length:=by omega
  refine kX (uH (uH (kW (tU (zH (zE (mv rfl rfl (gv (yA (q:=1) rfl rfl oM oM) rfl (asg rfl rfl (zR ?_))))))))));refine gqL ((i+1),E2,B2,(U++[LN]),br,df,I,bh,ff,gn,me) ?_ ?_
  · exact⟨mle,cq,ad.up,kq.up,by omega,by rw[tn,tm,ek];rfl,by rw[fb,ek];rfl,by rw[ce,ip,ek];rfl⟩
  omega
 have ei:i=L.length:=by omega
 have th:=lk L.length oM;rw[ei] at qz bg ce;have hI1:U.length=L.length:=by rw[ce];exact wK _ _
 have lv:∀i,i<L.length→(U.getD i []).length=(L.getD i []).length:=fun i hi=>by rw[ce];exact zG0 hi
 have fx:∀i q,i<L.length→q<(U.getD i []).length→0≤(U.getD i []).getD q 0∧(U.getD i []).getD q 0<↑H.length:=fun i q hi hq=>by rw[ce] at hq ⊢;rw[bg];exact zSX hi hq
 refine kX (uH (uH (kW (zH (zM (zE (mv rfl rfl (gv (gA mh1 underlying46 rfl) rfl (asg rfl rfl (zR (zH (zM (zM ?_)))))))))))));refine zE (mv rfl rfl (gv (bH (p:=2) rfl rfl oM oM) rfl (gv (lP (q:=512) rfl rfl) rfl ?_)));refine gU 6 158 (vB (((512:Int)<((2:Int)*(↑H.length:Int)))∨((256:Int)<((↑ED.length:Int)+(2:Int))))) ?_ ?_
 ·
  refine yD ((512:Int)<((2:Int)*(↑H.length:Int))) (fun hg=>?_) (fun hg=>?_)
  ·
   refine gT hg rfl (aU rfl rfl rfl rfl rfl rfl (aU rfl rfl rfl rfl rfl rfl (aU rfl rfl rfl rfl rfl rfl (aU rfl rfl rfl rfl rfl rfl (gv (rT rfl rfl) rfl (zR (gqU ?_)))))));exact congrArg some (vZ hg)
  refine gF hg rfl (iH rfl rfl rfl (mv rfl rfl (iH rfl rfl rfl (gv (gA mh2 underlying153 rfl) rfl (iH rfl rfl rfl (gv (yA (q:=2) rfl rfl oM oM) rfl (iH rfl rfl rfl (gv (lP (q:=256) rfl rfl) rfl (gv (rU rfl rfl) rfl (zR (gqU ?_)))))))))));exact congrArg some (uA hg)
 refine zR (zH ?_);refine cnd (fun ls=>?_) fun ls=>?_
 ·
  have lg:prB L:=by unfold prB;show 512<2*(ptB L L.length).length∨_;rw[←bg];omega
  refine zM (zE (lX (xV (ρ:=(rpP (tLs 1) (rpP rpV (rpS (rpP rpI (rpP rpI (rpQ 1))))))) (wD (ps':=[]) underlying50 tO rfl rfl (bF underlying50) trivial rfl (yL qJ (yL cI qJ)) zY)) fun xi pz=>?_));replace bf:=bf.mono (((dr.trans ed).trans dq).trans cc);refine zS (A:=[_,_,_,_]) (uB sizeOf50 pH bf pz) fun tu la=>(asg (v:=vI (2)) rfl rfl (zR (zH (bQ (aJ ?_)))));obtain⟨e1,e2,e3⟩:=pr_2 gb (Classical.not_not.1 du) ey lg;rw[e1,e2,e3];refine cY 83 14 ?_;have jx:=RL.nil (ρ:=rpP (tPl (1000*k+1000*l1+1000*l2+2000) (1000*k+1000*l1+1000*l2+2000)) (rpP tII fD)) (h:=ma);refine wM (kA (t:=6) kF mh5 rfl la) ?_;intro uk ih jq;refine gX (.cons_cons _ (List.nil_sublist _)) (fun E S=>vV rfl ih (jQ rfl) E S) ?_;exact⟨_,_,_,rfl,(Rp.Is.le jq (Le.p (Le.s (Le.t (Le.q (l:=k+l1+l2+20) oM))) (Le.p (Le.refl _) (Le.s (Le.p (Le.refl _) (Le.p (Le.refl _) (Le.q (l:=5) dC))))))),rfl,rfl,jx⟩
 have lg:¬prB L:=by unfold prB;show ¬(512<2*(ptB L L.length).length∨_);rw[←bg];omega
 obtain⟨qv,qu,ti⟩:=pr_0 gb (Classical.not_not.1 du) ey lg;refine uK (zH (zM (zM (zE (asg (v:=vI (0)) rfl rfl (zR (zH (wV (xR 53 9 ?_)))))))));have jw:=RL.nil (ρ:=rpT (rpQ (k+l1+l2+5))) (h:=ma);refine gcL (ι:=Nat×List Tq×List Value×Value×List Value×Mem) (fun(i,PP,ci,bx,eo,mp)=>(MLe ma mp∧((rpP rpV (rpP rpV (rpS (rpP rpI (rpP rpI (rpQ 1)))))).R mp ci (bx,(Value.slice none 0 0,[]))∧RL (tPt (k+l1+l2+5)) mp eo PP∧bx.oneCell'=true∧i≤2*H.length∧PP=zQS L lo hi i),[(4,vP b4 0),(5,vP b5 0),(6,vP b6 0),(10,vP T 0),(12,C),(13,u),(20,vI (↑H.length:Int)),(21,vI ↑i)],[.gs 53 9 bx PP.length eo,.gs 32 1 u U.length ar,.gs 53 9 C H.length az,.gs 116 2 aa ED.length ap,.var T 50 ci,.var b6 50 dv,.var b5 26 dw,.var b4 26 dx],mp,2*H.length-i)) (0,[],dy,(.slice none 0 0),[],ma) ?_ ?_
 · exact⟨mle,ns.up,jw,rfl,by omega,rfl⟩
 rintro⟨i,PP,ci,bx,eo,mp⟩ ⟨bp,ak,bc,sv,hi2,io⟩
 refine yU ?_;have hPl:PP.length=i:=by rw[io];exact wK _ _
 refine zM (zM (zE (mv rfl rfl (mv rfl rfl (gv (bH (p:=2) rfl rfl oM oM) rfl (gv (yN rfl rfl) rfl (zR (zH ?_))))))));refine cnd (fun lr=>?_) fun lr=>?_
 ·
  refine uK (zH (zM (wV (zM (zE ?_)))));replace cz:=cz.mono ((dq.trans cc).trans bp);refine lX (xB yB pH cz) fun xh py=>(nA (ρ:=(rpQ 1)) (X:=(0:Rat)) yP (yH dC) fun b22 yu nr=>?_);have jh:=(Le.q (l:=l1+1) oM).R nr;refine zS (A:=[]) (uB sizeOf26 pH jh (py.le (Le.q (l:=l1+1) oM))) fun tt fh=>(zR (zH (zM (zM (zE (mv rfl rfl (mv rfl rfl (gv (bJ rfl rfl) rfl (zR (zH ?_))))))))));refine cnd (fun eg=>?_) fun eg=>?_
  ·
   refine zE ?_;replace cy:=cy.mono ((dq.trans cc).trans bp);refine lX (xB yB pH cy) fun xg px=>?_;have jg:=(Le.q (l:=l1+l2+1) oM).R fh;refine zS (A:=[]) (uB sizeOf26 pH jg (px.le (Le.q (l:=l1+l2+1) oM))) fun ts kz=>(zR (zH ?_));refine jJ (A:=[_]) 21 [] [(0,.q),(1,.q),(2,.q),(3,.q),(4,.q),(5,.q),(6,.q),(7,.q),(8,.q),(9,.q),(10,.q),(11,.q),(12,.q),(13,.q),(14,.q),(15,.q),(16,.q),(17,.q),(18,.c),(19,.c),(20,.q),(21,.t)] yC nX (vJ (by kernel_rfl)) nX (xK rfl (fun _ _=>(xW underlying50 rfl sizeOf46 rfl).cv (show _=vP T 0 from congrArg (vP T) (by rfl))) rfl (wX rfl (aQ (xB uR (Pc.fst pH) ak)) fun nc fu=>?_));subst fu;refine uY rfl rfl rfl (uY rfl rfl rfl (uY rfl rfl rfl (xK rfl (fun _ _=>vW rfl rfl oM oM) rfl (w_q rfl (fun h' L' hh hR=>(yZ (i%H.length) (hR _ mh2) underlying46 sizeOf53 rfl rfl rP (by exact Nat.mod_lt _ oM) nP).cv (show _=zL 1 C (((i%H.length)*9+0)) from congrArg (zL 1 C) (by rfl))) rfl ?_))));replace ae:=ae.mono bp;refine w_q rfl (fun h' L' hh hR=>(tG (sz:=3) (q:=0) 0 (Pc.arr (Pc.here _) zT (i%H.length) (by exact Nat.mod_lt _ oM)) rfl nP (ae.mono hh) (hR _ mh2) underlying53 sizeOf26 rfl rfl rfl dC).cv (show _=zL 1 C (((i%H.length)*9+0)) from congrArg (zL 1 C) (by show((i%H.length)*9+0)+0*3=((i%H.length)*9+0);omega))) rfl (mX (F:=fun v_=>(rpQ (k+1)).Is mp v_ ((H.getD (i%H.length) zT).x)) rfl (wW yB (Pc.arr (Pc.tx (Pc.here _)) zT (i%H.length) (by exact Nat.mod_lt _ oM)) rfl nP rfl ae rfl) (tT mh2) rfl ?_);intro nb ft;refine uY rfl rfl rfl (uY rfl rfl rfl (uY rfl rfl rfl (xK rfl (fun _ _=>vW rfl rfl oM oM) rfl (w_q rfl (fun h' L' hh hR=>(yZ (i%H.length) (hR _ mh2) underlying46 sizeOf53 rfl rfl rP (by exact Nat.mod_lt _ oM) nP).cv (show _=zL 1 C (((i%H.length)*9+0)) from congrArg (zL 1 C) (by rfl))) rfl (w_q rfl (fun h' L' hh hR=>(tG (sz:=3) (q:=1) 1 (Pc.arr (Pc.here _) zT (i%H.length) (by exact Nat.mod_lt _ oM)) rfl nP (ae.mono hh) (hR _ mh2) underlying53 sizeOf26 rfl rfl rfl dC).cv (show _=zL 1 C (((i%H.length)*9+3)) from congrArg (zL 1 C) (by show((i%H.length)*9+0)+1*3=((i%H.length)*9+3);omega))) rfl (mX (F:=fun v_=>(rpQ (k+1)).Is mp v_ ((H.getD (i%H.length) zT).y)) rfl (wW yB (Pc.arr (Pc.ty (Pc.here _)) zT (i%H.length) (by exact Nat.mod_lt _ oM)) rfl nP rfl ae rfl) (tT mh2) rfl ?_))))));intro na fs;refine wX rfl (xB yB pH kz) fun mz fr=>(wX rfl (xV (ρ:=(tPt (k+l1+l2+1))) (xD (ps':=[(0,_),(1,_),(2,_)]) underlying53 yW rfl rfl sizeOf26 e6z rfl (xY (yH oM)) (zI rfl (Pc.tx (Pc.here _)) (ft.le (Le.q (l:=k+l1+l2+1) oM)) (zI rfl (Pc.ty (Pc.here _)) (fs.le (Le.q (l:=k+l1+l2+1) oM)) (zI rfl (Pc.tz (Pc.here _)) (fr.le (Le.q (l:=k+l1+l2+1) oM)) zY))))) fun my fq=>?_);refine w_c rfl (kU (fun X=>zW (ρ:=(tPt (k+l1+l2+1))) (m:=1) (xs:=[(T3.mk ((H.getD (i%H.length) zT).x) ((H.getD (i%H.length) zT).y) hi)]) (ps':=[(0,_)]) underlying46 yW rfl rfl rfl (xY (yH oM)) e2z (zI rfl (Pc.arr (Pc.here _) zT 0 dC) fq zY) (show 1*9≤16777216 from by decide) nP) rfl ?_)
   rintro mx qm ⟨mm,rfl,ea⟩
   refine w_c rfl (vG (A:=[]) (ρ:=(tPt (k+l1+l2+1))) ea dK ?_);intro h4 an jk;replace bc:=bc.mono an;refine sR (A:=[_]) (fun X=>jN (yF (ρ:=(tPt (k+l1+l2+5))) (bytes:=168) underlying46 yW rfl rfl rfl rfl nP rfl rfl bc (jk.le (Le.s (Le.t (Le.q (l:=k+l1+l2+5) oM)))) bO bO)) rfl (wN (by first|(simp;done)|grind)) ?_
   rintro fe ql ⟨cb,er,rfl,dz⟩
   refine xK rfl (fun _ _=>(xW underlying50 rfl sizeOf46 rfl).cv (show _=vP T 0 from congrArg (vP T) (by rfl))) rfl ?_;replace ak:=ak.mono an;refine yK (A:=[_,_,_,_,_]) rfl (uB sizeOf46 (Pc.fst pH) ak (zDD cb)) fun mh ky=>(rM (tU (wU (e':=[(4,_),(5,_),(6,_),(10,_),(12,_),(13,_),(20,_),(21,_)]) e8 (zH (zE (mv rfl rfl (gv (yA (q:=1) rfl rfl oM oM) rfl (asg rfl rfl (zR (vT (A:=[]) ?_))))))))));refine gqL ((i+1),(PP++[(T3.mk ((H.getD (i%H.length) zT).x) ((H.getD (i%H.length) zT).y) hi)]),mh,fe,er,h4) ?_ ?_
   · exact⟨mle,ky,dz,cb,by omega,by rw[io,bg];exact congrArg (fun z=>zQS L lo hi i++[T3.mk _ _ z]) (if_pos (by have h9:=eg;rw[bg] at h9;exact h9)).symm⟩
   omega
  refine uK (zH ?_);refine jJ (A:=[_]) 21 [] [(0,.q),(1,.q),(2,.q),(3,.q),(4,.q),(5,.q),(6,.q),(7,.q),(8,.q),(9,.q),(10,.q),(11,.q),(12,.q),(13,.q),(14,.q),(15,.q),(16,.q),(17,.q),(18,.c),(19,.c),(20,.q),(21,.t)] yC nX (vJ (by kernel_rfl)) nX (xK rfl (fun _ _=>(xW underlying50 rfl sizeOf46 rfl).cv (show _=vP T 0 from congrArg (vP T) (by rfl))) rfl (wX rfl (aQ (xB uR (Pc.fst pH) ak)) fun nc fu=>?_));subst fu;refine uY rfl rfl rfl (uY rfl rfl rfl (uY rfl rfl rfl (xK rfl (fun _ _=>vW rfl rfl oM oM) rfl (w_q rfl (fun h' L' hh hR=>(yZ (i%H.length) (hR _ mh2) underlying46 sizeOf53 rfl rfl rP (by exact Nat.mod_lt _ oM) nP).cv (show _=zL 1 C (((i%H.length)*9+0)) from congrArg (zL 1 C) (by rfl))) rfl ?_))));replace ae:=ae.mono bp;refine w_q rfl (fun h' L' hh hR=>(tG (sz:=3) (q:=0) 0 (Pc.arr (Pc.here _) zT (i%H.length) (by exact Nat.mod_lt _ oM)) rfl nP (ae.mono hh) (hR _ mh2) underlying53 sizeOf26 rfl rfl rfl dC).cv (show _=zL 1 C (((i%H.length)*9+0)) from congrArg (zL 1 C) (by show((i%H.length)*9+0)+0*3=((i%H.length)*9+0);omega))) rfl (mX (F:=fun v_=>(rpQ (k+1)).Is mp v_ ((H.getD (i%H.length) zT).x)) rfl (wW yB (Pc.arr (Pc.tx (Pc.here _)) zT (i%H.length) (by exact Nat.mod_lt _ oM)) rfl nP rfl ae rfl) (tT mh2) rfl ?_);intro nb ft;refine uY rfl rfl rfl (uY rfl rfl rfl (uY rfl rfl rfl (xK rfl (fun _ _=>vW rfl rfl oM oM) rfl (w_q rfl (fun h' L' hh hR=>(yZ (i%H.length) (hR _ mh2) underlying46 sizeOf53 rfl rfl rP (by exact Nat.mod_lt _ oM) nP).cv (show _=zL 1 C (((i%H.length)*9+0)) from congrArg (zL 1 C) (by rfl))) rfl (w_q rfl (fun h' L' hh hR=>(tG (sz:=3) (q:=1) 1 (Pc.arr (Pc.here _) zT (i%H.length) (by exact Nat.mod_lt _ oM)) rfl nP (ae.mono hh) (hR _ mh2) underlying53 sizeOf26 rfl rfl rfl dC).cv (show _=zL 1 C (((i%H.length)*9+3)) from congrArg (zL 1 C) (by show((i%H.length)*9+0)+1*3=((i%H.length)*9+3);omega))) rfl (mX (F:=fun v_=>(rpQ (k+1)).Is mp v_ ((H.getD (i%H.length) zT).y)) rfl (wW yB (Pc.arr (Pc.ty (Pc.here _)) zT (i%H.length) (by exact Nat.mod_lt _ oM)) rfl nP rfl ae rfl) (tT mh2) rfl ?_))))));intro na fs;refine wX rfl (xB yB pH fh) fun mz fr=>(wX rfl (xV (ρ:=(tPt (k+l1+1))) (xD (ps':=[(0,_),(1,_),(2,_)]) underlying53 yW rfl rfl sizeOf26 e6z rfl (xY (yH oM)) (zI rfl (Pc.tx (Pc.here _)) (ft.le (Le.q (l:=k+l1+1) oM)) (zI rfl (Pc.ty (Pc.here _)) (fs.le (Le.q (l:=k+l1+1) oM)) (zI rfl (Pc.tz (Pc.here _)) (fr.le (Le.q (l:=k+l1+1) oM)) zY))))) fun my fq=>?_);refine w_c rfl (kU (fun X=>zW (ρ:=(tPt (k+l1+1))) (m:=1) (xs:=[(T3.mk ((H.getD (i%H.length) zT).x) ((H.getD (i%H.length) zT).y) lo)]) (ps':=[(0,_)]) underlying46 yW rfl rfl rfl (xY (yH oM)) e2z (zI rfl (Pc.arr (Pc.here _) zT 0 dC) fq zY) (show 1*9≤16777216 from by decide) nP) rfl ?_)
  rintro mx qm ⟨mm,rfl,ea⟩
  refine w_c rfl (vG (A:=[]) (ρ:=(tPt (k+l1+1))) ea dK ?_);intro h4 an jj;replace bc:=bc.mono an;refine sR (A:=[_]) (fun X=>jN (yF (ρ:=(tPt (k+l1+l2+5))) (bytes:=168) underlying46 yW rfl rfl rfl rfl nP rfl rfl bc (jj.le (Le.s (Le.t (Le.q (l:=k+l1+l2+5) oM)))) bO bO)) rfl (wN (by first|(simp;done)|grind)) ?_
  rintro fe ql ⟨cb,er,rfl,dz⟩
  refine xK rfl (fun _ _=>(xW underlying50 rfl sizeOf46 rfl).cv (show _=vP T 0 from congrArg (vP T) (by rfl))) rfl ?_;replace ak:=ak.mono an;refine yK (A:=[_,_,_,_,_]) rfl (uB sizeOf46 (Pc.fst pH) ak (zDD cb)) fun mg kx=>(rM (tU (wU (e':=[(4,_),(5,_),(6,_),(10,_),(12,_),(13,_),(20,_),(21,_)]) e8 (zH (zE (mv rfl rfl (gv (yA (q:=1) rfl rfl oM oM) rfl (asg rfl rfl (zR (vT (A:=[]) ?_))))))))));refine gqL ((i+1),(PP++[(T3.mk ((H.getD (i%H.length) zT).x) ((H.getD (i%H.length) zT).y) lo)]),mg,fe,er,h4) ?_ ?_
  · exact⟨mle,kx,dz,cb,by omega,by rw[io,bg];exact congrArg (fun z=>zQS L lo hi i++[T3.mk _ _ z]) (if_neg (by have h9:=eg;rw[bg] at h9;exact h9)).symm⟩
  omega
 have gh:PP=ppZ L lo hi:=by rw[io,show i=2*H.length by omega,bg];rfl
 have yo:PP.length=2*H.length:=by rw[gh,bg];exact zYB
 refine kX (uH (uH (kW (zH (zM (zE (yJ (A:=[]) (ρ:=(tPt (k+l1+l2+5))) bc ?_)))))));intro h4 an ji;replace ak:=ak.mono an;have kw:(rpP (tLs (k+l1+l2+5)) (rpP rpV (rpS (rpP rpI (rpP rpI (rpQ 1)))))).R h4 ci (PP,(bx,(Value.slice none 0 0,[])).2):=yAB ak ji;refine cL (vs:=[vI (1)]) ⟨rfl,trivial⟩ call39 (fun w hs=>jS hs dC dC) fun xf h5 cj pw=>(nA (ρ:=(rpQ 2)) (X:=(0:Rat)) yP (yH dC) fun mt yt nq=>(zS (A:=[]) (uB sizeOf26 pH nq pw) fun en ct=>(zR (zH (zM ?_)))));refine zK 10 _ [(9,(24,83,[.bool false,.slice none 0 0,.slice none 0 0,.bool false,.slice none 0 0,.slice none 0 0,.bool false,.slice none 0 0,.slice none 0 0,.bool false,.slice none 0 0,.slice none 0 0,.slice none 0 0,.string ⟨#[]⟩]))] [(0,.q),(1,.q),(2,.q),(5,.q),(3,.c),(4,.q),(6,.c),(7,.q),(8,.q),(9,.a),(10,.t)] yC (jL.cons rfl rfl (uX jB rfl rfl) jL.nil) (by kernel_rfl) (uZ rfl rfl kM) (fun r hr=>hr) (wX rfl (xV (ρ:=(rpQ 1)) (wD (ps':=[]) underlying26 yP rfl rfl (vD underlying26) trivial rfl (yH dC) zY)) fun xe fp=>(wX rfl (xV (ρ:=(rpQ 1)) (wD (ps':=[]) underlying26 yP rfl rfl (vD underlying26) trivial rfl (yH dC) zY)) fun xd fo=>(wX rfl (xB yB pH ct) fun xc pv=>?_)));replace cz:=cz.mono ((((dq.trans cc).trans bp).trans an).trans cj);refine wX rfl (xB yB pH cz) fun wz fl=>?_;refine w_c rfl (sC (ev1 rfl) call31 (fun w hs=>iU hs pv dC) fun xb h6 da pu=>?_);replace fp:=fp.mono da;replace fo:=fo.mono da;refine wX rfl (xV (ρ:=(tPt 2)) (xD (ps':=[(0,_),(1,_),(2,_)]) underlying53 yW rfl rfl sizeOf26 e6z rfl (xY (yH dC)) (zI rfl (Pc.tx (Pc.here _)) (fp.le (Le.q (l:=2) dC)) (zI rfl (Pc.ty (Pc.here _)) (fo.le (Le.q (l:=2) dC)) (zI rfl (Pc.tz (Pc.here _)) pu zY))))) fun xa fm=>?_;refine w_c rfl ?_;replace fl:=fl.mono da;refine sC (ev1 rfl) call31 (fun w hs=>iU hs fl oM) fun wy h7 ge pt=>?_;replace fm:=fm.mono ge;refine wX rfl (xV (ρ:=(tPl 2 (l1+1))) (wD (ps':=[(0,_),(1,_)]) underlying80 mC rfl rfl (bE underlying80) e4z rfl (yL (xY (yH dC)) (yH oM)) (zI rfl (Pc.fst (Pc.here _)) fm (zI rfl (Pc.snd (Pc.here _)) (pt.le (Le.q (l:=l1+1) oM)) zY)))) fun wx pq=>(wX rfl (xV (ρ:=(rpP (tPl 2 (l1+1)) (rpP rpV fD))) (wD (ps':=[(0,_),(2,_)]) underlying83 jB rfl rfl (lF underlying83) e4z rfl (yL (yL (xY (yH dC)) (yH oM)) (yL cI kO)) (zI rfl (Pc.fst (Pc.here _)) pq (zI rfl (Pc.snd (Pc.snd (Pc.here _))) (bP (show ByB [98,111,116,116,111,109] by unfold ByB;decide)) zY)))) fun ww pp=>?_);refine w_a rfl rfl (fun cl=>?_);have np:(rpP (tPl 1 1) (rpP rpV fD)).R h7 [.bool false,.slice none 0 0,.slice none 0 0,.bool false,.slice none 0 0,.slice none 0 0,.bool false,.slice none 0 0,.slice none 0 0,.bool false,.slice none 0 0,.slice none 0 0,.slice none 0 0,.string ⟨#[]⟩] ((zT,(0:Rat)),((Value.slice none 0 0),([]:List Nat))):=(yL (yL (xY (yH dC)) (yH dC)) (yL cI kO));have jf:=(Le.p (Le.p (Le.t (Le.q (l:=2) dC)) (Le.q (l:=l1+1) oM)) (Le.refl _)).R np;refine yK (A:=[]) rfl (uB sizeOf83 pH jf pp) fun md kv=>(rM (wU (e':=[(5,_),(6,_),(10,_),(13,_),(20,_),(23,_),(24,_)]) e7 (zH (zM (zE (lX (xV (ρ:=(rpQ 1)) (wD (ps':=[]) underlying26 yP rfl rfl (vD underlying26) trivial rfl (yH dC) zY)) fun wv po=>(lX (xV (ρ:=(rpQ 1)) (wD (ps':=[]) underlying26 yP rfl rfl (vD underlying26) trivial rfl (yH dC) zY)) fun wu pn=>?_)))))));replace ct:=ct.mono (da.trans ge);refine lX (xB yB pH ct) fun wt pm=>(lX (xV (ρ:=(tPt 2)) (xD (ps':=[(0,_),(1,_),(2,_)]) underlying53 yW rfl rfl sizeOf26 e6z rfl (xY (yH dC)) (zI rfl (Pc.tx (Pc.here _)) (po.le (Le.q (l:=2) dC)) (zI rfl (Pc.ty (Pc.here _)) (pn.le (Le.q (l:=2) dC)) (zI rfl (Pc.tz (Pc.here _)) pm zY))))) fun ws pk=>?_);replace cy:=cy.mono ((((((dq.trans cc).trans bp).trans an).trans cj).trans da).trans ge);refine lX (xB yB pH cy) fun wq pj=>(lX (xV (ρ:=(tPl 2 (l2+1))) (wD (ps':=[(0,_),(1,_)]) underlying80 mC rfl rfl (bE underlying80) e4z rfl (yL (xY (yH dC)) (yH oM)) (zI rfl (Pc.fst (Pc.here _)) pk (zI rfl (Pc.snd (Pc.here _)) (pj.le (Le.q (l:=l2+1) oM)) zY)))) fun wp pi=>(lX (xV (ρ:=(rpP (tPl 2 (l2+1)) (rpP rpV fD))) (wD (ps':=[(0,_),(2,_)]) underlying83 jB rfl rfl (lF underlying83) e4z rfl (yL (yL (xY (yH dC)) (yH oM)) (yL cI kO)) (zI rfl (Pc.fst (Pc.here _)) pi (zI rfl (Pc.snd (Pc.snd (Pc.here _))) (bP (show ByB [116,111,112] by unfold ByB;decide)) zY)))) fun wo ph=>(nA (ρ:=(rpP (tPl 1 1) (rpP rpV fD))) (X:=((zT,(0:Rat)),((Value.slice none 0 0),([]:List Nat)))) jB (yL (yL (xY (yH dC)) (yH dC)) (yL cI kO)) fun ck ys no=>?_)))
 have je:=(Le.p (Le.p (Le.t (Le.q (l:=2) dC)) (Le.q (l:=l2+1) oM)) (Le.refl _)).R no;refine zS (A:=[]) (uB sizeOf83 pH je ph) fun mc ku=>(zR (zH (zM (zM (zE (asg (v:=vI (0)) rfl rfl (zR (zH (wV (xR 83 14 ?_))))))))));have jv:=RL.nil (ρ:=rpP (tPl (4*k+4*l1+4*l2+40) (100*k+100*l1+100*l2+1000)) (rpP tII fD)) (h:=h7);refine xR 32 1 ?_;have ju:=RL.nil (ρ:=rpS rpI) (h:=h7);refine xR 32 1 ?_;have jt:=RL.nil (ρ:=rpS rpI) (h:=h7);refine gcL (ι:=Nat×List Fc×List (List Int)×List (List Int)×List Value×List Value×List Value×Value×List Value×Value×List Value×Value×List Value×Mem) (fun(i,F0,C0,T0,ch,de,cg,aw,cf,am,em,aj,dd,mq)=>(MLe h7 mq∧((rpP (tLs (k+l1+l2+5)) (rpP rpV (rpS (rpP rpI (rpP rpI (rpQ 1)))))).R mq ch (PP,(aw,([]:List En)))∧(rpP (tPl 5 (l1+l2+5)) (rpP rpV fD)).R mq de ((T3.mk (0:Rat) (0:Rat) (-((1:Int):Rat)),-lo),(am,[98,111,116,116,111,109]))∧(rpP (tPl 5 (l1+l2+5)) (rpP rpV fD)).R mq cg ((T3.mk (0:Rat) (0:Rat) ((1:Int):Rat),hi),(aj,[116,111,112]))∧RL (tFc (4*k+4*l1+4*l2+40) (100*k+100*l1+100*l2+1000)) mq cf F0∧aw.oneCell'=true∧RL (rpS rpI) mq em C0∧am.oneCell'=true∧RL (rpS rpI) mq dd T0∧aj.oneCell'=true∧i≤U.length∧C0=zZ0 L i∧T0=zXH L i∧F0=zNU L lo hi i),[(6,vP b6 0),(10,vP T 0),(13,u),(20,vI (↑H.length:Int)),(24,vP cl 0),(25,vP ck 0),(26,vI ↑i)],[.gs 32 1 aj T0.length dd,.gs 32 1 am C0.length em,.gs 83 14 aw F0.length cf,.var ck 83 cg,.var cl 83 de,.var mt 26 en,.gs 32 1 u U.length ar,.gs 53 9 C H.length az,.gs 116 2 aa ED.length ap,.var T 50 ch,.var b6 50 dv,.var b5 26 dw,.var b4 26 dx],mq,U.length-i)) (0,[],[],[],ci,md,mc,(.slice none 0 0),[],(.slice none 0 0),[],(.slice none 0 0),[],h7) ?_ ?_
 · exact⟨mle,kw.up,((Le.p (Le.p (Le.t (Le.q (l:=5) dC)) (Le.q (l:=l1+l2+5) oM)) (Le.refl _)).R kv),((Le.p (Le.p (Le.t (Le.q (l:=5) dC)) (Le.q (l:=l1+l2+5) oM)) (Le.refl _)).R ku),jv,rfl,ju,rfl,jt,rfl,by omega,rfl,rfl,rfl⟩
 rintro⟨i,F0,C0,T0,ch,de,cg,aw,cf,am,em,aj,dd,mq⟩ ⟨iz,ca,be,aq,cp,lh,co,su,bn,rb,hi3,ir,im,iq⟩
 refine yU ?_;have hCl:C0.length=i:=by rw[ir];exact wK _ _
 have hTl:T0.length=i:=by rw[im];exact wK _ _
 have hFl:F0.length=k8 L i:=by rw[iq];exact zP3 oM
 have qt:=lk i oM;refine zM (zM (zE (mv rfl rfl (mv rfl rfl (gv (gA mh6 underlying81 rfl) rfl (gv (yN rfl rfl) rfl (zR (zH ?_))))))));refine cnd (fun ln=>?_) fun ln=>?_
 ·
  have jb:=lv i oM;have ig:=dp.2 i oM;refine uK (zH (zM (wV (zM ?_))));refine jJ (A:=[_]) 10 [] [(0,.q),(1,.q),(2,.q),(3,.q),(4,.q),(5,.q),(6,.c),(7,.c),(8,.c),(9,.q),(10,.t)] yC nX (by kernel_rfl) nX (xK rfl (fun _ _=>(xW underlying83 rfl sizeOf81 rfl).cv (show _=vP cl 12 from congrArg (vP cl) (by rfl))) rfl (wX rfl (aQ (xB cJ (Pc.snd (Pc.fst pH)) be)) fun wm pg=>?_));subst pg;refine uY rfl rfl rfl (uY rfl rfl rfl (w_q rfl (fun h' L' hh hR=>(yZ i (hR _ mh5) underlying81 sizeOf32 rfl rfl rfl bO nP).cv (show _=zL 1 u ((i*1+0)) from congrArg (zL 1 u) (by rfl))) rfl ?_));replace Z:=Z.mono (((((bp.trans an).trans cj).trans da).trans ge).trans iz);refine mX (F:=fun v_=>(rpS rpI).Is mq v_ (U.getD i [])) rfl (wW fO (Pc.arr (Pc.here _) [] i bO) rfl nP rfl Z rfl) (tT mh5) rfl ?_;intro wl pf;refine w_c rfl (sC (ev1 rfl) call65 (fun w hs=>zH9 hs pf oM) fun wk h8 bq pe=>?_);refine w_c rfl (kU (fun X=>zW (ρ:=(rpS rpI)) (m:=1) (xs:=[zJ2 (U.getD i []) (U.getD i []).length]) (ps':=[(0,_)]) underlying81 jU rfl rfl rfl qJ e2z (zI rfl (Pc.arr (Pc.here _) [] 0 dC) pe zY) (show 1*1≤16777216 from by decide) nP) rfl ?_)
  rintro wj yg ⟨ug,rfl,kn⟩
  refine w_c rfl (vG (A:=[]) (ρ:=(rpS rpI)) kn dK ?_);intro h9 cd hv;replace co:=co.mono (bq.trans cd);refine sR (A:=[_]) (fun X=>jN (yF (ρ:=(rpS rpI)) (bytes:=24) underlying81 jU rfl rfl rfl rfl nP rfl rfl co hv bO bO)) rfl (wN (by first|(simp;done)|grind)) ?_
  rintro fd yf ⟨ga,eq,rfl,km⟩
  refine xK rfl (fun _ _=>(xW underlying83 rfl sizeOf81 rfl).cv (show _=vP cl 12 from congrArg (vP cl) (by rfl))) rfl ?_;replace be:=be.mono (bq.trans cd);refine yK (A:=[_,_,_,_]) rfl (uB sizeOf81 (Pc.snd (Pc.fst pH)) be (zDD ga)) fun dj ie=>(rM (wU (e':=[(6,_),(10,_),(13,_),(20,_),(24,_),(25,_),(26,_)]) e7 (zH (zM (zE (asg rfl rfl (zR (zH (zM (zM (zE (asg (v:=vI (0)) rfl rfl (zR ?_)))))))))))));refine zH (wV (xR 3 1 ?_));have hx:=RL.nil (ρ:=rpI) (h:=h9);refine gcL (ι:=Nat×List Int×Value×List Value×Mem) (fun(q,TL,bz,di,mr)=>(MLe h9 mr∧(RL rpI mr di TL∧q≤(U.getD i []).length∧TL=tpL L i q),[(6,vP b6 0),(10,vP T 0),(13,u),(20,vI (↑H.length:Int)),(24,vP cl 0),(25,vP ck 0),(26,vI ↑i),(27,bz),(28,vI ↑q)],[.gs 3 1 bz TL.length di,.gs 32 1 aj T0.length dd,.gs 32 1 fd (C0++[zJ2 (U.getD i []) (U.getD i []).length]).length eq,.gs 83 14 aw F0.length cf,.var ck 83 cg,.var cl 83 dj,.var mt 26 en,.gs 32 1 u U.length ar,.gs 53 9 C H.length az,.gs 116 2 aa ED.length ap,.var T 50 ch,.var b6 50 dv,.var b5 26 dw,.var b4 26 dx],mr,(U.getD i []).length-q)) (0,[],(.slice none 0 0),[],h9) ?_ ?_
  · exact⟨mle,hx,by omega,rfl⟩
  rintro⟨q,TL,bz,di,mr⟩ ⟨gc,bu,zx,lu⟩
  refine yU ?_;have yn:TL.length=q:=by rw[lu];exact wK _ _
  have jb:=lv i oM;have ig:=dp.2 i oM;refine zM (zM (zE (mv rfl rfl (mv rfl rfl (mv rfl rfl (gv ((yZ i mh7 underlying81 sizeOf32 rfl rfl rfl bO nP).cv (show _=zL 1 u ((i*1+0)) from congrArg (zL 1 u) (by rfl))) rfl ?_))))));replace Z:=Z.mono ((bq.trans cd).trans gc);refine zEB (F:=fun v_=>(rpS rpI).Is mr v_ (U.getD i [])) (wW fO (Pc.arr (Pc.here _) [] i bO) rfl nP rfl Z rfl) (tT mh7) rfl ?_;intro wi pd;refine gv (uW underlying32 rfl pd) rfl (gv (yN rfl rfl) rfl (zR (zH ?_)));refine cnd (fun lm=>?_) fun lm=>?_
  ·
   have sr:=fx i q oM oM;refine uK (zH (zM (wV (zE (mv rfl rfl (mv rfl rfl (mv rfl rfl (gv ((yZ i mh7 underlying81 sizeOf32 rfl rfl rfl bO nP).cv (show _=zL 1 u ((i*1+0)) from congrArg (zL 1 u) (by rfl))) rfl (zEB (F:=fun v_=>(rpS rpI).Is mr v_ (U.getD i [])) (wW fO (Pc.arr (Pc.here _) [] i bO) rfl nP rfl Z rfl) (tT mh7) rfl ?_)))))))));intro wh pc;refine mv rfl rfl (lX (xI (0:Int) q underlying32 ty3 pc) fun wg oz=>(lX (xA ty3 oz) fun wf oy=>?_));obtain⟨rfl,td,so⟩:=jX oy;refine mv rfl rfl (gv (yA rfl rfl (by(have:=fx i q oM oM;omega)) (by(have:=fx i q oM oM;omega))) rfl (zF (zW (ρ:=rpI) (m:=1) (xs:=[(((U.getD i []).getD q (0:Int))+(↑H.length:Int))]) (ps':=[(0,_)]) underlying32 gJ rfl rfl rfl wG e2z (zI rfl (Pc.arr (Pc.here _) (0:Int) 0 dC) (qD oM oM) zY) (show 1*1≤16777216 from by decide) nP) rfl rfl rfl ?_))
   rintro we ye ⟨uf,rfl,kl⟩
   refine yJ (A:=[]) (ρ:=rpI) kl ?_;intro lz bm hu;replace bu:=bu.mono bm;refine xT (A:=[]) (jN (yF (ρ:=rpI) (bytes:=8) underlying32 gJ rfl rfl rfl rfl nP rfl rfl bu hu bO bO)) rfl rfl rfl ?_
   rintro mw yd ⟨sw,ml,rfl,kk⟩
   refine asg rfl rfl (zR (tU (wU (e':=[(6,_),(10,_),(13,_),(20,_),(24,_),(25,_),(26,_),(28,_),(27,_)]) ⟨rfl,rfl,rfl,rfl,rfl,rfl,rfl,rfl,rfl,trivial⟩ (zH (zE (mv rfl rfl (gv (yA (q:=1) rfl rfl oM oM) rfl (asg rfl rfl (zR ?_)))))))));refine gqL ((q+1),(TL++[(((U.getD i []).getD q (0:Int))+(↑H.length:Int))]),mw,ml,lz) ?_ ?_
   · exact⟨mle,kk,by omega,by rw[lu,ce,bg];rfl⟩
   omega
  have ek:q=(U.getD i []).length:=by omega
  refine kX (uH (uH (kW (zH (zM (zE (gv ((xW underlying83 rfl sizeOf81 rfl).cv (show _=vP ck 12 from congrArg (vP ck) (by rfl))) rfl ?_)))))));replace aq:=aq.mono ((bq.trans cd).trans gc);refine lX (aQ (xB cJ (Pc.snd (Pc.fst pH)) aq)) fun wd ox=>?_;subst ox;refine mv rfl rfl (yJ (A:=[]) (ρ:=rpI) bu ?_);intro lz bm ht;refine zF (zW (ρ:=(rpS rpI)) (m:=1) (xs:=[TL]) (ps':=[(0,_)]) underlying81 jU rfl rfl rfl qJ e2z (zI rfl (Pc.arr (Pc.here _) [] 0 dC) ht zY) (show 1*1≤16777216 from by decide) nP) rfl rfl rfl ?_
  rintro wc yc ⟨ue,rfl,kj⟩
  refine yJ (A:=[]) (ρ:=(rpS rpI)) kj ?_;intro gk cn hp;replace bn:=bn.mono ((((bq.trans cd).trans gc).trans bm).trans cn);refine xT (A:=[]) (jN (yF (ρ:=(rpS rpI)) (bytes:=24) underlying81 jU rfl rfl rfl rfl nP rfl rfl bn hp bO bO)) rfl rfl rfl ?_
  rintro iy yb ⟨fz,gm,rfl,ki⟩
  refine gv ((xW underlying83 rfl sizeOf81 rfl).cv (show _=vP ck 12 from congrArg (vP ck) (by rfl))) rfl ?_;replace aq:=aq.mono (bm.trans cn);refine zS (A:=[_,_,_]) (uB sizeOf81 (Pc.snd (Pc.fst pH)) aq (zDD fz)) fun fa id=>(zR (wU (e':=[(6,_),(10,_),(13,_),(20,_),(24,_),(25,_),(26,_)]) e7 (zH (zM (zE (asg (v:=vI (0)) rfl rfl (zR (zH (wV ?_)))))))));refine gcL (ι:=Nat×List Fc×List Value×Value×List Value×Mem) (fun(q,F1,bw,ab,bv,mf)=>(MLe gk mf∧((rpP (tLs (k+l1+l2+5)) (rpP rpV (rpS (rpP rpI (rpP rpI (rpQ 1)))))).R mf bw (PP,(ab,([]:List En)))∧RL (tFc (4*k+4*l1+4*l2+40) (100*k+100*l1+100*l2+1000)) mf bv F1∧ab.oneCell'=true∧q≤(U.getD i []).length∧F1=zNU L lo hi i++sfX L lo hi i q),[(6,vP b6 0),(10,vP T 0),(13,u),(20,vI (↑H.length:Int)),(24,vP cl 0),(25,vP ck 0),(26,vI ↑i),(29,vI ↑q)],[.gs 32 1 iy (T0++[TL]).length gm,.gs 32 1 fd (C0++[zJ2 (U.getD i []) (U.getD i []).length]).length eq,.gs 83 14 ab F1.length bv,.var ck 83 fa,.var cl 83 dj,.var mt 26 en,.gs 32 1 u U.length ar,.gs 53 9 C H.length az,.gs 116 2 aa ED.length ap,.var T 50 bw,.var b6 50 dv,.var b5 26 dw,.var b4 26 dx],mf,(U.getD i []).length-q)) (0,F0,ch,aw,cf,gk) ?_ ?_
  · exact⟨mle,ca.up,cp.up,lh,by omega,by rw[iq];exact(List.append_nil _).symm⟩
  rintro⟨q,F1,bw,ab,bv,mf⟩ ⟨qp,ai,bt,il,zw,lw⟩
  refine yU ?_;have yp:F1.length=k8 L i+q:=by rw[lw,lAz,zP3 oM];exact congrArg _ (wK _ _)
  have jb:=lv i oM;have ig:=dp.2 i oM;have zs:=zB5 (((i:Int):Int):Rat);have zr:=zB5 (((q:Int):Int):Rat);have zv:=zAM (i:Int) oM oM;have zu:=zAM (q:Int) oM oM;refine zM (zM (zE (mv rfl rfl (mv rfl rfl (mv rfl rfl (gv ((yZ i mh6 underlying81 sizeOf32 rfl rfl rfl bO nP).cv (show _=zL 1 u ((i*1+0)) from congrArg (zL 1 u) (by rfl))) rfl ?_))))));replace Z:=Z.mono ((bm.trans cn).trans qp);refine zEB (F:=fun v_=>(rpS rpI).Is mf v_ (U.getD i [])) (wW fO (Pc.arr (Pc.here _) [] i bO) rfl nP rfl Z rfl) (tT mh6) rfl ?_;intro wb ow;refine gv (uW underlying32 rfl ow) rfl (gv (yN rfl rfl) rfl (zR (zH ?_)));refine cnd (fun ll=>?_) fun ll=>?_
  ·
   have sr:=fx i q oM oM;have zt:=fx i ((q+1)%(U.getD i []).length) oM (Nat.mod_lt _ oM);refine uK (zH (zM (wV (zM ?_))));refine zK 23 _ [] [(0,.q),(1,.q),(2,.q),(3,.q),(4,.q),(5,.q),(6,.q),(7,.q),(8,.q),(9,.q),(10,.q),(11,.q),(12,.q),(13,.q),(14,.q),(15,.q),(16,.q),(17,.q),(18,.q),(19,.q),(20,.q),(21,.q),(22,.q)] yC nX (vJ (by kernel_rfl)) nX (fun r hr=>hr) (uY rfl rfl rfl (uY rfl rfl rfl (w_q rfl (fun h' L' hh hR=>(yZ i (hR _ mh6) underlying81 sizeOf32 rfl rfl rfl bO nP).cv (show _=zL 1 u ((i*1+0)) from congrArg (zL 1 u) (by rfl))) rfl (mX (F:=fun v_=>(rpS rpI).Is mf v_ (U.getD i [])) rfl (wW fO (Pc.arr (Pc.here _) [] i bO) rfl nP rfl Z rfl) (tT mh6) rfl ?_))));intro wa ou;refine uY rfl rfl rfl (wX rfl (xI (0:Int) q underlying32 ty3 ou) fun vz ot=>(wX rfl (xA ty3 ot) fun vy os=>?_));obtain⟨rfl,tc,sn⟩:=jX os;refine uY rfl rfl rfl (uY rfl rfl rfl (w_q rfl (fun h' L' hh hR=>(yZ i (hR _ mh6) underlying81 sizeOf32 rfl rfl rfl bO nP).cv (show _=zL 1 u ((i*1+0)) from congrArg (zL 1 u) (by rfl))) rfl (mX (F:=fun v_=>(rpS rpI).Is mf v_ (U.getD i [])) rfl (wW fO (Pc.arr (Pc.here _) [] i bO) rfl nP rfl Z rfl) (tT mh6) rfl ?_)));intro vx or;refine uY rfl rfl rfl (xK rfl (fun _ _=>yA (q:=1) rfl rfl oM oM) rfl (uY rfl rfl rfl (uY rfl rfl rfl (w_q rfl (fun h' L' hh hR=>(yZ i (hR _ mh6) underlying81 sizeOf32 rfl rfl rfl bO nP).cv (show _=zL 1 u ((i*1+0)) from congrArg (zL 1 u) (by rfl))) rfl (mX (F:=fun v_=>(rpS rpI).Is mf v_ (U.getD i [])) rfl (wW fO (Pc.arr (Pc.here _) [] i bO) rfl nP rfl Z rfl) (tT mh6) rfl ?_)))));intro vw oq;refine w_q rfl (fun h' L' hh hR=>uW underlying32 rfl (oq.mono hh)) rfl (xK rfl (fun _ _=>vW rfl rfl oM oM) rfl (wX rfl (xI (0:Int) ((q+1)%(U.getD i []).length) underlying32 ty3 or (hi:=by exact Nat.mod_lt _ oM)) fun vv oo=>(wX rfl (xA ty3 oo) fun vu on=>?_)));obtain⟨rfl,tb,sm⟩:=jX on;refine zD0 rfl rfl rfl (zD0 rfl rfl rfl (rM (wU (e':=[(6,_),(10,_),(13,_),(20,_),(24,_),(25,_),(26,_),(29,_),(30,_),(31,_)]) e10 (zH (zM ?_)))));refine zK 12 _ [(11,(32,53,[.bool false,.slice none 0 0,.slice none 0 0,.bool false,.slice none 0 0,.slice none 0 0,.bool false,.slice none 0 0,.slice none 0 0]))] [(0,.q),(1,.q),(2,.q),(3,.q),(4,.q),(5,.q),(6,.q),(7,.q),(8,.q),(9,.q),(10,.c),(11,.a),(12,.t)] yC (jL.cons rfl rfl (uX yW rfl rfl) jL.nil) (vJ (by kernel_rfl)) (uZ rfl rfl kM) (fun r hr=>hr) (xK rfl (fun _ _=>(xW underlying50 rfl sizeOf46 rfl).cv (show _=vP T 0 from congrArg (vP T) (by rfl))) rfl (wX rfl (xB uR (Pc.fst pH) ai) fun vt ol=>(uY rfl rfl rfl (wX rfl (xI zT (((U.getD i []).getD ((q+1)%(U.getD i []).length) 0).toNat) underlying46 zU ol (hi:=by(show _<PP.length;omega))) fun vq ok=>(wX rfl (xA zU ok) fun vp oj=>(xK rfl (fun _ _=>(xW underlying50 rfl sizeOf46 rfl).cv (show _=vP T 0 from congrArg (vP T) (by rfl))) rfl (wX rfl (xB uR (Pc.fst pH) ai) fun vo oi=>(uY rfl rfl rfl (wX rfl (xI zT (((U.getD i []).getD q 0).toNat) underlying46 zU oi (hi:=by(show _<PP.length;omega))) fun vn oh=>(wX rfl (xA zU oh) fun vm og=>?_))))))))));refine w_c rfl (sC (ev2 rfl rfl) call125 (fun w hs=>zRC hs oj og oM) fun vl ly ew fk=>?_);replace fk:=Rp.Is.le fk (Le.t (Le.q (l:=4*k+4*l1+4*l2+23) oM));refine w_a rfl rfl (fun iv=>?_);have nn:(tPt 1).R ly [.bool false,.slice none 0 0,.slice none 0 0,.bool false,.slice none 0 0,.slice none 0 0,.bool false,.slice none 0 0,.slice none 0 0] zT:=(xY (yH dC));have gr:=(Le.t (Le.q (l:=4*k+4*l1+4*l2+23) oM)).R nn;refine yK (A:=[]) rfl (uB sizeOf53 pH gr fk) fun re eu=>(rM (wU (e':=[(6,_),(10,_),(13,_),(20,_),(24,_),(25,_),(26,_),(29,_),(30,_),(31,_),(32,_)]) ⟨rfl,rfl,rfl,rfl,rfl,rfl,rfl,rfl,rfl,rfl,rfl,trivial⟩ (zH (zM ?_))));refine zK 8 _ [(7,(33,53,[.bool false,.slice none 0 0,.slice none 0 0,.bool false,.slice none 0 0,.slice none 0 0,.bool false,.slice none 0 0,.slice none 0 0]))] [(0,.q),(1,.q),(2,.q),(3,.q),(5,.q),(4,.c),(6,.q),(7,.a),(8,.t)] yC (jL.cons rfl rfl (uX yW rfl rfl) jL.nil) (by kernel_rfl) (uZ rfl rfl kM) (fun r hr=>hr) (xK rfl (fun _ _=>(zX (sz:=3) (q:=1) 1 underlying53 sizeOf26 rfl rfl rfl dC).cv (show _=vP iv 3 from congrArg (vP iv) (by rfl))) rfl (wX rfl (xB yB (Pc.ty pH) eu) fun vk fj=>(xK rfl (fun _ _=>(zX (sz:=3) (q:=0) 0 underlying53 sizeOf26 rfl rfl rfl dC).cv (show _=vP iv 0 from congrArg (vP iv) (by rfl))) rfl (wX rfl (xB yB (Pc.tx pH) eu) fun vj oe=>(wX rfl (xV (ρ:=(rpQ 1)) (wD (ps':=[]) underlying26 yP rfl rfl (vD underlying26) trivial rfl (yH dC) zY)) fun vh fi=>?_)))))
   refine w_c rfl (sC (ev1 rfl) call31 (fun w hs=>iU hs oe oM) fun vi tq ev od=>?_);replace fj:=fj.mono ev;replace fi:=fi.mono ev;refine wX rfl (xV (ρ:=(tPt (4*k+4*l1+4*l2+23))) (xD (ps':=[(0,_),(1,_),(2,_)]) underlying53 yW rfl rfl sizeOf26 e6z rfl (xY (yH oM)) (zI rfl (Pc.tx (Pc.here _)) fj (zI rfl (Pc.ty (Pc.here _)) od (zI rfl (Pc.tz (Pc.here _)) (fi.le (Le.q (l:=4*k+4*l1+4*l2+23) oM)) zY))))) fun vg oc=>?_;refine w_a rfl rfl (fun b33=>?_);have nm:(tPt 1).R tq [.bool false,.slice none 0 0,.slice none 0 0,.bool false,.slice none 0 0,.slice none 0 0,.bool false,.slice none 0 0,.slice none 0 0] zT:=(xY (yH dC));have gq:=(Le.t (Le.q (l:=4*k+4*l1+4*l2+23) oM)).R nm;refine yK (A:=[]) rfl (uB sizeOf53 pH gq oc) fun rd et=>(rM (zH ?_));refine jJ (A:=[_,_,_,_]) 32 [] [(0,.q),(1,.q),(2,.q),(3,.q),(4,.q),(5,.q),(6,.q),(7,.q),(8,.q),(11,.q),(12,.q),(13,.q),(14,.q),(15,.q),(16,.q),(17,.q),(18,.q),(21,.q),(25,.q),(0,.x [10,23,24,27] [9,10,22,23,24,26,27] [19,20]),(28,.c),(29,.c),(30,.c),(31,.q),(32,.t)] yC nX (by kernel_rfl) nX (xK rfl (fun _ _=>(xW underlying50 rfl sizeOf47 rfl).cv (show _=vP T 1 from congrArg (vP T) (by rfl))) rfl ?_);replace ai:=ai.mono (ew.trans ev);refine wX rfl (aQ (xB tM (Pc.snd (Pc.fst pH)) ai)) fun vf ob=>?_;subst ob;refine wX rfl (xB zU pH et) fun ve bk=>(wX rfl (xB zU pH et) fun vd dn=>(xK rfl (fun _ _=>(xW underlying50 rfl sizeOf46 rfl).cv (show _=vP T 0 from congrArg (vP T) (by rfl))) rfl (wX rfl (xB uR (Pc.fst pH) ai) fun vc oa=>(uY rfl rfl rfl (wX rfl (xI zT (((U.getD i []).getD q 0).toNat) underlying46 zU oa (hi:=by(show _<PP.length;omega))) fun vb nz=>(wX rfl (xA zU nz) fun va dm=>(uY rfl rfl rfl (uY rfl rfl rfl (uY rfl rfl rfl (uY rfl rfl rfl (xK rfl (fun _ _=>yA rfl rfl oM oM) rfl (uY rfl rfl rfl (uY rfl rfl rfl ?_)))))))))))));refine xK rfl (fun _ _=>yA rfl rfl oM oM) rfl (uY rfl rfl rfl (uY rfl rfl rfl (w_xx (N:=9) rfl ?_)));refine zFO rfl rfl rfl rfl ?x2 ?x3
   case' x2=>
    refine sC (ev2 rfl rfl) call44 (fun w hs=>w8 hs dn dm oM) fun ix ra av ay=>?_;replace ay:=Rp.Is.le ay (Le.q (l:=15*k+15*l1+15*l2+93) oM);refine fC rfl ?_;replace bk:=bk.mono av;refine xX rfl (xV (ρ:=(tPl (4*k+4*l1+4*l2+23) (15*k+15*l1+15*l2+93))) (wD (ps':=[(0,_),(1,_)]) underlying80 mC rfl rfl (bE underlying80) e4z rfl (yL (xY (yH oM)) (yH oM)) (zI rfl (Pc.fst (Pc.here _)) bk (zI rfl (Pc.snd (Pc.here _)) ay zY)))) fun iw O=>?_;refine zFO rfl rfl rfl rfl ?x4 ?x5
    case' x4=>
     refine sC (ev1 rfl) call126 (fun w hs=>uE hs oM oM) fun dk gj Y ax=>?_;obtain⟨rfl,bo⟩:=kH ax;refine fC rfl (bY rfl (fun _ _=>vH (pa:=([115]:List Nat)) (pb:=(jF (((↑i:Int):Int):Rat))) rfl rfl (by first|omega|(simp only[lAz,lC,lN,List.length_drop,List.length_take];omega))) rfl (fC rfl (bY rfl (fun _ _=>vH (pa:=(([115]:List Nat)++(jF (((↑i:Int):Int):Rat)))) (pb:=([46]:List Nat)) rfl rfl (by first|omega|(simp only[lAz,lC,lN,List.length_drop,List.length_take];omega))) rfl ?_)));refine zFO rfl rfl rfl rfl ?x6 ?x7
     case' x6=>
      refine sC (ev1 rfl) call126 (fun w hs=>uE hs oM oM) fun bi dc M ac=>?_;obtain⟨rfl,ao⟩:=kH ac;refine fC rfl (bY rfl (fun _ _=>vH (pa:=((([115]:List Nat)++(jF (((↑i:Int):Int):Rat)))++([46]:List Nat))) (pb:=(jF (((↑q:Int):Int):Rat))) rfl rfl (by first|omega|(simp only[lAz,lC,lN,List.length_drop,List.length_take];omega))) rfl (zPE rfl rfl (kU (fun X=>zW (ρ:=rpI) (m:=4) (xs:=(lU (U.getD i []) q H)) (ps':=[(0,_),(1,_),(2,_),(3,_)]) underlying32 gJ rfl rfl rfl wG e8 (zI rfl (Pc.arr (Pc.here _) (0:Int) 0 dC) (qD oM oM) (zI rfl (Pc.arr (Pc.here _) (0:Int) 1 dC) (qD oM oM) (zI rfl (Pc.arr (Pc.here _) (0:Int) 2 dC) (qD oM oM) (zI rfl (Pc.arr (Pc.here _) (0:Int) 3 dC) (qD oM oM) zY)))) (show 4*1≤16777216 from by decide) nP) rfl ?_)));intro fc fv lf;obtain⟨ep,rfl,D⟩:=lf;refine zPE rfl rfl (vG (A:=[]) (ρ:=rpI) D dK ?_);intro db J ho;refine kU (fun X=>zW (ρ:=(rpS rpI)) (m:=1) (xs:=[(lU (U.getD i []) q H)]) (ps':=[(0,_)]) underlying81 jU rfl rfl rfl qJ e2z (zI rfl (Pc.arr (Pc.here _) [] 0 dC) ho zY) (show 1*1≤16777216 from by decide) nP) rfl ?_;intro bj bl ah;obtain⟨au,rfl,G⟩:=ah;refine zDZ ?_;replace O:=O.mono ((Y.trans M).trans J)
     case' x7=>
      refine kU (fun X=>zW (ρ:=rpI) (m:=4) (xs:=(lU (U.getD i []) q H)) (ps':=[(0,_),(1,_),(2,_),(3,_)]) underlying32 gJ rfl rfl rfl wG e8 (zI rfl (Pc.arr (Pc.here _) (0:Int) 0 dC) (qD oM oM) (zI rfl (Pc.arr (Pc.here _) (0:Int) 1 dC) (qD oM oM) (zI rfl (Pc.arr (Pc.here _) (0:Int) 2 dC) (qD oM oM) (zI rfl (Pc.arr (Pc.here _) (0:Int) 3 dC) (qD oM oM) zY)))) (show 4*1≤16777216 from by decide) nP) rfl ?_
      rintro fc fv ⟨ep,rfl,D⟩
      refine zFO rfl rfl rfl rfl ?x8 ?x9
      case' x8=>
       refine sC (ev1 rfl) call126 (fun w hs=>uE hs oM oM) fun bi dc M ac=>?_;obtain⟨rfl,ao⟩:=kH ac;refine fC rfl (bY rfl (fun _ _=>vH (pa:=((([115]:List Nat)++(jF (((↑i:Int):Int):Rat)))++([46]:List Nat))) (pb:=(jF (((↑q:Int):Int):Rat))) rfl rfl (by first|omega|(simp only[lAz,lC,lN,List.length_drop,List.length_take];omega))) rfl (zPE rfl rfl ?_));replace D:=D.mono M;refine vG (A:=[]) (ρ:=rpI) D dK ?_;intro db J hn;refine kU (fun X=>zW (ρ:=(rpS rpI)) (m:=1) (xs:=[(lU (U.getD i []) q H)]) (ps':=[(0,_)]) underlying81 jU rfl rfl rfl qJ e2z (zI rfl (Pc.arr (Pc.here _) [] 0 dC) hn zY) (show 1*1≤16777216 from by decide) nP) rfl ?_;intro bj bl ah;obtain⟨au,rfl,G⟩:=ah;refine zDZ ?_;replace O:=O.mono ((Y.trans M).trans J)
      case' x9=>
       refine vG (A:=[]) (ρ:=rpI) D dK ?_;intro dc M hm;refine kU (fun X=>zW (ρ:=(rpS rpI)) (m:=1) (xs:=[(lU (U.getD i []) q H)]) (ps':=[(0,_)]) underlying81 jU rfl rfl rfl qJ e2z (zI rfl (Pc.arr (Pc.here _) [] 0 dC) hm zY) (show 1*1≤16777216 from by decide) nP) rfl ?_
       rintro bj bl ⟨au,rfl,G⟩
       refine zDY rfl rfl (sC (ev1 rfl) call126 (fun w hs=>uE hs oM oM) fun bi db J ac=>?_);obtain⟨rfl,ao⟩:=kH ac;refine fC rfl (bY rfl (fun _ _=>vH (pa:=((([115]:List Nat)++(jF (((↑i:Int):Int):Rat)))++([46]:List Nat))) (pb:=(jF (((↑q:Int):Int):Rat))) rfl rfl (by first|omega|(simp only[lAz,lC,lN,List.length_drop,List.length_take];omega))) rfl (zDZ ?_));replace O:=O.mono ((Y.trans M).trans J);replace G:=G.mono J
    case' x5=>
     refine kU (fun X=>zW (ρ:=rpI) (m:=4) (xs:=(lU (U.getD i []) q H)) (ps':=[(0,_),(1,_),(2,_),(3,_)]) underlying32 gJ rfl rfl rfl wG e8 (zI rfl (Pc.arr (Pc.here _) (0:Int) 0 dC) (qD oM oM) (zI rfl (Pc.arr (Pc.here _) (0:Int) 1 dC) (qD oM oM) (zI rfl (Pc.arr (Pc.here _) (0:Int) 2 dC) (qD oM oM) (zI rfl (Pc.arr (Pc.here _) (0:Int) 3 dC) (qD oM oM) zY)))) (show 4*1≤16777216 from by decide) nP) rfl ?_
     rintro fc fv ⟨ep,rfl,D⟩
     refine zFO rfl rfl rfl rfl ?x10 ?x11
     case' x10=>
      refine sC (ev1 rfl) call126 (fun w hs=>uE hs oM oM) fun dk gj Y ax=>?_;obtain⟨rfl,bo⟩:=kH ax;refine fC rfl (bY rfl (fun _ _=>vH (pa:=([115]:List Nat)) (pb:=(jF (((↑i:Int):Int):Rat))) rfl rfl (by first|omega|(simp only[lAz,lC,lN,List.length_drop,List.length_take];omega))) rfl (fC rfl (bY rfl (fun _ _=>vH (pa:=(([115]:List Nat)++(jF (((↑i:Int):Int):Rat)))) (pb:=([46]:List Nat)) rfl rfl (by first|omega|(simp only[lAz,lC,lN,List.length_drop,List.length_take];omega))) rfl ?_)));refine zFO rfl rfl rfl rfl ?x12 ?x13
      case' x12=>
       refine sC (ev1 rfl) call126 (fun w hs=>uE hs oM oM) fun bi dc M ac=>?_;obtain⟨rfl,ao⟩:=kH ac;refine fC rfl (bY rfl (fun _ _=>vH (pa:=((([115]:List Nat)++(jF (((↑i:Int):Int):Rat)))++([46]:List Nat))) (pb:=(jF (((↑q:Int):Int):Rat))) rfl rfl (by first|omega|(simp only[lAz,lC,lN,List.length_drop,List.length_take];omega))) rfl (zPE rfl rfl ?_));replace D:=D.mono (Y.trans M);refine vG (A:=[]) (ρ:=rpI) D dK ?_;intro db J hk;refine kU (fun X=>zW (ρ:=(rpS rpI)) (m:=1) (xs:=[(lU (U.getD i []) q H)]) (ps':=[(0,_)]) underlying81 jU rfl rfl rfl qJ e2z (zI rfl (Pc.arr (Pc.here _) [] 0 dC) hk zY) (show 1*1≤16777216 from by decide) nP) rfl ?_;intro bj bl ah;obtain⟨au,rfl,G⟩:=ah;refine zDZ ?_;replace O:=O.mono ((Y.trans M).trans J)
      case' x13=>
       replace D:=D.mono Y;refine vG (A:=[]) (ρ:=rpI) D dK ?_;intro dc M hj;refine kU (fun X=>zW (ρ:=(rpS rpI)) (m:=1) (xs:=[(lU (U.getD i []) q H)]) (ps':=[(0,_)]) underlying81 jU rfl rfl rfl qJ e2z (zI rfl (Pc.arr (Pc.here _) [] 0 dC) hj zY) (show 1*1≤16777216 from by decide) nP) rfl ?_;intro bj bl ah;obtain⟨au,rfl,G⟩:=ah;refine zDY rfl rfl (sC (ev1 rfl) call126 (fun w hs=>uE hs oM oM) fun bi db J ac=>?_);obtain⟨rfl,ao⟩:=kH ac;refine fC rfl (bY rfl (fun _ _=>vH (pa:=((([115]:List Nat)++(jF (((↑i:Int):Int):Rat)))++([46]:List Nat))) (pb:=(jF (((↑q:Int):Int):Rat))) rfl rfl (by first|omega|(simp only[lAz,lC,lN,List.length_drop,List.length_take];omega))) rfl (zDZ ?_));replace O:=O.mono ((Y.trans M).trans J);replace G:=G.mono J
     case' x11=>
      refine vG (A:=[]) (ρ:=rpI) D dK ?_;intro gj Y hf;refine kU (fun X=>zW (ρ:=(rpS rpI)) (m:=1) (xs:=[(lU (U.getD i []) q H)]) (ps':=[(0,_)]) underlying81 jU rfl rfl rfl qJ e2z (zI rfl (Pc.arr (Pc.here _) [] 0 dC) hf zY) (show 1*1≤16777216 from by decide) nP) rfl ?_
      rintro bj bl ⟨au,rfl,G⟩
      refine zDY rfl rfl (sC (ev1 rfl) call126 (fun w hs=>uE hs oM oM) fun dk dc M ax=>?_);obtain⟨rfl,bo⟩:=kH ax;refine fC rfl (bY rfl (fun _ _=>vH (pa:=([115]:List Nat)) (pb:=(jF (((↑i:Int):Int):Rat))) rfl rfl (by first|omega|(simp only[lAz,lC,lN,List.length_drop,List.length_take];omega))) rfl (fC rfl (bY rfl (fun _ _=>vH (pa:=(([115]:List Nat)++(jF (((↑i:Int):Int):Rat)))) (pb:=([46]:List Nat)) rfl rfl (by first|omega|(simp only[lAz,lC,lN,List.length_drop,List.length_take];omega))) rfl (zDY rfl rfl (sC (ev1 rfl) call126 (fun w hs=>uE hs oM oM) fun bi db J ac=>?_)))));obtain⟨rfl,ao⟩:=kH ac;refine fC rfl (bY rfl (fun _ _=>vH (pa:=((([115]:List Nat)++(jF (((↑i:Int):Int):Rat)))++([46]:List Nat))) (pb:=(jF (((↑q:Int):Int):Rat))) rfl rfl (by first|omega|(simp only[lAz,lC,lN,List.length_drop,List.length_take];omega))) rfl (zDZ ?_));replace O:=O.mono ((Y.trans M).trans J);replace G:=G.mono (M.trans J)
   case' x3=>
    refine kU (fun X=>zW (ρ:=rpI) (m:=4) (xs:=(lU (U.getD i []) q H)) (ps':=[(0,_),(1,_),(2,_),(3,_)]) underlying32 gJ rfl rfl rfl wG e8 (zI rfl (Pc.arr (Pc.here _) (0:Int) 0 dC) (qD oM oM) (zI rfl (Pc.arr (Pc.here _) (0:Int) 1 dC) (qD oM oM) (zI rfl (Pc.arr (Pc.here _) (0:Int) 2 dC) (qD oM oM) (zI rfl (Pc.arr (Pc.here _) (0:Int) 3 dC) (qD oM oM) zY)))) (show 4*1≤16777216 from by decide) nP) rfl ?_
    rintro fc fv ⟨ep,rfl,D⟩
    refine zFO rfl rfl rfl rfl ?x14 ?x15
    case' x14=>
     refine sC (ev2 rfl rfl) call44 (fun w hs=>w8 hs dn dm oM) fun ix ra av ay=>?_;replace ay:=Rp.Is.le ay (Le.q (l:=15*k+15*l1+15*l2+93) oM);refine fC rfl ?_;replace bk:=bk.mono av;refine xX rfl (xV (ρ:=(tPl (4*k+4*l1+4*l2+23) (15*k+15*l1+15*l2+93))) (wD (ps':=[(0,_),(1,_)]) underlying80 mC rfl rfl (bE underlying80) e4z rfl (yL (xY (yH oM)) (yH oM)) (zI rfl (Pc.fst (Pc.here _)) bk (zI rfl (Pc.snd (Pc.here _)) ay zY)))) fun iw O=>?_;refine zFO rfl rfl rfl rfl ?x16 ?x17
     case' x16=>
      refine sC (ev1 rfl) call126 (fun w hs=>uE hs oM oM) fun dk gj Y ax=>?_;obtain⟨rfl,bo⟩:=kH ax;refine fC rfl (bY rfl (fun _ _=>vH (pa:=([115]:List Nat)) (pb:=(jF (((↑i:Int):Int):Rat))) rfl rfl (by first|omega|(simp only[lAz,lC,lN,List.length_drop,List.length_take];omega))) rfl (fC rfl (bY rfl (fun _ _=>vH (pa:=(([115]:List Nat)++(jF (((↑i:Int):Int):Rat)))) (pb:=([46]:List Nat)) rfl rfl (by first|omega|(simp only[lAz,lC,lN,List.length_drop,List.length_take];omega))) rfl ?_)));refine zFO rfl rfl rfl rfl ?x18 ?x19
      case' x18=>
       refine sC (ev1 rfl) call126 (fun w hs=>uE hs oM oM) fun bi dc M ac=>?_;obtain⟨rfl,ao⟩:=kH ac;refine fC rfl (bY rfl (fun _ _=>vH (pa:=((([115]:List Nat)++(jF (((↑i:Int):Int):Rat)))++([46]:List Nat))) (pb:=(jF (((↑q:Int):Int):Rat))) rfl rfl (by first|omega|(simp only[lAz,lC,lN,List.length_drop,List.length_take];omega))) rfl (zPE rfl rfl ?_));replace D:=D.mono ((av.trans Y).trans M);refine vG (A:=[]) (ρ:=rpI) D dK ?_;intro db J hd;refine kU (fun X=>zW (ρ:=(rpS rpI)) (m:=1) (xs:=[(lU (U.getD i []) q H)]) (ps':=[(0,_)]) underlying81 jU rfl rfl rfl qJ e2z (zI rfl (Pc.arr (Pc.here _) [] 0 dC) hd zY) (show 1*1≤16777216 from by decide) nP) rfl ?_;intro bj bl ah;obtain⟨au,rfl,G⟩:=ah;refine zDZ ?_;replace O:=O.mono ((Y.trans M).trans J)
      case' x19=>
       replace D:=D.mono (av.trans Y);refine vG (A:=[]) (ρ:=rpI) D dK ?_;intro dc M hc;refine kU (fun X=>zW (ρ:=(rpS rpI)) (m:=1) (xs:=[(lU (U.getD i []) q H)]) (ps':=[(0,_)]) underlying81 jU rfl rfl rfl qJ e2z (zI rfl (Pc.arr (Pc.here _) [] 0 dC) hc zY) (show 1*1≤16777216 from by decide) nP) rfl ?_;intro bj bl ah;obtain⟨au,rfl,G⟩:=ah;refine zDY rfl rfl (sC (ev1 rfl) call126 (fun w hs=>uE hs oM oM) fun bi db J ac=>?_);obtain⟨rfl,ao⟩:=kH ac;refine fC rfl (bY rfl (fun _ _=>vH (pa:=((([115]:List Nat)++(jF (((↑i:Int):Int):Rat)))++([46]:List Nat))) (pb:=(jF (((↑q:Int):Int):Rat))) rfl rfl (by first|omega|(simp only[lAz,lC,lN,List.length_drop,List.length_take];omega))) rfl (zDZ ?_));replace O:=O.mono ((Y.trans M).trans J);replace G:=G.mono J
     case' x17=>
      replace D:=D.mono av;refine vG (A:=[]) (ρ:=rpI) D dK ?_;intro gj Y hb;refine kU (fun X=>zW (ρ:=(rpS rpI)) (m:=1) (xs:=[(lU (U.getD i []) q H)]) (ps':=[(0,_)]) underlying81 jU rfl rfl rfl qJ e2z (zI rfl (Pc.arr (Pc.here _) [] 0 dC) hb zY) (show 1*1≤16777216 from by decide) nP) rfl ?_;intro bj bl ah;obtain⟨au,rfl,G⟩:=ah;refine zDY rfl rfl (sC (ev1 rfl) call126 (fun w hs=>uE hs oM oM) fun dk dc M ax=>?_);obtain⟨rfl,bo⟩:=kH ax;refine fC rfl (bY rfl (fun _ _=>vH (pa:=([115]:List Nat)) (pb:=(jF (((↑i:Int):Int):Rat))) rfl rfl (by first|omega|(simp only[lAz,lC,lN,List.length_drop,List.length_take];omega))) rfl (fC rfl (bY rfl (fun _ _=>vH (pa:=(([115]:List Nat)++(jF (((↑i:Int):Int):Rat)))) (pb:=([46]:List Nat)) rfl rfl (by first|omega|(simp only[lAz,lC,lN,List.length_drop,List.length_take];omega))) rfl (zDY rfl rfl (sC (ev1 rfl) call126 (fun w hs=>uE hs oM oM) fun bi db J ac=>?_)))));obtain⟨rfl,ao⟩:=kH ac;refine fC rfl (bY rfl (fun _ _=>vH (pa:=((([115]:List Nat)++(jF (((↑i:Int):Int):Rat)))++([46]:List Nat))) (pb:=(jF (((↑q:Int):Int):Rat))) rfl rfl (by first|omega|(simp only[lAz,lC,lN,List.length_drop,List.length_take];omega))) rfl (zDZ ?_));replace O:=O.mono ((Y.trans M).trans J);replace G:=G.mono (M.trans J)
    case' x15=>
     refine vG (A:=[]) (ρ:=rpI) D dK ?_;intro ra av ha;refine kU (fun X=>zW (ρ:=(rpS rpI)) (m:=1) (xs:=[(lU (U.getD i []) q H)]) (ps':=[(0,_)]) underlying81 jU rfl rfl rfl qJ e2z (zI rfl (Pc.arr (Pc.here _) [] 0 dC) ha zY) (show 1*1≤16777216 from by decide) nP) rfl ?_
     rintro bj bl ⟨au,rfl,G⟩
     refine zDY rfl rfl ?_;replace dn:=dn.mono av;replace dm:=dm.mono av;refine sC (ev2 rfl rfl) call44 (fun w hs=>w8 hs dn dm oM) fun ix gj Y ay=>?_;replace ay:=Rp.Is.le ay (Le.q (l:=15*k+15*l1+15*l2+93) oM);refine fC rfl ?_;replace bk:=bk.mono (av.trans Y);refine xX rfl (xV (ρ:=(tPl (4*k+4*l1+4*l2+23) (15*k+15*l1+15*l2+93))) (wD (ps':=[(0,_),(1,_)]) underlying80 mC rfl rfl (bE underlying80) e4z rfl (yL (xY (yH oM)) (yH oM)) (zI rfl (Pc.fst (Pc.here _)) bk (zI rfl (Pc.snd (Pc.here _)) ay zY)))) fun iw O=>(zDY rfl rfl (sC (ev1 rfl) call126 (fun w hs=>uE hs oM oM) fun dk dc M ax=>?_));obtain⟨rfl,bo⟩:=kH ax;refine fC rfl (bY rfl (fun _ _=>vH (pa:=([115]:List Nat)) (pb:=(jF (((↑i:Int):Int):Rat))) rfl rfl (by first|omega|(simp only[lAz,lC,lN,List.length_drop,List.length_take];omega))) rfl (fC rfl (bY rfl (fun _ _=>vH (pa:=(([115]:List Nat)++(jF (((↑i:Int):Int):Rat)))) (pb:=([46]:List Nat)) rfl rfl (by first|omega|(simp only[lAz,lC,lN,List.length_drop,List.length_take];omega))) rfl (zDY rfl rfl (sC (ev1 rfl) call126 (fun w hs=>uE hs oM oM) fun bi db J ac=>?_)))));obtain⟨rfl,ao⟩:=kH ac;refine fC rfl (bY rfl (fun _ _=>vH (pa:=((([115]:List Nat)++(jF (((↑i:Int):Int):Rat)))++([46]:List Nat))) (pb:=(jF (((↑q:Int):Int):Rat))) rfl rfl (by first|omega|(simp only[lAz,lC,lN,List.length_drop,List.length_take];omega))) rfl (zDZ ?_));replace G:=G.mono ((Y.trans M).trans J);replace O:=O.mono (M.trans J)
   all_goals
    refine w_c rfl (vG (A:=[]) (ρ:=(rpS rpI)) G dK ?_);intro h18 gf gz;replace O:=O.mono gf;refine sX (xV (ρ:=(tFc (4*k+4*l1+4*l2+23) (15*k+15*l1+15*l2+93))) (wD (ps':=[(0,_),(1,_),(2,_)]) underlying83 jB rfl rfl (lF underlying83) e6z rfl (yL (yL (xY (yH oM)) (yH oM)) (yL qJ kO)) (zI rfl (Pc.fst (Pc.here _)) O (zI rfl (Pc.snd (Pc.fst (Pc.here _))) gz (zI rfl (Pc.snd (Pc.snd (Pc.here _))) (bP ((((show ByB [115] by unfold ByB;decide).app bo).app (show ByB [46] by unfold ByB;decide)).app ao)) zY))))) fun uy ny=>?_;refine w_c rfl (kU (fun X=>zW (ρ:=(tFc (4*k+4*l1+4*l2+23) (15*k+15*l1+15*l2+93))) (m:=1) (xs:=[(((nU PP ab (U.getD i []) q),jH (nU PP ab (U.getD i []) q) (pU PP ab ((U.getD i []).getD q 0))),([(lU (U.getD i []) q H)],(((([115]:List Nat)++(jF (((↑i:Int):Int):Rat)))++([46]:List Nat))++(jF (((↑q:Int):Int):Rat)))))]) (ps':=[(0,_)]) underlying47 jB rfl rfl rfl (yL (yL (xY (yH oM)) (yH oM)) (yL qJ kO)) e2z (zI rfl (Pc.arr (Pc.here _) zA 0 dC) ny zY) (show 1*14≤16777216 from by decide) nP) rfl ?_)
    rintro ux ya ⟨ud,rfl,kh⟩
    refine w_c rfl (vG (A:=[]) (ρ:=(tFc (4*k+4*l1+4*l2+23) (15*k+15*l1+15*l2+93))) kh dK ?_);intro tp jc gy;replace bt:=bt.mono (((((((ew.trans ev).trans av).trans Y).trans M).trans J).trans gf).trans jc);refine sR (A:=[_,_,_,_]) (fun X=>jN (yF (ρ:=(tFc (4*k+4*l1+4*l2+40) (100*k+100*l1+100*l2+1000))) (bytes:=264) underlying47 jB rfl rfl rfl rfl nP rfl rfl bt (gy.le (Le.s (Le.p (Le.p (Le.t (Le.q (l:=4*k+4*l1+4*l2+40) oM)) (Le.q (l:=100*k+100*l1+100*l2+1000) oM)) (Le.refl _)))) bO bO)) rfl (wN (by first|(simp;done)|grind)) ?_
    rintro mu xz ⟨fy,mi,rfl,kg⟩
    refine xK rfl (fun _ _=>(xW underlying50 rfl sizeOf47 rfl).cv (show _=vP T 1 from congrArg (vP T) (by rfl))) rfl ?_;replace ai:=ai.mono (((((av.trans Y).trans M).trans J).trans gf).trans jc);refine yK (A:=[_,_,_,_,_,_,_,_,_,_,_]) rfl (uB sizeOf47 (Pc.snd (Pc.fst pH)) ai (zDD fy)) fun iu ic=>(rM (tU (wU (e':=[(6,_),(10,_),(13,_),(20,_),(24,_),(25,_),(26,_),(29,_)]) e8 (zH (zE (mv rfl rfl (gv (yA (q:=1) rfl rfl oM oM) rfl (asg rfl rfl (zR (vT (A:=[]) (vT (A:=[]) ?_)))))))))));refine gqL ((q+1),(F1++[(((nU PP ab (U.getD i []) q),jH (nU PP ab (U.getD i []) q) (pU PP ab ((U.getD i []).getD q 0))),([(lU (U.getD i []) q H)],(((([115]:List Nat)++(jF (((↑i:Int):Int):Rat)))++([46]:List Nat))++(jF (((↑q:Int):Int):Rat)))))]),iu,mu,mi,tp) ?_ ?_
    · exact⟨mle,ic,kg,fy,by omega,by rw[lw,gh,ce,bg,List.append_assoc];rfl⟩
    omega
  have ef:q=(U.getD i []).length:=by omega
  refine kX (uH (uH (kW (tU (zH (zE (mv rfl rfl (gv (yA (q:=1) rfl rfl oM oM) rfl (asg rfl rfl (zR ?_))))))))));refine gqL ((i+1),F1,(C0++[zJ2 (U.getD i []) (U.getD i []).length]),(T0++[TL]),bw,dj,fa,ab,bv,fd,eq,iy,gm,mf) ?_ ?_
  · exact⟨mle,ai,ie.up,id.up,bt,il,km.up,ga,ki.up,fz,by omega,by rw[ir,ce];rfl,by rw[im,lu,ek,ce];rfl,by rw[lw,ef,ce];rfl⟩
  omega
 have tr:i=(bxZ L).length:=by rw[zZZ];omega
 rw[tr] at ir im iq;refine kX (uH (uH (kW (zH (zM (zE (gv ((xW underlying50 rfl sizeOf47 rfl).cv (show _=vP T 1 from congrArg (vP T) (by rfl))) rfl (lX (aQ (xB tM (Pc.snd (Pc.fst pH)) ca)) fun uw nw=>?_))))))));subst nw;refine yJ (A:=[_]) (ρ:=(rpS rpI)) co ?_;intro h8 bq gx;replace be:=be.mono bq;have cw:(tFc 5 (l1+l2+5)).R h8 de (((T3.mk (0:Rat) (0:Rat) (-((1:Int):Rat)),-lo),(am,[98,111,116,116,111,109])).1,(C0,(((T3.mk (0:Rat) (0:Rat) (-((1:Int):Rat)),-lo),(am,[98,111,116,116,111,109])).2).2)):=zJK be gx;replace bn:=bn.mono bq;refine yJ (A:=[]) (ρ:=(rpS rpI)) bn ?_;intro h9 cd gw;replace aq:=aq.mono (bq.trans cd);have ib:(tFc 5 (l1+l2+5)).R h9 cg (((T3.mk (0:Rat) (0:Rat) ((1:Int):Rat),hi),(aj,[116,111,112])).1,(T0,(((T3.mk (0:Rat) (0:Rat) ((1:Int):Rat),hi),(aj,[116,111,112])).2).2)):=zJK aq gw;replace cw:=cw.mono cd;refine lX (xB fR pH cw) fun uv nv=>(lX (xB fR pH ib) fun ut nu=>(zF (zW (ρ:=(tFc 5 (l1+l2+5))) (m:=2) (xs:=[(((T3.mk (0:Rat) (0:Rat) (-((1:Int):Rat)),-lo),(am,[98,111,116,116,111,109])).1,(C0,(((T3.mk (0:Rat) (0:Rat) (-((1:Int):Rat)),-lo),(am,[98,111,116,116,111,109])).2).2)),(((T3.mk (0:Rat) (0:Rat) ((1:Int):Rat),hi),(aj,[116,111,112])).1,(T0,(((T3.mk (0:Rat) (0:Rat) ((1:Int):Rat),hi),(aj,[116,111,112])).2).2))]) (ps':=[(0,_),(1,_)]) underlying47 jB rfl rfl rfl (yL (yL (xY (yH dC)) (yH oM)) (yL qJ kO)) e4z (zI rfl (Pc.arr (Pc.here _) zA 0 dC) nv (zI rfl (Pc.arr (Pc.here _) zA 1 dC) nu zY)) (show 2*14≤16777216 from by decide) nP) rfl rfl rfl ?_))
 rintro ur xy ⟨uc,rfl,kf⟩
 refine yJ (A:=[]) (ρ:=(tFc 5 (l1+l2+5))) kf ?_;intro lz bm gu;replace cp:=cp.mono ((bq.trans cd).trans bm);refine xT (A:=[]) (jN (yF (ρ:=(tFc (4*k+4*l1+4*l2+40) (100*k+100*l1+100*l2+1000))) (bytes:=264) underlying47 jB rfl rfl rfl rfl nP rfl rfl cp (gu.le (Le.s (Le.p (Le.p (Le.t (Le.q (l:=4*k+4*l1+4*l2+40) oM)) (Le.q (l:=100*k+100*l1+100*l2+1000) oM)) (Le.refl _)))) bO bO)) rfl rfl rfl ?_
 rintro uq xx ⟨li,tw,rfl,ke⟩
 refine gv ((xW underlying50 rfl sizeOf47 rfl).cv (show _=vP T 1 from congrArg (vP T) (by rfl))) rfl ?_;replace ca:=ca.mono ((bq.trans cd).trans bm);refine zS (A:=[_,_,_,_,_,_,_]) (uB sizeOf47 (Pc.snd (Pc.fst pH)) ca (zDD li)) fun ez cu=>(zR (wU (e':=[(6,_),(10,_)]) e2z (zH (zM (zE (yJ (A:=[]) (ρ:=(tFc (4*k+4*l1+4*l2+40) (100*k+100*l1+100*l2+1000))) ke ?_))))));intro gk cn gt;replace cu:=cu.mono cn;have ia:(tSd (k+l1+l2+5) (4*k+4*l1+4*l2+40) (100*k+100*l1+100*l2+1000) 1).R gk ez ((PP,(aw,([]:List En))).1,((F0++[(((T3.mk (0:Rat) (0:Rat) (-((1:Int):Rat)),-lo),(am,[98,111,116,116,111,109])).1,(C0,(((T3.mk (0:Rat) (0:Rat) (-((1:Int):Rat)),-lo),(am,[98,111,116,116,111,109])).2).2)),(((T3.mk (0:Rat) (0:Rat) ((1:Int):Rat),hi),(aj,[116,111,112])).1,(T0,(((T3.mk (0:Rat) (0:Rat) ((1:Int):Rat),hi),(aj,[116,111,112])).2).2))]),((PP,(aw,([]:List En))).2).2)):=zJK cu gt;have hz:(tSd (k+l1+l2+5) (4*k+4*l1+4*l2+40) (100*k+100*l1+100*l2+1000) 1).R gk ez (prR L lo hi):=Rp.castR ia (by rw[iq,gh,ir,im];rfl);refine lX (xB kF pH hz) fun uo nt=>?_;refine qV (vs:=[_]) rfl rfl rfl rfl call82 ⟨rfl,trivial⟩ (fun w hs=>zCU hs nt oM oM oM (by first|omega|exact hcd4 qv)) ?_;intro un ly yv ew dl;obtain⟨rh,it,dl,rfl,ik,bs⟩:=dl
 change RL (tFc (4*(4*k+4*l1+4*l2+40)+12) ((4*k+4*l1+4*l2+40)+(100*k+100*l1+100*l2+1000)+12)) ly it (nrF (prR L lo hi)) at bs
 replace dl:=Rp.Is.le dl (Le.p (Le.s (Le.t (Le.q (l:=k+l1+l2+6) oM))) (Le.p (Le.refl _) (Le.s (Le.p (Le.refl _) (Le.p (Le.refl _) (Le.q (l:=2) oM))))));replace bs:=(Le.p (Le.p (Le.t (Le.q (l:=16*k+16*l1+16*l2+172) oM)) (Le.q (l:=104*k+104*l1+104*l2+1052) oM)) (Le.refl _)).rl bs;replace bf:=bf.mono ((((((((((((((dr.trans ed).trans dq).trans cc).trans bp).trans an).trans cj).trans da).trans ge).trans iz).trans bq).trans cd).trans bm).trans cn).trans ew);have go:=(Le.p (Le.s (Le.t (Le.q (l:=k+l1+l2+6) oM))) (Le.p (Le.refl _) (Le.s (Le.p (Le.refl _) (Le.p (Le.refl _) (Le.q (l:=2) dC)))))).R bf;refine zS (A:=[_,_,_,_,_,_,_,_]) (uB sizeOf50 pH go dl) fun rc hy=>(asg (v:=vI (0)) rfl rfl (zR (zH (bQ ?_))));rw[qv,qu,ti];refine wM (kA (t:=6) kF (.tail _ mh7) rfl hy) ?_;intro rf fw hw;refine gX (.cons_cons _ (List.nil_sublist _)) (fun E S=>vV rfl fw (jQ rfl) E S) ?_;exact⟨_,_,_,rfl,(Rp.Is.cast (Rp.Is.le hw (Le.p (Le.s (Le.t (Le.q (l:=k+l1+l2+20) oM))) (Le.p (Le.refl _) (Le.s (Le.p (Le.refl _) (Le.p (Le.refl _) (Le.q (l:=5) dC))))))) (by rw[show nrE (prR L lo hi)=[] from by unfold nrE;split<;>rfl])),rfl,ik,((Le.p (Le.p (Le.t (Le.q (l:=1000*k+1000*l1+1000*l2+2000) oM)) (Le.q (l:=1000*k+1000*l1+1000*l2+2000) oM)) (Le.refl _)).rl bs)⟩
end Go.Proofs.YtboaboflnckgoaaGreat
namespace Bk
set_option linter.unusedVariables false
set_option linter.unusedSimpArgs false
open Classical
def mZ{α:Type}(f:α→α)(d:α)(A:List α):Nat→List α
  |0=>A
  |k+1=>(mZ f d A k).set k (f ((mZ f d A k).getD k d))
theorem eD{α:Type}(f:α→α)(d:α)(A:List α):∀k,(mZ f d A k).length=A.length
  |0=>rfl
  |k+1=>by
   show List.length (List.set _ _ _)=_
   rw[lS];exact eD f d A k
theorem zB4{α:Type}(f:α→α)(d:α)(A:List α):∀k i,i<A.length→(mZ f d A k).getD i d=if i<k then f (A.getD i d) else A.getD i d
  |0,i,_=>rfl
  |k+1,i,h=>by
   show(List.set _ k _).getD i d=_
   rw[List.getD_eq_getElem?_getD,List.getElem?_set]
   split
   · rename_i e
     subst e;rw[if_pos (by rw[eD];exact h),if_pos (by omega),zB4 f d A k k h,if_neg (by omega)];rfl
   · rename_i e
     rw[←List.getD_eq_getElem?_getD,zB4 f d A k i h]
     by_cases h1:i<k
     · rw[if_pos h1,if_pos (by omega)]
     · rw[if_neg h1,if_neg (by omega)]
theorem zTM{α:Type}(f:α→α)(d:α)(A:List α):mZ f d A A.length=A.map f:=by
 refine List.ext_getElem (by rw[eD,List.length_map]) fun i u z=>?_;rw[eD] at u;have:=zB4 f d A A.length i u;rw[if_pos u,List.getD_eq_getElem?_getD,List.getElem?_eq_getElem (by rw[eD];exact u)] at this;rw[List.getD_eq_getElem?_getD,List.getElem?_eq_getElem u] at this;rw[List.getElem_map];exact this
noncomputable def rnN(n:List Nat):List Nat:=if n=[98,111,116,116,111,109] then[122,48] else if n=[116,111,112] then[122,49] else if n=[115,48,46,48] then[121,48] else if n=[115,48,46,49] then[120,49] else if n=[115,48,46,50] then[121,49] else if n=[115,48,46,51] then[120,48] else n
noncomputable def rnF(f:Fc):Fc:=(f.1,(f.2.1,rnN f.2.2))
theorem zJP{F F0:List Fc}{i:Nat}{nm:List Nat}(hF:F=mZ rnF zA F0 i)(h:rnN (F.getD i zA).2.2=nm):F.set i ((F.getD i zA).1,((F.getD i zA).2.1,nm))=mZ rnF zA F0 (i+1):=by
 subst hF;subst h;rfl
theorem yAD{F F0:List Fc}{i:Nat}(hF:F=mZ rnF zA F0 i)(h:rnN (F.getD i zA).2.2=(F.getD i zA).2.2)(hi:i<F.length):F=mZ rnF zA F0 (i+1):=by
 rw[←zJP hF h]
 show F=F.set i (F.getD i zA)
 rw[List.getD_eq_getElem?_getD,List.getElem?_eq_getElem hi];exact(List.set_getElem_self hi).symm
section
variable (a b:Pt)
def mV:Prop:=∀u,u<3→¬0≤wH (a.at u) (b.at u)
def blL:List (List Pt):=[[T3.mk a.x a.y (0:Rat),T3.mk b.x a.y (0:Rat),T3.mk b.x b.y (0:Rat),T3.mk a.x b.y (0:Rat)]]
noncomputable def blG:List Fc:=mZ rnF zA (prF (blL a b) a.z b.z) (prF (blL a b) a.z b.z).length
noncomputable def blS:Sd:=(prP (blL a b) a.z b.z,blG a b,[])
noncomputable def blP:List Pt:=if mV a b then nrP (blS a b) else[]
noncomputable def blF:List Fc:=if mV a b then nrF (blS a b) else[]
noncomputable def blE:Int:=if mV a b then prE (blL a b) a.z b.z else 9
def blH:Prop:=(∀x,x∈blL a b→nF x)∧(prE (blL a b) a.z b.z=0→okS (prR (blL a b) a.z b.z))∧okS (blS a b)
end
theorem zUO{L:List (List Pt)}{lo hi:Rat}(h:prE L lo hi=0→okS (prR L lo hi)):(prF L lo hi).length≤1000:=by
 unfold prF
 split
 · rename_i h0
   unfold nrF
   split
   · rw[zK0];exact(h h0).1.1.2
   · exact Nat.zero_le _
 · exact Nat.zero_le _
theorem bl_9{a b:Pt}(h:¬mV a b):blE a b=9∧blP a b=[]∧blF a b=[]:=⟨if_neg h,if_neg h,if_neg h⟩
theorem zVZ{a b:Pt}(h:mV a b):blE a b=prE (blL a b) a.z b.z∧blP a b=nrP (blS a b)∧blF a b=nrF (blS a b):=⟨if_pos h,if_pos h,if_pos h⟩
end Bk
namespace Go.Proofs.YtboaboflnckgoaaGreat
open Bk Go Tryz
set_option linter.unusedVariables false
set_option linter.unusedSimpArgs false
set_option maxRecDepth 10000
set_option maxHeartbeats 1000000
attribute [local irreducible] GL GC GQ W OpV
set_option maxHeartbeats 1000000 in
theorem zE1{w0:World}{h0:Mem}(hs:MLe h0 (mem w0)){k l:Nat}{va:Value}{a:Tq}(ra:(tPt k).Is h0 va a){vb:Value}{b:Tq}(rb:(tPt l).Is h0 vb b)(hcd0:k≤5)(hcd1:l≤5)(hcd2:mV a b→blH a b):
 Calls Tryz.prog 35 #[va,vb] w0 (sQ w0 h0 (fun h r L_=>∃u0 vF cs,r=.tuple #[u0,vI (blE a b)]∧(rpP (tLs (2*k+2*l+40)) (rpP rpV (rpS (rpP rpI (rpP rpI (rpQ 6)))))).Is h u0 (blP a b,(vF,[]))∧L_=[.gs 83 14 vF (blF a b).length cs]∧vF.oneCell'=true∧RL (tFc (10000*k+10000*l+20000) (10000*k+10000*l+20000)) h cs (blF a b))):=by
 refine cb2 102 va vb func35 hs ?_;refine go2 ?_;refine nB ra fun b2 cg ai=>(nB rb fun b3 cf ah=>(nA (ρ:=(rpP (tLs 1) (rpP rpV (rpS (rpP rpI (rpP rpI (rpQ 1))))))) (X:=([],((Value.slice none 0 0),[]))) tO (yL qJ (yL cI qJ)) fun b4 ce bz=>(uQ ?_)));refine gcL (ι:=Nat×Mem) (fun(i,ma)=>(MLe h0 ma∧(i≤3∧∀u,u<i→¬0≤wH (a.at u) (b.at u)),[(2,vP b2 0),(3,vP b3 0),(4,vP b4 0),(6,vI ↑i)],[.var b4 50 ce,.var b3 53 cf,.var b2 53 cg],ma,3-i)) (0,h0) ?_ ?_
 · exact⟨mle,by omega,fun u h=>by omega⟩
 rintro⟨i,ma⟩ ⟨du,fe,hi2⟩
 refine yU ?_;refine gc7 (fun cd=>?_) fun cd=>?_
 ·
  refine go5 ?_;refine zK 8 _ [] [(0,.q),(1,.q),(2,.q),(3,.q),(4,.q),(5,.q),(6,.c),(7,.q)] yC nX (by kernel_rfl) nX (fun r hr=>hr) (go1 ?_);refine xK rfl (fun _ _=>(zX (sz:=3) i underlying53 sizeOf26 rfl rfl rfl oM).cv (show _=vP b2 ((i*3+0)) from congrArg (vP b2) oM)) rfl (wX rfl (xB yB (Pc.ta pH i oM) ai) fun ez dk=>(go1 ?_));refine xK rfl (fun _ _=>(zX (sz:=3) i underlying53 sizeOf26 rfl rfl rfl oM).cv (show _=vP b3 ((i*3+0)) from congrArg (vP b3) oM)) rfl (wX rfl (xB yB (Pc.ta pH i oM) ah) fun ey dj=>?_);refine w_c rfl (sC (ev2 rfl rfl) call18 (fun w hs=>kB hs dk dj oM) fun ci h1 dm di=>?_);obtain rfl:ci=vI (wH (a.at i) (b.at i)):=di;have dn:=jC (a.at i) (b.at i);refine gc3 (fun an=>?_) fun an=>?_
  ·
   refine go2 ?_;refine lX (xV (ρ:=(rpP (tLs 1) (rpP rpV (rpS (rpP rpI (rpP rpI (rpQ 1))))))) (wD (ps':=[]) underlying50 tO rfl rfl (bF underlying50) trivial rfl (yL qJ (yL cI qJ)) zY)) fun ew dh=>(zS (A:=[]) (uB sizeOf50 pH bz dh) fun dv bx=>(go9 ?_));obtain⟨e1,e2,e3⟩:=bl_9 (a:=a) (b:=b) (fun e=>e i oM an);rw[e1,e2,e3];refine cY 83 14 ?_;have bu:=RL.nil (ρ:=rpP (tPl (10000*k+10000*l+20000) (10000*k+10000*l+20000)) (rpP tII fD)) (h:=h1);refine wM (kA (t:=4) kF mh1 rfl bx) ?_;intro dz bg bt;refine gX (.cons_cons _ (List.nil_sublist _)) (fun E S=>vV rfl bg (jQ rfl) E S) ?_;exact⟨_,_,_,rfl,(Rp.Is.le bt (Le.p (Le.s (Le.t (Le.q (l:=2*k+2*l+40) oM))) (Le.p (Le.refl _) (Le.s (Le.p (Le.refl _) (Le.p (Le.refl _) (Le.q (l:=6) dC))))))),rfl,rfl,bu⟩
  refine go8 ?_;refine gqL ((i+1),h1) ?_ ?_
  · exact⟨mle,by omega,qL (Q:=fun u=>¬0≤wH (a.at u) (b.at u)) hi2 an⟩
  omega
 have ca:mV a b:=fun u hu=>hi2 u oM;have aj:=hcd2 ca;have fi:=zUO aj.2.1;refine go8 ?_;refine lX (xB yB (Pc.tx pH) ai) fun ev df=>(go1 ?_);refine lX (xB yB (Pc.ty pH) ai) fun eu de=>(lX (xV (ρ:=(tPt (k+1))) (xD (ps':=[(0,_),(1,_)]) underlying53 yW rfl rfl sizeOf26 e4z rfl (xY (yH oM)) (zI rfl (Pc.tx (Pc.here _)) (df.le (Le.q (l:=k+1) oM)) (zI rfl (Pc.ty (Pc.here _)) (de.le (Le.q (l:=k+1) oM)) zY)))) fun et dd=>(go1 ?_));refine lX (xB yB (Pc.tx pH) ah) fun es dc=>(go1 ?_);refine lX (xB yB (Pc.ty pH) ai) fun er db=>(lX (xV (ρ:=(tPt (k+l+1))) (xD (ps':=[(0,_),(1,_)]) underlying53 yW rfl rfl sizeOf26 e4z rfl (xY (yH oM)) (zI rfl (Pc.tx (Pc.here _)) (dc.le (Le.q (l:=k+l+1) oM)) (zI rfl (Pc.ty (Pc.here _)) (db.le (Le.q (l:=k+l+1) oM)) zY)))) fun eq da=>(go1 ?_));refine lX (xB yB (Pc.tx pH) ah) fun ep cz=>(go1 ?_);refine lX (xB yB (Pc.ty pH) ah) fun eo cy=>(lX (xV (ρ:=(tPt (l+1))) (xD (ps':=[(0,_),(1,_)]) underlying53 yW rfl rfl sizeOf26 e4z rfl (xY (yH oM)) (zI rfl (Pc.tx (Pc.here _)) (cz.le (Le.q (l:=l+1) oM)) (zI rfl (Pc.ty (Pc.here _)) (cy.le (Le.q (l:=l+1) oM)) zY)))) fun en cw=>(go1 ?_));refine lX (xB yB (Pc.tx pH) ai) fun em cu=>(go1 ?_);refine lX (xB yB (Pc.ty pH) ah) fun el ct=>(lX (xV (ρ:=(tPt (k+l+1))) (xD (ps':=[(0,_),(1,_)]) underlying53 yW rfl rfl sizeOf26 e4z rfl (xY (yH oM)) (zI rfl (Pc.tx (Pc.here _)) (cu.le (Le.q (l:=k+l+1) oM)) (zI rfl (Pc.ty (Pc.here _)) (ct.le (Le.q (l:=k+l+1) oM)) zY)))) fun ek cq=>(zF (zW (ρ:=(tPt (k+l+1))) (m:=4) (xs:=[(zZ a),(T3.mk b.x a.y (0:Rat)),(zZ b),(T3.mk a.x b.y (0:Rat))]) (ps':=[(0,_),(1,_),(2,_),(3,_)]) underlying46 yW rfl rfl rfl (xY (yH oM)) e8 (zI rfl (Pc.arr (Pc.here _) zT 0 dC) (dd.le (Le.t (Le.q (l:=k+l+1) oM))) (zI rfl (Pc.arr (Pc.here _) zT 1 dC) da (zI rfl (Pc.arr (Pc.here _) zT 2 dC) (cw.le (Le.t (Le.q (l:=k+l+1) oM))) (zI rfl (Pc.arr (Pc.here _) zT 3 dC) cq zY)))) (show 4*9≤16777216 from by decide) nP) rfl rfl rfl ?_))
 rintro ej fc ⟨dx,rfl,bw⟩
 refine yJ (A:=[]) (ρ:=(tPt (k+l+1))) bw ?_;intro h1 dm bs;refine zF (zW (ρ:=(tLs (k+l+1))) (m:=1) (xs:=[[(zZ a),(T3.mk b.x a.y (0:Rat)),(zZ b),(T3.mk a.x b.y (0:Rat))]]) (ps':=[(0,_)]) underlying115 zAP rfl rfl rfl qJ e2z (zI rfl (Pc.arr (Pc.here _) [] 0 dC) bs zY) (show 1*1≤16777216 from by decide) nP) rfl rfl rfl ?_
 rintro eh fb ⟨dw,rfl,bv⟩
 refine go1 ?_;refine lX (xB yB (Pc.tz pH) ai) fun eg cp=>(go1 ?_);refine lX (xB yB (Pc.tz pH) ah) fun ef co=>(yJ (A:=[]) (ρ:=(tLs (k+l+1))) bv ?_);intro h2 fh br;refine qV (vs:=[_,_,_]) rfl rfl rfl rfl call81 e3z (fun w hs=>zOG hs br cp.up co.up oM oM oM (by first|omega|exact aj.1|exact aj.2.1) (by first|omega|exact aj.1|exact aj.2.1)) ?_;intro ee h3 fl fg ak;obtain⟨fa,bq,ap,rfl,ak,rfl,cb,aa⟩:=ak
 change RL (tFc (1000*(k+l+1)+1000*k+1000*l+2000) (1000*(k+l+1)+1000*k+1000*l+2000)) h3 ap (prF [[(zZ a),(T3.mk b.x a.y (0:Rat)),(zZ b),(T3.mk a.x b.y (0:Rat))]] a.z b.z) at aa
 replace ak:=Rp.Is.le ak (Le.p (Le.s (Le.t (Le.q (l:=2*k+2*l+21) oM))) (Le.refl _));replace aa:=(Le.p (Le.p (Le.t (Le.q (l:=2000*k+2000*l+3000) oM)) (Le.q (l:=2000*k+2000*l+3000) oM)) (Le.refl _)).rl aa;refine go3 ?_;refine nA (ρ:=(rpP (tLs 1) (rpP rpV (rpS (rpP rpI (rpP rpI (rpQ 1))))))) (X:=([],((Value.slice none 0 0),[]))) tO (yL qJ (yL cI qJ)) fun b7 fk cj=>?_;have ar:=(Le.p (Le.s (Le.t (Le.q (l:=2*k+2*l+21) oM))) (Le.p (Le.refl _) (Le.s (Le.p (Le.refl _) (Le.p (Le.refl _) (Le.q (l:=5) dC)))))).R cj;refine zS (A:=[]) (uB sizeOf50 pH ar ak) fun bp bf=>(uQ ?_);refine gcL (ι:=Nat×List Fc×List Value×Value×List Value×Mem) (fun(i,I,H,C,ab,mb)=>(MLe h3 mb∧((rpP (tLs (2*k+2*l+30)) (rpP rpV (rpS (rpP rpI (rpP rpI (rpQ 5)))))).R mb H (prP (blL a b) a.z b.z,(C,([]:List En)))∧RL (tFc (2000*k+2000*l+3000) (2000*k+2000*l+3000)) mb ab I∧C.oneCell'=true∧i≤(prF (blL a b) a.z b.z).length∧I=mZ rnF zA (prF (blL a b) a.z b.z) i),[(4,vP b4 0),(7,vP b7 0),(8,vI (prE [[(zZ a),(T3.mk b.x a.y (0:Rat)),(zZ b),(T3.mk a.x b.y (0:Rat))]] a.z b.z)),(9,vI ↑i)],[.var b7 50 H,.gs 83 14 C I.length ab,.var b4 50 ce,.var b3 53 cf,.var b2 53 cg],mb,(prF (blL a b) a.z b.z).length-i)) (0,(prF (blL a b) a.z b.z),bp,bq,ap,h3) ?_ ?_
 · exact⟨mle,((Le.p (Le.s (Le.t (Le.q (l:=2*k+2*l+30) oM))) (Le.refl _)).R bf),aa,cb,by omega,rfl⟩
 rintro⟨i,I,H,C,ab,mb⟩ ⟨dt,G,D,J,fd,T⟩
 refine yU ?_;have fj:I.length=(prF (blL a b) a.z b.z).length:=by rw[T];exact eD _ _ _ _
 refine go5 ?_;refine lX (aQ (xB tM (Pc.snd (Pc.fst pH)) G)) fun ed cn=>?_;subst cn;refine gv (gA mh1 underlying47 rfl) rfl (gc3 (fun cc=>?_) fun cc=>?_)
 ·
  refine go7 ?_;refine lX (aQ (xB tM (Pc.snd (Pc.fst pH)) G)) fun ec cm=>?_;subst cm;refine go1 ?_;refine gv ((yZ i mh1 underlying47 sizeOf83 rfl rfl rfl bO nP).cv (show _=zL 1 C ((i*14+0)) from congrArg (zL 1 C) (by rfl))) rfl (go6 ?_);refine gv (sI (Pc.arr (Pc.here _) zA i bO) rfl nP D mh1 rfl) rfl (gv ((gV (Pc.arr (Pc.here _) zA i bO) rfl nP D mh1 underlying83 rfl sizeOf9 rfl).cv (show _=zL 1 C ((i*14+13)) from congrArg (zL 1 C) (by show(i*14+0)+13=(i*14+13);omega))) rfl (zEB (F:=fun v_=>fD.Is mb v_ (((I.getD i zA).2).2)) (wW ty9 (Pc.arr (Pc.snd (Pc.snd (Pc.here _))) zA i bO) rfl nP rfl D rfl) (tT mh1) rfl ?_));intro eb cl;obtain⟨rfl,Y⟩:=kH cl;refine go5 ?_;refine gv (lQ (pa:=(((I.getD i zA).2).2)) (pb:=([98,111,116,116,111,109]:List Nat)) Y (show ByB [98,111,116,116,111,109] by unfold ByB;decide) rfl rfl) rfl (gc3 (fun M=>?_) fun M=>?_)
  ·
   refine go2 ?_;refine gv (sI (Pc.arr (Pc.here _) zA i bO) rfl nP D mh1 rfl) rfl (gv ((gV (Pc.arr (Pc.here _) zA i bO) rfl nP D mh1 underlying83 rfl sizeOf9 rfl).cv (show _=zL 1 C ((i*14+13)) from congrArg (zL 1 C) (by show(i*14+0)+13=(i*14+13);omega))) rfl (gD (A:=[_]) (F:=fun c_=>RL (tFc (2000*k+2000*l+3000) (2000*k+2000*l+3000)) mb c_ (I.set i ((I.getD i zA).1,(((I.getD i zA).2).1,([122,48]:List Nat))))) (rQ sizeOf9 (Pc.arr (Pc.snd (Pc.snd (Pc.here _))) zA i bO) rfl nP rfl rfl D (bP (show ByB [122,48] by unfold ByB;decide)) rfl) ?_));intro bo bb;refine go9 ?_;refine gqL ((i+1),(I.set i ((I.getD i zA).1,(((I.getD i zA).2).1,([122,48]:List Nat)))),H,C,bo,mb) ?_ ?_
   · exact⟨mle,G,bb,J,by omega,zJP T (by unfold rnN;rw[if_pos M])⟩
   omega
  refine go2 ?_;refine gv (lQ (pa:=(((I.getD i zA).2).2)) (pb:=([116,111,112]:List Nat)) Y (show ByB [116,111,112] by unfold ByB;decide) rfl rfl) rfl (gc3 (fun O=>?_) fun O=>?_)
  ·
   refine go2 ?_;refine gv (sI (Pc.arr (Pc.here _) zA i bO) rfl nP D mh1 rfl) rfl (gv ((gV (Pc.arr (Pc.here _) zA i bO) rfl nP D mh1 underlying83 rfl sizeOf9 rfl).cv (show _=zL 1 C ((i*14+13)) from congrArg (zL 1 C) (by show(i*14+0)+13=(i*14+13);omega))) rfl (gD (A:=[_]) (F:=fun c_=>RL (tFc (2000*k+2000*l+3000) (2000*k+2000*l+3000)) mb c_ (I.set i ((I.getD i zA).1,(((I.getD i zA).2).1,([122,49]:List Nat))))) (rQ sizeOf9 (Pc.arr (Pc.snd (Pc.snd (Pc.here _))) zA i bO) rfl nP rfl rfl D (bP (show ByB [122,49] by unfold ByB;decide)) rfl) ?_));intro bn ba;refine go9 ?_;refine gqL ((i+1),(I.set i ((I.getD i zA).1,(((I.getD i zA).2).1,([122,49]:List Nat)))),H,C,bn,mb) ?_ ?_
   · exact⟨mle,G,ba,J,by omega,zJP T (by unfold rnN;rw[if_neg M,if_pos O])⟩
   omega
  refine go2 ?_;refine gv (lQ (pa:=(((I.getD i zA).2).2)) (pb:=([115,48,46,48]:List Nat)) Y (show ByB [115,48,46,48] by unfold ByB;decide) rfl rfl) rfl (gc3 (fun U=>?_) fun U=>?_)
  ·
   refine go2 ?_;refine gv (sI (Pc.arr (Pc.here _) zA i bO) rfl nP D mh1 rfl) rfl (gv ((gV (Pc.arr (Pc.here _) zA i bO) rfl nP D mh1 underlying83 rfl sizeOf9 rfl).cv (show _=zL 1 C ((i*14+13)) from congrArg (zL 1 C) (by show(i*14+0)+13=(i*14+13);omega))) rfl (gD (A:=[_]) (F:=fun c_=>RL (tFc (2000*k+2000*l+3000) (2000*k+2000*l+3000)) mb c_ (I.set i ((I.getD i zA).1,(((I.getD i zA).2).1,([121,48]:List Nat))))) (rQ sizeOf9 (Pc.arr (Pc.snd (Pc.snd (Pc.here _))) zA i bO) rfl nP rfl rfl D (bP (show ByB [121,48] by unfold ByB;decide)) rfl) ?_));intro bm az;refine go9 ?_;refine gqL ((i+1),(I.set i ((I.getD i zA).1,(((I.getD i zA).2).1,([121,48]:List Nat)))),H,C,bm,mb) ?_ ?_
   · exact⟨mle,G,az,J,by omega,zJP T (by unfold rnN;rw[if_neg M,if_neg O,if_pos U])⟩
   omega
  refine go2 ?_;refine gv (lQ (pa:=(((I.getD i zA).2).2)) (pb:=([115,48,46,49]:List Nat)) Y (show ByB [115,48,46,49] by unfold ByB;decide) rfl rfl) rfl (gc3 (fun ad=>?_) fun ad=>?_)
  ·
   refine go2 ?_;refine gv (sI (Pc.arr (Pc.here _) zA i bO) rfl nP D mh1 rfl) rfl (gv ((gV (Pc.arr (Pc.here _) zA i bO) rfl nP D mh1 underlying83 rfl sizeOf9 rfl).cv (show _=zL 1 C ((i*14+13)) from congrArg (zL 1 C) (by show(i*14+0)+13=(i*14+13);omega))) rfl (gD (A:=[_]) (F:=fun c_=>RL (tFc (2000*k+2000*l+3000) (2000*k+2000*l+3000)) mb c_ (I.set i ((I.getD i zA).1,(((I.getD i zA).2).1,([120,49]:List Nat))))) (rQ sizeOf9 (Pc.arr (Pc.snd (Pc.snd (Pc.here _))) zA i bO) rfl nP rfl rfl D (bP (show ByB [120,49] by unfold ByB;decide)) rfl) ?_));intro bl ay;refine go9 ?_;refine gqL ((i+1),(I.set i ((I.getD i zA).1,(((I.getD i zA).2).1,([120,49]:List Nat)))),H,C,bl,mb) ?_ ?_
   · exact⟨mle,G,ay,J,by omega,zJP T (by unfold rnN;rw[if_neg M,if_neg O,if_neg U,if_pos ad])⟩
   omega
  refine go2 ?_;refine gv (lQ (pa:=(((I.getD i zA).2).2)) (pb:=([115,48,46,50]:List Nat)) Y (show ByB [115,48,46,50] by unfold ByB;decide) rfl rfl) rfl (gc3 (fun ae=>?_) fun ae=>?_)
  ·
   refine go2 ?_;refine gv (sI (Pc.arr (Pc.here _) zA i bO) rfl nP D mh1 rfl) rfl (gv ((gV (Pc.arr (Pc.here _) zA i bO) rfl nP D mh1 underlying83 rfl sizeOf9 rfl).cv (show _=zL 1 C ((i*14+13)) from congrArg (zL 1 C) (by show(i*14+0)+13=(i*14+13);omega))) rfl (gD (A:=[_]) (F:=fun c_=>RL (tFc (2000*k+2000*l+3000) (2000*k+2000*l+3000)) mb c_ (I.set i ((I.getD i zA).1,(((I.getD i zA).2).1,([121,49]:List Nat))))) (rQ sizeOf9 (Pc.arr (Pc.snd (Pc.snd (Pc.here _))) zA i bO) rfl nP rfl rfl D (bP (show ByB [121,49] by unfold ByB;decide)) rfl) ?_));intro bk ax;refine go9 ?_;refine gqL ((i+1),(I.set i ((I.getD i zA).1,(((I.getD i zA).2).1,([121,49]:List Nat)))),H,C,bk,mb) ?_ ?_
   · exact⟨mle,G,ax,J,by omega,zJP T (by unfold rnN;rw[if_neg M,if_neg O,if_neg U,if_neg ad,if_pos ae])⟩
   omega
  refine go2 ?_;refine gv (lQ (pa:=(((I.getD i zA).2).2)) (pb:=([115,48,46,51]:List Nat)) Y (show ByB [115,48,46,51] by unfold ByB;decide) rfl rfl) rfl (gc3 (fun am=>?_) fun am=>?_)
  ·
   refine go2 ?_;refine gv (sI (Pc.arr (Pc.here _) zA i bO) rfl nP D mh1 rfl) rfl (gv ((gV (Pc.arr (Pc.here _) zA i bO) rfl nP D mh1 underlying83 rfl sizeOf9 rfl).cv (show _=zL 1 C ((i*14+13)) from congrArg (zL 1 C) (by show(i*14+0)+13=(i*14+13);omega))) rfl (gD (A:=[_]) (F:=fun c_=>RL (tFc (2000*k+2000*l+3000) (2000*k+2000*l+3000)) mb c_ (I.set i ((I.getD i zA).1,(((I.getD i zA).2).1,([120,48]:List Nat))))) (rQ sizeOf9 (Pc.arr (Pc.snd (Pc.snd (Pc.here _))) zA i bO) rfl nP rfl rfl D (bP (show ByB [120,48] by unfold ByB;decide)) rfl) ?_));intro bj aw;refine go9 ?_;refine gqL ((i+1),(I.set i ((I.getD i zA).1,(((I.getD i zA).2).1,([120,48]:List Nat)))),H,C,bj,mb) ?_ ?_
   · exact⟨mle,G,aw,J,by omega,zJP T (by unfold rnN;rw[if_neg M,if_neg O,if_neg U,if_neg ad,if_neg ae,if_pos am])⟩
   omega
  refine go9 ?_;refine gqL ((i+1),I,H,C,ab,mb) ?_ ?_
  · exact⟨mle,G,D,J,by omega,yAD T (by unfold rnN;rw[if_neg M,if_neg O,if_neg U,if_neg ad,if_neg ae,if_neg am]) oM⟩
  omega
 have ei:i=(prF (blL a b) a.z b.z).length:=by omega
 rw[ei] at T;refine go7 ?_;refine yJ (A:=[_]) (ρ:=(tFc (2000*k+2000*l+3000) (2000*k+2000*l+3000))) D ?_;intro h4 dl au;replace G:=G.mono dl;have be:(tSd (2*k+2*l+30) (2000*k+2000*l+3000) (2000*k+2000*l+3000) 5).R h4 H ((prP (blL a b) a.z b.z,(C,([]:List En))).1,(I,((prP (blL a b) a.z b.z,(C,([]:List En))).2).2)):=zJK G au;have bd:(tSd (2*k+2*l+30) (2000*k+2000*l+3000) (2000*k+2000*l+3000) 5).R h4 H (blS a b):=Rp.castR be (by rw[T];rfl);refine lX (xB kF pH bd) fun ea ck=>?_;refine qV (vs:=[_]) rfl rfl rfl rfl call82 ⟨rfl,trivial⟩ (fun w hs=>zCU hs ck oM oM oM (by first|omega|exact aj.2.2)) ?_;intro dr h5 dy ff ac;obtain⟨ch,bi,ac,rfl,bh,Z⟩:=ac
 change RL (tFc (4*(2000*k+2000*l+3000)+12) ((2000*k+2000*l+3000)+(2000*k+2000*l+3000)+12)) h5 bi (nrF (blS a b)) at Z
 replace ac:=Rp.Is.le ac (Le.p (Le.s (Le.t (Le.q (l:=2*k+2*l+31) oM))) (Le.p (Le.refl _) (Le.s (Le.p (Le.refl _) (Le.p (Le.refl _) (Le.q (l:=6) oM))))));replace Z:=(Le.p (Le.p (Le.t (Le.q (l:=8000*k+8000*l+12012) oM)) (Le.q (l:=4000*k+4000*l+6012) oM)) (Le.refl _)).rl Z;refine go1 ?_;have aq:=(Le.p (Le.s (Le.t (Le.q (l:=2*k+2*l+31) oM))) (Le.p (Le.refl _) (Le.s (Le.p (Le.refl _) (Le.p (Le.refl _) (Le.q (l:=6) dC)))))).R bz;refine zS (A:=[_,_]) (uB sizeOf50 pH aq ac) fun dp bc=>(go4 ?_);obtain⟨e1,e2,e3⟩:=zVZ ca;rw[e1,e2,e3];refine wM (kA (t:=4) kF mh2 rfl bc) ?_;intro dq ao av;refine gX (.cons_cons _ (List.nil_sublist _)) (fun E S=>vV rfl ao (jQ rfl) E S) ?_;exact⟨_,_,_,rfl,(Rp.Is.cast (Rp.Is.le av (Le.p (Le.s (Le.t (Le.q (l:=2*k+2*l+40) oM))) (Le.refl _))) (by rw[show nrE (blS a b)=[] from by unfold nrE;split<;>rfl])),rfl,bh,((Le.p (Le.p (Le.t (Le.q (l:=10000*k+10000*l+20000) oM)) (Le.q (l:=10000*k+10000*l+20000) oM)) (Le.refl _)).rl Z)⟩
end Go.Proofs.YtboaboflnckgoaaGreat
namespace Bk
set_option linter.unusedVariables false
set_option linter.unusedSimpArgs false
open Classical
def pI(a b c:Int):Pt:=T3.mk (a:Rat) (b:Rat) (c:Rat)
noncomputable def bkS(a b:Pt):Sd:=(blP a b,blF a b,[])
def lgS(s:Sd):Prop:=∀f,f<s.2.1.length→(s.2.1.getD f zA).2.1.length≤10000∧∀l,l<(s.2.1.getD f zA).2.1.length→((s.2.1.getD f zA).2.1.getD l []).length≤10000
def zYN(s:Sd):Prop:=(nmA s∧lgS s)∧zGV s s.2.1∧zZ3 s
structure SaneF:Prop where
 h:mV (pI 0 0 0) (pI 2 2 2)→blH (pI 0 0 0) (pI 2 2 2)
 ok:zYN (bkS (pI 0 0 0) (pI 2 2 2))
 vol:dQ (bkS (pI 0 0 0) (pI 2 2 2))/((6:Int):Rat)=((8:Int):Rat)
 cen:cnS (bkS (pI 0 0 0) (pI 2 2 2))=pI 1 1 1∧cnO (bkS (pI 0 0 0) (pI 2 2 2))
 area:arS (bkS (pI 0 0 0) (pI 2 2 2)) 0 (bkS (pI 0 0 0) (pI 2 2 2)).2.1.length=(((24:Int):Rat),((24:Int):Rat))
theorem zV7:qE ((2:Int):Rat) 1=((1:Int):Rat):=by
 have C:flN ((2:Int):Rat) (kN 1)=8:=by decide
 have z:sqN 8=2:=zJU (by decide) (by decide);have u:kN 1=1:=by decide
 unfold qE;rw[C,z,u];unfold ovQ
 decide +kernel
theorem zK5:zGI ((2:Int):Rat) 1∧cD ((2:Int):Rat) 1=((1:Int):Rat)∧cP ((2:Int):Rat) 1=jD 3 2:=by
 have h0:¬((2:Int):Rat)<0:=by decide +kernel
 have D:¬((xJ ((2:Int):Rat)<0∨(1:Int)<0)∨64<(1:Int)):=fun e=>by
  rcases e with(e|e)|e
  · exact h0 (qC.1 e)
  · omega
  · omega
 obtain⟨C,z,I,u⟩:=zAH D;refine⟨u,C.trans zV7,?_⟩;rw[z];unfold oE;rw[if_neg h0,zV7,if_pos (by decide +kernel)];have H:kN 1=1:=by decide
 have G:jD 3 2=3/2:=rfl;rw[H,G];unfold ovQ
 decide +kernel
theorem zWE:zGI (jD 9 4) 1∧cD (jD 9 4) 1=cP (jD 9 4) 1:=by
 have u:jD 9 4=9/4:=rfl;have h0:¬jD 9 4<0:=by rw[u];decide +kernel
 have G:¬((xJ (jD 9 4)<0∨(1:Int)<0)∨64<(1:Int)):=fun e=>by
  rcases e with(e|e)|e
  · exact h0 (qC.1 e)
  · omega
  · omega
 obtain⟨D,C,M,z⟩:=zAH G;refine⟨z,?_⟩;rw[D,C];have J:flN (9/4:Rat) (kN 1)=9:=by decide +kernel
 have I:sqN 9=3:=zJU (by decide) (by decide);have H:kN 1=1:=by decide
 refine zJ4 h0 ?_;unfold qE;rw[u,J,I,H];unfold ovQ
 decide +kernel
theorem zU2{r:Rat}(h0:0≤r){n:Int}(h1:0≤n)(h2:n≤64):(zGI r n∧0≤cD r n)∧cD r n*cD r n≤r∧r≤cP r n*cP r n∧(cP r n-cD r n=0∨cP r n-cD r n=ovQ 1 (kN n)):=by
 have u:¬r<0:=Rat.not_lt.2 h0;have I:¬((xJ r<0∨n<0)∨64<n):=fun e=>by
  rcases e with(e|e)|e
  · exact u (qC.1 e)
  · omega
  · omega
 obtain⟨H,G,J,z⟩:=zAH I;have C:=zCE u n;have M:r<(qE r n+ovQ 1 (kN n))*(qE r n+ovQ 1 (kN n)):=by
  unfold qE;rw[zQ6,zQ1 h0];exact zPT _
 have D:0≤qE r n:=by
  unfold qE;rw[←zBT (kN n),zV9];exact Nat.zero_le _
 rw[H,G]
 by_cases he:qE r n*qE r n=r
 · rw[←zJ4 u he]
   exact⟨⟨z,D⟩,C,by grind,.inl (by grind)⟩
 · rw[←zX4 u he]
   exact⟨⟨z,D⟩,C,by grind,.inr (by grind)⟩
end Bk
namespace Go.Proofs.YtboaboflnckgoaaGreat
open Bk Go Tryz
set_option linter.unusedVariables false
set_option linter.unusedSimpArgs false
set_option maxRecDepth 10000
set_option maxHeartbeats 1000000
attribute [local irreducible] GL GC GQ W OpV
theorem zDC{w0:World}{h0:Mem}(hs:MLe h0 (mem w0))(hsf:SaneF):
 Calls Tryz.prog 8 #[] w0 (Ret w0 h0 (fun _ r=>r=.bool true)):=by
 refine cb0 90 func8 hs ?_;refine go7 ?_;refine cL (vs:=[vI (2)]) ⟨rfl,trivial⟩ call39 (fun w hs=>jS hs dC dC) fun ej h1 es ch=>(cL (vs:=[_,vI (1)]) e2z call13 (fun w hs=>oR hs ch dC dC dC) fun ei h2 er cg=>?_);obtain⟨aa,rfl,C⟩:=cg
 change (rpP (rpQ (2+140)) (rpQ (2+140))).Is h2 aa (cD (((2:Int):Int):Rat) (1:Int),cP (((2:Int):Int):Rat) (1:Int)) at C
 replace C:=Rp.Is.le C (Le.p (Le.q (l:=142) oM) (Le.q (l:=142) oM));refine go3 ?_;refine nA (ρ:=(rpP (rpQ 1) (rpQ 1))) (X:=((0:Rat),(0:Rat))) gC (yL (yH dC) (yH dC)) fun b1 fl bb=>?_;have av:=(Le.p (Le.q (l:=142) dC) (Le.q (l:=142) dC)).R bb;refine zS (A:=[]) (uB sizeOf34 pH av C) fun dh T=>(go5 ?_);refine cL (vs:=[vI (9),vI (4)]) e2z call10 (fun w hs=>pM hs dC dC dC dC) fun eh h3 eq cf=>(cL (vs:=[_,vI (1)]) e2z call13 (fun w hs=>oR hs cf dC dC dC) fun eg h4 ep ce=>?_);obtain⟨Z,rfl,z⟩:=ce
 change (rpP (rpQ (2+140)) (rpQ (2+140))).Is h4 Z (cD (jD (9:Int) (4:Int)) (1:Int),cP (jD (9:Int) (4:Int)) (1:Int)) at z
 replace z:=Rp.Is.le z (Le.p (Le.q (l:=142) oM) (Le.q (l:=142) oM));refine go3 ?_;refine nA (ρ:=(rpP (rpQ 1) (rpQ 1))) (X:=((0:Rat),(0:Rat))) gC (yL (yH dC) (yH dC)) fun b3 fk ba=>?_;have au:=(Le.p (Le.q (l:=142) dC) (Le.q (l:=142) dC)).R ba;refine zS (A:=[]) (uB sizeOf34 pH au z) fun df S=>(go5 ?_);refine cL (vs:=[vI (0),vI (0),vI (0)]) e3z call45 (fun w hs=>iY hs dC dC dC dC dC dC) fun ef h5 eo cd=>(cL (vs:=[vI (2),vI (2),vI (2)]) e3z call45 (fun w hs=>iY hs dC dC dC dC dC dC) fun ee h6 en cc=>?_);refine qV (vs:=[_,_]) rfl rfl rfl rfl call35 e2z (fun w hs=>zE1 hs cd.up cc dC dC (by first|omega|exact hsf.h)) ?_;intro ed h7 fm em M;obtain⟨ek,cm,aw,rfl,M,rfl,cn,I⟩:=M
 change RL (tFc (10000*2+10000*2+20000) (10000*2+10000*2+20000)) h7 aw (blF (T3.mk (((0:Int):Int):Rat) (((0:Int):Int):Rat) (((0:Int):Int):Rat)) (T3.mk (((2:Int):Int):Rat) (((2:Int):Int):Rat) (((2:Int):Int):Rat))) at I
 replace M:=Rp.Is.le M (Le.p (Le.s (Le.t (Le.q (l:=48) oM))) (Le.refl _));replace I:=(Le.p (Le.p (Le.t (Le.q (l:=60000) oM)) (Le.q (l:=60000) oM)) (Le.refl _)).rl I;refine go3 ?_;refine nA (ρ:=(rpP (tLs 1) (rpP rpV (rpS (rpP rpI (rpP rpI (rpQ 1))))))) (X:=([],((Value.slice none 0 0),[]))) tO (yL qJ (yL cI qJ)) fun b5 fj az=>?_;have ad:=(Le.p (Le.s (Le.t (Le.q (l:=48) dC))) (Le.p (Le.refl _) (Le.s (Le.p (Le.refl _) (Le.p (Le.refl _) (Le.q (l:=6) dC)))))).R az;refine zS (A:=[]) (uB sizeOf50 pH ad M) fun O H=>(go5 ?_);refine yJ (A:=[_]) (ρ:=(tFc 60000 60000)) I ?_;intro h8 ci ae;replace H:=H.mono ci;have ai:(tSd 48 60000 60000 6).R h8 O (blP (T3.mk (((0:Int):Int):Rat) (((0:Int):Int):Rat) (((0:Int):Int):Rat)) (T3.mk (((2:Int):Int):Rat) (((2:Int):Int):Rat) (((2:Int):Int):Rat)),(blF (T3.mk (((0:Int):Int):Rat) (((0:Int):Int):Rat) (((0:Int):Int):Rat)) (T3.mk (((2:Int):Int):Rat) (((2:Int):Int):Rat) (((2:Int):Int):Rat)),[])):=zJK H ae;have G:(tSd 48 60000 60000 6).R h8 O (bkS (pI 0 0 0) (pI 2 2 2)):=Rp.castR ai (by rfl);refine lX (xB kF pH G) fun ec cb=>(cL (ev1 rfl) call25 (fun w hs=>zCY hs cb dC (by first|omega|exact hsf.ok.1.1|exact hsf.ok.1.2|exact hsf.ok.2.1) (by first|omega|exact hsf.ok.1.1|exact hsf.ok.1.2|exact hsf.ok.2.1) (by first|omega|exact hsf.ok.1.1|exact hsf.ok.1.2|exact hsf.ok.2.1)) fun eb h9 el ca=>?_);obtain⟨Y,rfl,u⟩:=ca
 change (tPt (50000*48+300000)).Is h9 Y (cnS (bkS (pI 0 0 0) (pI 2 2 2))) at u
 replace u:=Rp.Is.le u (Le.t (Le.q (l:=2700000) oM));refine go3 ?_;refine nA (ρ:=(tPt 1)) (X:=zT) yW (xY (yH dC)) fun b7 fi ay=>?_;have ac:=(Le.t (Le.q (l:=2700000) dC)).R ay;refine zS (A:=[]) (uB sizeOf53 pH ac u) fun cl ah=>(go5 ?_);refine lX (xB kF pH G) fun ea bz=>(cL (vs:=[_,vI (0)]) e2z call40 (fun w hs=>w9 hs bz dC dC dC (by first|omega|exact hsf.ok.1.1|exact hsf.ok.1.2|exact hsf.ok.2.1|exact hsf.ok.2.2) (by first|omega|exact hsf.ok.1.1|exact hsf.ok.1.2|exact hsf.ok.2.1|exact hsf.ok.2.2) (by first|omega|exact hsf.ok.1.1|exact hsf.ok.1.2|exact hsf.ok.2.1|exact hsf.ok.2.2) (by first|omega|exact hsf.ok.1.1|exact hsf.ok.1.2|exact hsf.ok.2.1|exact hsf.ok.2.2) oM oM) fun dz cj de bx=>?_);obtain⟨U,rfl,J⟩:=bx
 change (rpP (rpQ 400000) (rpQ 400000)).Is cj U (arS (bkS (pI 0 0 0) (pI 2 2 2)) (0:Int) (bkS (pI 0 0 0) (pI 2 2 2)).2.1.length) at J
 refine go3 ?_;refine nA (ρ:=(rpP (rpQ 1) (rpQ 1))) (X:=((0:Rat),(0:Rat))) gC (yL (yH dC) (yH dC)) fun b9 fh ax=>?_;have ab:=(Le.p (Le.q (l:=400000) dC) (Le.q (l:=400000) dC)).R ax;refine zS (A:=[]) (uB sizeOf34 pH ab J) fun ck D=>(go4 ?_);refine zK 54 _ [] [(0,.q),(1,.q),(2,.q),(3,.q),(4,.c),(5,.c),(6,.q),(7,.q),(8,.q),(9,.q),(10,.c),(11,.c),(12,.q),(13,.q),(14,.q),(15,.q),(16,.q),(17,.q),(18,.q),(19,.q),(20,.q),(21,.c),(22,.q),(23,.q),(24,.q),(25,.c),(26,.c),(27,.c),(28,.q),(29,.q),(30,.q),(31,.q),(32,.q),(33,.q),(34,.c),(35,.c),(36,.q),(37,.q),(38,.q),(39,.q),(40,.q),(41,.q),(42,.q),(43,.c),(44,.c),(45,.q),(46,.q),(47,.q),(48,.q),(49,.q),(50,.q),(51,.c),(52,.q),(53,.q)] yC nX (vJ (by kernel_rfl)) nX (fun r hr=>hr) (xK rfl (fun _ _=>OpV.tr (by exact zK5.1) (yX rfl)) rfl (go2 ?_));refine oX rfl (xB yB (Pc.fst pH) T) fun dy bw=>?_;refine w_c rfl (rK rfl rfl (sC (vs:=[vI (1)]) ⟨rfl,trivial⟩ call39 (fun w hs=>jS hs dC dC) fun dx fg dd bv=>?_));refine w_c rfl (rK rfl rfl (sC (ev2 rfl rfl) call15 (fun w hs=>vO hs bw.up bv dC) fun ar ff dc bu=>?_));obtain rfl:ar=.bool true:=by rw[show ar=vB ((cD (((2:Int):Int):Rat) (1:Int))=(((1:Int):Int):Rat)) from bu,xM (by exact zK5.2.1)]
 refine go3 ?_;refine oX rfl (xB yB (Pc.snd pH) T) fun dw bt=>?_;refine w_c rfl (rK rfl rfl (sC (vs:=[vI (3),vI (2)]) e2z call10 (fun w hs=>pM hs dC dC dC dC) fun dv fe db bs=>?_));refine w_c rfl (rK rfl rfl (sC (ev2 rfl rfl) call15 (fun w hs=>vO hs bt.up bs dC) fun aq fd da br=>?_));obtain rfl:aq=.bool true:=by rw[show aq=vB ((cP (((2:Int):Int):Rat) (1:Int))=(jD (3:Int) (2:Int))) from br,xM (by exact zK5.2.2)]
 refine go2 ?_;refine yO rfl rfl rfl (fun h' L' hh hR=>OpV.tr (by exact zWE.1) (yX rfl)) rfl (go3 ?_);refine oX rfl (xB yB (Pc.fst pH) S) fun du bq=>(go1 ?_);refine oX rfl (xB yB (Pc.snd pH) S) fun dt bp=>?_;refine w_c rfl (rK rfl rfl (sC (ev2 rfl rfl) call15 (fun w hs=>vO hs bq bp dC) fun ap fc cz bo=>?_));obtain rfl:ap=.bool true:=by rw[show ap=vB ((cD (jD (9:Int) (4:Int)) (1:Int))=(cP (jD (9:Int) (4:Int)) (1:Int))) from bo,xM (by exact zWE.2)]
 refine go2 ?_;refine oX rfl (xB kF pH G) fun dr bn=>?_;refine w_c rfl (rK rfl rfl (sC (ev1 rfl) call26 (fun w hs=>zCV hs bn dC (by first|omega|exact hsf.ok.1.1|exact hsf.ok.1.2|exact hsf.ok.2.1) (by first|omega|exact hsf.ok.1.1|exact hsf.ok.1.2|exact hsf.ok.2.1) (by first|omega|exact hsf.ok.1.1|exact hsf.ok.1.2|exact hsf.ok.2.1)) fun dq fb cy aj=>?_));replace aj:=Rp.Is.le aj (Le.q (l:=1060004) oM);refine w_c rfl (rK rfl rfl (sC (vs:=[vI (8)]) ⟨rfl,trivial⟩ call39 (fun w hs=>jS hs dC dC) fun dp fa cw bm=>?_));refine w_c rfl (rK rfl rfl (sC (ev2 rfl rfl) call15 (fun w hs=>vO hs aj.up bm dC) fun ao ez cv bl=>?_));obtain rfl:ao=.bool true:=by rw[show ao=vB ((dQ (bkS (pI 0 0 0) (pI 2 2 2))/((6:Int):Rat))=(((8:Int):Int):Rat)) from bl,xM (by exact hsf.vol)]
 refine go2 ?_;refine yO rfl rfl rfl (fun h' L' hh hR=>OpV.tr (by exact hsf.cen.2) (yX rfl)) rfl (go2 ?_);refine oX rfl (xB zU pH ah) fun dn bk=>?_;refine w_c rfl (rK rfl rfl (sC (vs:=[vI (1),vI (1),vI (1)]) e3z call45 (fun w hs=>iY hs dC dC dC dC dC dC) fun dm ey cu bj=>?_));refine w_c rfl (rK rfl rfl (sC (ev2 rfl rfl) call27 (fun w hs=>zAF hs bk.up bj dC) fun an ew ct bi=>?_));obtain rfl:an=.bool true:=by rw[show an=vB ((cnS (bkS (pI 0 0 0) (pI 2 2 2)))=(T3.mk (((1:Int):Int):Rat) (((1:Int):Int):Rat) (((1:Int):Int):Rat))) from bi,xM (by exact hsf.cen.1)]
 refine go2 ?_;refine yO rfl rfl rfl (fun h' L' hh hR=>OpV.tr (by trivial) (yX rfl)) rfl (go3 ?_);refine oX rfl (xB yB (Pc.fst pH) D) fun dl bh=>?_;refine w_c rfl (rK rfl rfl (sC (vs:=[vI (24)]) ⟨rfl,trivial⟩ call39 (fun w hs=>jS hs dC dC) fun dk ev cq bg=>?_));refine w_c rfl (rK rfl rfl (sC (ev2 rfl rfl) call15 (fun w hs=>vO hs bh.up bg dC) fun am eu cp bf=>?_));obtain rfl:am=.bool true:=by rw[show am=vB (((arS (bkS (pI 0 0 0) (pI 2 2 2)) (0:Int) (bkS (pI 0 0 0) (pI 2 2 2)).2.1.length).1)=(((24:Int):Int):Rat)) from bf,xM (by exact congrArg Prod.fst hsf.area)]
 refine go3 ?_;refine oX rfl (xB yB (Pc.snd pH) D) fun dj be=>(go1 ?_);refine oX rfl (xB yB (Pc.fst pH) D) fun di bd=>?_;refine w_c rfl (rK rfl rfl (sC (ev2 rfl rfl) call15 (fun w hs=>vO hs be bd dC) fun ak et co bc=>?_));obtain rfl:ak=.bool true:=by rw[show ak=vB (((arS (bkS (pI 0 0 0) (pI 2 2 2)) (0:Int) (bkS (pI 0 0 0) (pI 2 2 2)).2.1.length).2)=((arS (bkS (pI 0 0 0) (pI 2 2 2)) (0:Int) (bkS (pI 0 0 0) (pI 2 2 2)).2.1.length).1)) from bc,xM (by rw[hsf.area])]
 refine go5 ?_;refine zD rfl rfl ?_
 rfl
end Go.Proofs.YtboaboflnckgoaaGreat
namespace Bk
set_option linter.unusedVariables false
set_option linter.unusedSimpArgs false
open Classical
def ag(x p y q:Rat)(u:PI):P2:=(x+p*(u.1:Rat),y+q*(u.2:Rat))
theorem zJG{x p:Rat}{u v:Int}(hp:0<p):x+p*(u:Rat)<x+p*(v:Rat)↔u<v:=by
 constructor
 · intro h
   refine Int.not_le.1 fun e=>?_;have z:(v:Rat)≤(u:Rat):=Rat.intCast_le_intCast.2 e;have C:=Rat.mul_le_mul_of_nonneg_left z (Rat.le_of_lt hp);grind
 · intro h
   have z:(u:Rat)<(v:Rat):=Rat.intCast_lt_intCast.2 h;have C:=Rat.mul_lt_mul_of_pos_left z hp;grind
theorem zLZ{x p:Rat}{u v:Int}(hp:0<p):x+p*(u:Rat)=x+p*(v:Rat)↔u=v:=by
 constructor
 · intro h
   rcases Int.lt_trichotomy u v with h1|h1|h1
   · have:=(zJG (x:=x) hp).2 h1;grind
   · exact h1
   · have:=(zJG (x:=x) hp).2 h1;grind
 · rintro rfl;rfl
variable {x p y q:Rat}
theorem yBX(u v w:PI):cr (ag x p y q u) (ag x p y q v) (ag x p y q w)=p*q*((crI u v w:Int):Rat):=by
 unfold cr ag crI;simp only[Rat.intCast_sub,Rat.intCast_mul];grind
theorem tS(hp:0<p)(hq:0<q):0<p*q:=by
 have:=Rat.mul_lt_mul_of_pos_left hq hp;grind
theorem yBW(hp:0<p)(hq:0<q)(u v w:PI):orZ (ag x p y q u) (ag x p y q v) (ag x p y q w)=orI u v w:=by
 unfold orZ orI;rw[yBX,zP0 (tS hp hq),zP1]
 rfl
theorem zWY(hp:0<p)(hq:0<q)(u v:PI):lx (ag x p y q u) (ag x p y q v)↔lxI u v=true:=by
 unfold lx lxI;rw[decide_eq_true_iff];unfold ag;simp only[zJG hp,zJG hq,zLZ hp]
theorem zWZ(hp:0<p)(hq:0<q)(u v:PI):ag x p y q u=ag x p y q v↔u=v:=by
 obtain⟨C,z⟩:=u;obtain⟨v1,v2⟩:=v;unfold ag;rw[Prod.mk.injEq,Prod.mk.injEq,zLZ hp,zLZ hq]
theorem zW0{a b c d:Int}(hp:0<p):jK (x+p*(a:Rat)) (x+p*(b:Rat)) (x+p*(c:Rat)) (x+p*(d:Rat))↔apI a b c d=true:=by
 unfold jK apI;rw[decide_eq_true_iff];simp only[zJG hp]
theorem zTF{c:Prop} [Decidable c](u v:PI):(if c then ag x p y q u else ag x p y q v)=ag x p y q (if c then u else v):=by split<;>rfl
theorem yBY(hp:0<p)(hq:0<q)(a b c d:PI):mL (ag x p y q a) (ag x p y q b) (ag x p y q c) (ag x p y q d)=alS a b c d:=by
 unfold mL alS;simp only[zWY hp hq,zTF,zWZ hp hq]
theorem zTE(hp:0<p)(hq:0<q)(a b c d:PI):gN (ag x p y q a) (ag x p y q b) (ag x p y q c) (ag x p y q d)=toI a b c d:=by
 have z:jK (ag x p y q a).1 (ag x p y q b).1 (ag x p y q c).1 (ag x p y q d).1↔apI a.1 b.1 c.1 d.1=true:=zW0 hp;have u:jK (ag x p y q a).2 (ag x p y q b).2 (ag x p y q c).2 (ag x p y q d).2↔apI a.2 b.2 c.2 d.2=true:=zW0 hq;unfold gN toI bX alI lo2 hi2;simp only[yBW hp hq,z,u,zWY hp hq,zTF,yBY hp hq]
def gI(s:List PI)(m:Nat):PI:=s.getD m (0,0)
def yAS(s:List PI):Bool:=decide (3≤s.length)&&(List.range s.length).all fun b=>(List.range b).all fun a=>!decide (gI s a=gI s b)&&decide (toI (gI s a) (gI s ((a+1)%s.length)) (gI s b) (gI s ((b+1)%s.length))=waI s.length a b)
theorem zHO(hp:0<p)(hq:0<q){l:List Pt}{s:List PI}(hl:l.length=s.length)(h:∀m,m<s.length→pr (gp l m) 0 1=ag x p y q (gI s m))(hb:yAS s=true):aP l 0 1:=by
 unfold yAS at hb;rw[Bool.and_eq_true,decide_eq_true_iff,List.all_eq_true] at hb;obtain⟨H,hb⟩:=hb;have g:∀a b,a<b→b<s.length→¬gI s a=gI s b∧toI (gI s a) (gI s ((a+1)%s.length)) (gI s b) (gI s ((b+1)%s.length))=waI s.length a b:=fun a b u z=>by
  have D:=List.all_eq_true.1 (hb b (List.mem_range.2 z)) a (List.mem_range.2 u);rw[Bool.and_eq_true,Bool.not_eq_true',decide_eq_false_iff_not,decide_eq_true_iff] at D;exact D
 refine⟨by omega,fun a b G u C=>?_,fun a b G u C=>?_⟩
 · show ¬pr (gp l a) 0 1=pr (gp l b) 0 1
   rw[h a (by omega),h b (by omega),zWZ hp hq];exact(g a b u (by omega)).1
 · show gN (gL l 0 1 a) (gK l 0 1 a) (gL l 0 1 b) (gK l 0 1 b)=zEF l.length a b
   unfold gL gK;rw[hl,h a (by omega),h b (by omega),h _ (Nat.mod_lt _ (by omega)),h _ (Nat.mod_lt _ (by omega)),zTE hp hq];exact(g a b u (by omega)).2
theorem zIG{P:List Pt}(hs:aP P 0 1)(hl:P.length≤64)(ha:0<xJ (arZ P 0 1)):vQ [P] 0 1=0:=by
 have z:∀m,m<[P].length→gl [P] m=P:=fun m u=>by
  rw[show m=0 by rw[List.length_singleton] at u;omega];rfl
 unfold vQ;rw[if_neg (fun e=>by
  rcases e with e|⟨m,u,e⟩
  · rw[List.length_singleton] at e;omega
  · rw[z m u] at e;omega),if_neg (fun e=>by
  obtain⟨m,u,e⟩:=e;rw[z m u] at e;exact e hs),if_neg (fun e=>by
  obtain⟨a,b,D,C,_⟩:=e;rw[List.length_singleton] at C;omega),if_neg (fun e=>by
  rcases e with⟨k,hk,e⟩|⟨a,b,ha',hb',e⟩
  · rw[mO,z k hk] at e;exact e.1 ha
  · rw[List.length_singleton] at ha' hb'
    exact e.1.1.1 (by omega))]
end Bk
namespace Bk
set_option linter.unusedVariables false
set_option linter.unusedSimpArgs false
open Classical
theorem zM1{B:List Pt}{p:Pt}:∀j,(∀i,i<j→¬zJS (B.getD i zT) p)→j6 B p j= -1
  |0,_=>rfl
  |j+1,h=>by
   rw[←zZM (h j (by omega))];exact zM1 j fun i hi=>h i (by omega)
theorem zZ7{B:List Pt}{p:Pt}(h:∀i,i<B.length→¬zJS (B.getD i zT) p):adB B p=B++[p]∧adN B p=(B.length:Int):=by
 have u:fdZ B p<0:=by unfold fdZ;rw[zM1 _ h];decide
 exact⟨if_pos u,if_pos u⟩
def rgI:Nat→List Int:=uU fun i=>(i:Int)
theorem zNN{l:List Pt}{i k:Nat}(h:i<k):(l.take k).getD i zT=l.getD i zT:=by
 rw[List.getD_eq_getElem?_getD,List.getD_eq_getElem?_getD,List.getElem?_take,if_pos h]
def zI3(l:List Pt):Prop:=∀i j,i<j→j<l.length→¬zJS (l.getD i zT) (l.getD j zT)
theorem zKC{l:List Pt}(hd:zI3 l):∀k,k≤l.length→plB [] l k=l.take k∧plN [] l k=rgI k
  |0,_=>⟨rfl,rfl⟩
  |k+1,hk=>by
   obtain⟨h1,h2⟩:=zKC hd k (by omega);have hl:(l.take k).length=k:=by rw[List.length_take];omega
   have u:∀i,i<(l.take k).length→¬zJS ((l.take k).getD i zT) (l.getD k zT):=fun i hi=>by
    rw[hl] at hi;rw[zNN hi];exact hd i k hi (by omega)
   obtain⟨C,z⟩:=zZ7 u;refine⟨?_,?_⟩
   · show adB (plB [] l k) (l.getD k zT)=_
     rw[h1,C];rw[List.getD_eq_getElem?_getD,List.getElem?_eq_getElem (show k<l.length by omega),List.take_succ_eq_append_getElem (show k<l.length by omega)];rfl
   · show plN [] l k++[adN (plB [] l k) (l.getD k zT)]=rgI k++[(k:Int)]
     rw[h2,h1,z,hl]
theorem zG1{l:List Pt}(hd:zI3 l):bsZ [l]=l:=by
 have h:=(zKC hd l.length (Nat.le_refl _)).1;rw[List.take_length] at h;exact h
theorem zZY{l:List Pt}(hd:zI3 l):bxZ [l]=[rgI l.length]:=congrArg (fun z=>[z]) (zKC hd l.length (Nat.le_refl _)).2
theorem zQ7{P:List Pt}(ha:0<xJ (arZ P 0 1)):ouZ [P]=1:=if_pos ha
theorem zUQ{l:List Pt}{lo hi:Rat}(hd:zI3 l)(hs:aP l 0 1)(hl:l.length≤64)(ha:0<xJ (arZ l 0 1))(hlh:lo<hi):prE [l] lo hi=0:=by
 unfold prE;rw[if_neg (fun e=>e (zIG hs hl ha)),if_neg (fun e=>e (zQ7 ha)),if_neg (fun e=>by unfold wH at e;grind),if_neg];unfold prB;rw[zG1 hd];have u:k8 [l] [l].length=0+l.length:=rfl;rw[u];omega
section
variable {a b:Pt}
def bB(a b:Pt):List Pt:=[T3.mk a.x a.y (0:Rat),T3.mk b.x a.y (0:Rat),T3.mk b.x b.y (0:Rat),T3.mk a.x b.y (0:Rat)]
theorem zNE(h:mV a b):a.x<b.x∧a.y<b.y∧a.z<b.z:=by
 have g:∀{u v:Rat},¬0≤wH u v→u<v:=fun{u v} h=>Rat.not_le.1 fun e=>h (by unfold wH;grind);exact⟨g (h 0 (by decide)),g (h 1 (by decide)),g (h 2 (by decide))⟩
theorem t6(hx:a.x<b.x)(hy:a.y<b.y):zI3 (bB a b):=by
 intro i j C z;have u:j<4:=z;have:(i=0∧(j=1∨j=2∨j=3))∨(i=1∧(j=2∨j=3))∨(i=2∧j=3):=by omega
 rcases this with⟨rfl,rfl|rfl|rfl⟩|⟨rfl,rfl|rfl⟩|⟨rfl,rfl⟩<;>(intro e;have G:=e.1;have D:=e.2;simp only[bB,List.getD_cons_zero,List.getD_cons_succ] at G D;grind)
def uI:List PI:=[(0,0),(1,0),(1,1),(0,1)]
theorem yBV:∀m,m<uI.length→pr (gp (bB a b) m) 0 1=ag a.x (b.x-a.x) a.y (b.y-a.y) (gI uI m):=by
 intro m u;have C:m<4:=u;have e0:((0:Int):Rat)=0:=rfl;have z:((1:Int):Rat)=1:=rfl;have:m=0∨m=1∨m=2∨m=3:=by omega
 rcases this with rfl|rfl|rfl|rfl<;>(unfold ag;refine Prod.ext ?_ ?_<;>simp[pr,gp,bB,gI,uI,T3.at,e0,z]<;>grind)
theorem zZ2(hx:a.x<b.x)(hy:a.y<b.y):aP (bB a b) 0 1:=zHO (x:=a.x) (p:=b.x-a.x) (y:=a.y) (q:=b.y-a.y) (s:=uI) (by grind) (by grind) rfl yBV (by decide +kernel)
theorem zV0:arZ (bB a b) 0 1=2*((b.x-a.x)*(b.y-a.y)):=by
 unfold arZ;simp[uS,gp,bB,T3.at];grind
theorem zS7(hx:a.x<b.x)(hy:a.y<b.y):0<xJ (arZ (bB a b) 0 1):=by
 rw[zV0,z5];have:=tS (p:=b.x-a.x) (q:=b.y-a.y) (by grind) (by grind);grind
theorem zS5(h:mV a b):blE a b=0:=by
 obtain⟨z,u,C⟩:=zNE h;rw[(zVZ h).1];exact zUQ (t6 z u) (zZ2 z u) (show 4≤64 by decide) (zS7 z u) C
def cB(a b:Pt)(x y z:Bool):Pt:=T3.mk (if x then b.x else a.x) (if y then b.y else a.y) (if z then b.z else a.z)
def pB0(a b:Pt):List Pt:=[cB a b false false false,cB a b true false false,cB a b true true false,cB a b false true false,cB a b false false true,cB a b true false true,cB a b true true true,cB a b false true true]
theorem zCK(hx:a.x<b.x)(hy:a.y<b.y):ppZ (blL a b) a.z b.z=pB0 a b:=by
 have h:bsZ (blL a b)=bB a b:=zG1 (t6 hx hy);unfold ppZ zQS;rw[h]
 show uU _ 8=_
 have D:(bB a b).length=4:=rfl;have u:∀i:Nat,4≤i→(if((4:Nat):Int)≤(i:Int) then b.z else a.z)=b.z:=fun i hi=>if_pos (by omega);have C:∀i:Nat,i<4→(if((4:Nat):Int)≤(i:Int) then b.z else a.z)=a.z:=fun i hi=>if_neg (by omega);simp only[uU,List.nil_append,List.cons_append,D];rw[C 0 (by decide),C 1 (by decide),C 2 (by decide),C 3 (by decide),u 4 (by decide),u 5 (by decide),u 6 (by decide),u 7 (by decide)]
 rfl
theorem zJE(hx:a.x<b.x)(hy:a.y<b.y):bxZ (blL a b)=[[0,1,2,3]]:=zZY (t6 hx hy)
def sF(A B:Pt)(i j:Int)(nm:List Nat):Fc:=((T3.mk (B.y-A.y) (-(B.x-A.x)) (0:Rat),jH (T3.mk (B.y-A.y) (-(B.x-A.x)) (0:Rat)) A),[[i,j,j+4,i+4]],nm)
def bF0(a b:Pt):Fc:=((T3.mk (0:Rat) (0:Rat) (-((1:Int):Rat)),-a.z),[[3,2,1,0]],[98,111,116,116,111,109])
def tF0(a b:Pt):Fc:=((T3.mk (0:Rat) (0:Rat) ((1:Int):Rat),b.z),[[4,5,6,7]],[116,111,112])
noncomputable def fB0(a b:Pt):List Fc:=[sF (cB a b false false false) (cB a b true false false) 0 1 (nmS 0 0),sF (cB a b true false false) (cB a b true true false) 1 2 (nmS 0 1),sF (cB a b true true false) (cB a b false true false) 2 3 (nmS 0 2),sF (cB a b false true false) (cB a b false false false) 3 0 (nmS 0 3),bF0 a b,tF0 a b]
theorem y6(hx:a.x<b.x)(hy:a.y<b.y){k:Nat}(hk:k<4):sdF (blL a b) a.z b.z 0 k=sF ((pB0 a b).getD k zT) ((pB0 a b).getD ((k+1)%4) zT) (k:Int) (((k+1)%4:Nat):Int) (nmS 0 k):=by
 have u:=zJE hx hy;have G:((bsZ (blL a b)).length:Int)=4:=by rw[show bsZ (blL a b)=bB a b from zG1 (t6 hx hy)];rfl
 have D:sdA (blL a b) 0 k=(k:Int):=by
  unfold sdA;rw[u];have:k=0∨k=1∨k=2∨k=3:=by omega
  rcases this with rfl|rfl|rfl|rfl<;>rfl
 have C:sdB (blL a b) 0 k=(((k+1)%4:Nat):Int):=by
  unfold sdB;rw[u];have:k=0∨k=1∨k=2∨k=3:=by omega
  rcases this with rfl|rfl|rfl|rfl<;>rfl
 have H:sdN (blL a b) a.z b.z 0 k=T3.mk (((pB0 a b).getD ((k+1)%4) zT).y-((pB0 a b).getD k zT).y) (-(((pB0 a b).getD ((k+1)%4) zT).x-((pB0 a b).getD k zT).x)) (0:Rat):=by
  unfold sdN;rw[zCK hx hy,D,C,Int.toNat_natCast,Int.toNat_natCast]
 unfold sdF;rw[H,zCK hx hy,D,C,G,Int.toNat_natCast]
 rfl
theorem zHS(hx:a.x<b.x)(hy:a.y<b.y):prR (blL a b) a.z b.z=(pB0 a b,fB0 a b,[]):=by
 have u:=zJE hx hy;have C:((bsZ (blL a b)).length:Int)=4:=by rw[show bsZ (blL a b)=bB a b from zG1 (t6 hx hy)];rfl
 unfold prR;rw[zCK hx hy];refine congrArg (fun z=>(pB0 a b,z,([]:List En))) ?_;have H:zNU (blL a b) a.z b.z (bxZ (blL a b)).length=[sdF (blL a b) a.z b.z 0 0,sdF (blL a b) a.z b.z 0 1,sdF (blL a b) a.z b.z 0 2,sdF (blL a b) a.z b.z 0 3]:=by
  rw[u]
  show[]++sfX (blL a b) a.z b.z 0 ((bxZ (blL a b)).getD 0 []).length=_
  rw[u];rfl
 have G:btF (blL a b) a.z=bF0 a b:=by
  unfold btF bF0 zZ0;rw[u];rfl
 have D:tpF (blL a b) b.z=tF0 a b:=by
  unfold tpF tF0 zXH tpL;rw[u,C];rfl
 rw[H,G,D,y6 hx hy (by decide),y6 hx hy (by decide),y6 hx hy (by decide),y6 hx hy (by decide)]
 rfl
theorem zL1{n:Nat}(h:n<10):jF (((n:Int):Int):Rat)=[48+n]:=by
 unfold jF;rw[Rat.num_intCast,Rat.den_intCast,if_neg (by omega),if_pos pV,Int.natAbs_natCast]
 by_cases h0:n=0
 · subst h0;rfl
 · rw[zTP h0 h];rfl
theorem zYL{k:Nat}(h:k<10):nmS 0 k=[115,48,46,48+k]:=by
 unfold nmS;rw[zL1 (n:=0) (by decide),zL1 h];rfl
end
end Bk
namespace Bk
set_option linter.unusedVariables false
set_option linter.unusedSimpArgs false
open Classical
def zDR(p:Nat→Bool):Nat→Nat
  |0=>0
  |k+1=>if p k then zDR p k else k+1
theorem zDQ{P:Nat→Prop}{p:Nat→Bool}:∀n,(∀k,k<n→(P k↔p k=true))→cV P n=zDR p n
  |0,_=>rfl
  |n+1,h=>by
   have ih:=zDQ n fun k hk=>h k (by omega);have h1:=h n (by omega);unfold cV zDR;rw[ih]
   by_cases hp:P n
   · rw[if_pos hp,if_pos (h1.1 hp)]
   · rw[if_neg hp,if_neg (fun e=>hp (h1.2 e))]
def usB(E:List E5)(i:Nat):Bool:=E.any fun e=>decide (e.1=(i:Int))
theorem zPK(E:List E5)(i:Nat):zFQ E E.length i↔usB E i=true:=by
 unfold usB;rw[List.any_eq_true];constructor
 · rintro⟨q,u,h⟩
   exact⟨_,pR u,decide_eq_true h⟩
 · rintro⟨e,z,h⟩
   obtain⟨q,u,rfl⟩:=List.getElem_of_mem z;refine⟨q,u,?_⟩;rw[List.getD_eq_getElem?_getD,List.getElem?_eq_getElem u];exact of_decide_eq_true h
def orB(E:List E5)(lt:Nat→Nat→Bool):Nat→List Int
  |0=>[]
  |i+1=>if usB E i then eV (orB E lt i) (zDR (fun k=>lt i ((orB E lt i).getD k 0).toNat) (orB E lt i).length) (i:Int) else orB E lt i
theorem zQ8{s:Sd}{lt:Nat→Nat→Bool}{n:Nat}(h:∀i k,i<n→k<n→(lsP (gp s.1 i) (gp s.1 k)↔lt i k=true)):∀i,i≤n→bK s i=orB (edZ (vN s)) lt i
  |0,_=>rfl
  |i+1,hi=>by
   have ih:=zQ8 h i (by omega);unfold bK orB;have hb:cV (zN6 s (bK s i) i) (bK s i).length=zDR (fun k=>lt i ((orB (edZ (vN s)) lt i).getD k 0).toNat) (orB (edZ (vN s)) lt i).length:=by
    rw[←ih];refine zDQ _ fun k u=>?_;have:=oP u;exact h i _ (by omega) (by omega)
   rw[hb,ih]
   by_cases hu:zFQ (edZ (vN s)) (edZ (vN s)).length i
   · rw[if_pos hu,if_pos ((zPK _ _).1 hu)]
   · rw[if_neg hu,if_neg (fun e=>hu ((zPK _ _).2 e))]
abbrev B3:=Bool×Bool×Bool
def lt3(u v:B3):Bool:=(!u.1&&v.1)||(u.1==v.1&&((!u.2.1&&v.2.1)||(u.2.1==v.2.1&&(!u.2.2&&v.2.2))))
def cU(a b:Pt)(u:B3):Pt:=cB a b u.1 u.2.1 u.2.2
variable {a b:Pt}
theorem zOQ(hx:a.x<b.x)(hy:a.y<b.y)(hz:a.z<b.z)(u v:B3):lsP (cU a b u) (cU a b v)↔lt3 u v=true:=by
 obtain⟨D,C,u3⟩:=u;obtain⟨v1,v2,v3⟩:=v
 cases D<;>cases C<;>cases u3<;>cases v1<;>cases v2<;>cases v3<;>simp[lsP,cU,cB,lt3]<;>grind
theorem zZW(hx:a.x<b.x)(hy:a.y<b.y)(hz:a.z<b.z){u v:B3}(h:cU a b u=cU a b v):u=v:=by
 obtain⟨D,C,u3⟩:=u;obtain⟨v1,v2,v3⟩:=v;have I:=congrArg T3.x h;have H:=congrArg T3.y h;have G:=congrArg T3.z h
 cases D<;>cases C<;>cases u3<;>cases v1<;>cases v2<;>cases v3<;>first|rfl|(exfalso;simp[cU,cB] at I H G;grind)
def uB0:List B3:=[(false,false,false),(true,false,false),(true,true,false),(false,true,false),(false,false,true),(true,false,true),(true,true,true),(false,true,true)]
theorem nR:pB0 a b=uB0.map (cU a b):=rfl
theorem iG{l:List B3}{i:Nat}(h:i<l.length):gp (l.map (cU a b)) i=cU a b (l.getD i (false,false,false)):=by
 unfold gp;rw[List.getD_eq_getElem?_getD,List.getD_eq_getElem?_getD,List.getElem?_map,List.getElem?_eq_getElem h];rfl
theorem zEU(hx:a.x<b.x)(hy:a.y<b.y)(hz:a.z<b.z){l:List B3}{F:List Fc}{E:List En}:fG (l.map (cU a b),F,E)=orB (edZ (vN (l.map (cU a b),F,E))) (fun i k=>lt3 (l.getD i (false,false,false)) (l.getD k (false,false,false))) l.length:=by
 unfold fG;rw[show(l.map (cU a b),F,E).1.length=l.length from List.length_map _];refine zQ8 (n:=l.length) (fun i k hi u=>?_) _ (Nat.le_refl _)
 show lsP (gp (l.map (cU a b)) i) (gp (l.map (cU a b)) k)↔_
 rw[iG hi,iG u];exact zOQ hx hy hz _ _
theorem oV:vN (pB0 a b,fB0 a b,[])=[[[0,1,5,4]],[[1,2,6,5]],[[2,3,7,6]],[[3,0,4,7]],[[3,2,1,0]],[[4,5,6,7]]]:=rfl
theorem zH2(hx:a.x<b.x)(hy:a.y<b.y)(hz:a.z<b.z):fG (pB0 a b,fB0 a b,[])=[0,4,3,7,1,5,2,6]:=by
 rw[nR,zEU hx hy hz,←nR,oV]
 decide +kernel
end Bk
namespace Bk
set_option linter.unusedVariables false
set_option linter.unusedSimpArgs false
open Classical
theorem pF{α:Type}{p:Nat→Prop}{g:Nat→α}:∀{n},(∀i,i<n→¬p i)→cG p g n=[]
  |0,_=>rfl
  |n+1,h=>by
   rw[←y5 (h n (by omega))];exact pF fun i hi=>h i (by omega)
theorem zAT{α:Type}{g:Nat→List α}:∀{n},(∀i,i<n→g i=[])→cE g n=[]
  |0,_=>rfl
  |n+1,h=>by
   show cE g n++g n=[]
   rw[h n (by omega),zAT fun i hi=>h i (by omega)];rfl
def tmB(E:List E5)(a b:Int):Nat→Int
  |0=>0
  |m+1=>if(E.getD m ((0:Int),(0:Int),(0:Int),(0:Int),(0:Int))).1=a∧(E.getD m ((0:Int),(0:Int),(0:Int),(0:Int),(0:Int))).2.1=b then tmB E a b m+1 else tmB E a b m
theorem zJQ(E:List E5)(a b:Int):∀m,dU E a b m=tmB E a b m
  |0=>rfl
  |m+1=>by
   unfold dU tmB;rw[zJQ E a b m]
   by_cases h:zVV (E.getD m ((0:Int),(0:Int),(0:Int),(0:Int),(0:Int))) a b
   · rw[if_pos h];exact(if_pos h).symm
   · rw[if_neg h];exact(if_neg h).symm
def clB(E:List E5):Bool:=(List.range E.length).all fun i=>!decide (tmB E (E.getD i ((0:Int),(0:Int),(0:Int),(0:Int),(0:Int))).2.1 (E.getD i ((0:Int),(0:Int),(0:Int),(0:Int),(0:Int))).1 E.length<tmB E (E.getD i ((0:Int),(0:Int),(0:Int),(0:Int),(0:Int))).1 (E.getD i ((0:Int),(0:Int),(0:Int),(0:Int),(0:Int))).2.1 E.length)
theorem yBT{F:List (List (List Int))}(hv:vaP F)(h:clB (edZ F)=true):clZ F=[]:=by
 unfold clZ;rw[if_pos hv];unfold zZS;refine pF fun i hi=>?_;have u:=List.all_eq_true.1 h i (List.mem_range.2 hi);rw[Bool.not_eq_true',decide_eq_false_iff_not] at u;unfold yBL tmZ;rw[zJQ,zJQ];exact u
theorem yAK{s:Sd}(hb:¬zPA s)(hf:∀f,f<s.2.1.length→vfP (s.2.1.getD f zA).2.1∧nmP s f):szZ s=[]:=by
 unfold szZ;rw[if_neg hb];exact pF fun f u e=>by
  rcases e with e|e
  · exact e (hf f u).1
  · exact e (hf f u).2
theorem yAJ{s:Sd}(h:∀i k,k<i→i<s.1.length→¬gp s.1 i=gp s.1 k):zNK s s.1.length=[]:=pF fun i hi e=>by
 obtain⟨k,hk,e⟩:=e;exact h i k hk hi e
theorem yA3{s:Sd}(hz:∀f,f<s.2.1.length→¬(s.2.1.getD f zA).1.1=zT)(ho:∀f,f<s.2.1.length→∀l,l<(fP s f).length→∀k,k<(gl (fP s f) l).length→sdZ (s.2.1.getD f zA).1 (gp (gl (fP s f) l) k)=0):plZ s=[]:=by
 have G:zPD s s.2.1.length=[]:=pF fun f u e=>hz f u e;have D:zKO s s.2.1.length=[]:=zAT fun f u=>zAT fun l z=>pF fun k C e=>e (ho f u l z k C);unfold plZ;rw[G,D];rfl
theorem yA6{s:Sd}(h:∀f,f<s.2.1.length→vQ (rG s f) 0 1=0∧ouZ (rG s f)=1):neZ s=[]:=by
 have C:zS3 s s.2.1.length=[]:=pF fun f u e=>e (h f u).1;have z:zYO s s.2.1.length=[]:=pF fun f u e=>e (h f u).2;unfold neZ;rw[C,z];rfl
theorem zTY{s:Sd}(h1:szZ s=[])(h2:zNK s s.1.length=[])(h3:plZ s=[])(h4:neZ s=[])(h5:clZ (vN s)=[]):dY s:=by
 unfold dY zVY;rw[h1,h2,h3,h4,h5];rfl
theorem yBR{s:Sd}{f:Nat}{i j k l:Int}(hf:f<s.2.1.length)(hn:nmP s f)(hl:(s.2.1.getD f zA).2.1=[[i,j,k,l]]):fP s f=[[gp s.1 i.toNat,gp s.1 j.toNat,gp s.1 k.toNat,gp s.1 l.toNat]]:=by
 rw[zSP hf hn,hl];unfold zI5;rw[hl];rfl
theorem zSE{s:Sd}{f:Nat}{A B C D:Pt}(h:fP s f=[[A,B,C,D]]):rG s f=[[cH (s.2.1.getD f zA).1 A,cH (s.2.1.getD f zA).1 B,cH (s.2.1.getD f zA).1 C,cH (s.2.1.getD f zA).1 D]]:=by
 unfold rG;rw[h];rfl
theorem zX5{x p y q:Rat}(hp:0<p)(hq:0<q){l:List Pt}{t:List PI}(ht:t=[(0,0),(1,0),(1,1),(0,1)]∨t=[(1,0),(1,1),(0,1),(0,0)]∨t=[(1,1),(0,1),(0,0),(1,0)]∨t=[(0,1),(0,0),(1,0),(1,1)])
    (hl:l=t.map fun u=>T3.mk (x+p*(u.1:Rat)) (y+q*(u.2:Rat)) (0:Rat)):vQ [l] 0 1=0∧ouZ [l]=1:=by
 have M:t.length=4:=by rcases ht with rfl|rfl|rfl|rfl<;>rfl
 have C:l.length=t.length:=by rw[hl,List.length_map]
 have H:∀m,m<t.length→pr (gp l m) 0 1=ag x p y q (gI t m):=fun m G=>by
  rw[hl];unfold gp gI;rw[List.getD_eq_getElem?_getD,List.getD_eq_getElem?_getD,List.getElem?_map,List.getElem?_eq_getElem G]
  rfl
 have D:aP l 0 1:=zHO hp hq C H (by rcases ht with rfl|rfl|rfl|rfl<;>decide +kernel);have e0:((0:Int):Rat)=0:=rfl;have J:((1:Int):Rat)=1:=rfl;have I:arZ l 0 1=2*(p*q):=by
  unfold arZ
  rcases ht with rfl|rfl|rfl|rfl<;>(subst hl;simp[uS,gp,T3.at,e0,J];grind)
 have z:0<xJ (arZ l 0 1):=by
  rw[I,z5];have:=tS hp hq;grind
 exact⟨zIG D (by omega) z,zQ7 z⟩
end Bk
namespace Bk
set_option linter.unusedVariables false
set_option linter.unusedSimpArgs false
open Classical
abbrev Dir:=Nat×Bool
def dI:Dir→Nat
  |(2,true)=>0|(2,false)=>1|(1,true)=>2|(1,false)=>0|(_,true)=>1|(_,false)=>2
def dJ:Dir→Nat
  |(2,true)=>1|(2,false)=>0|(1,true)=>0|(1,false)=>2|(_,true)=>2|(_,false)=>1
def dN(d:Dir)(c:Rat):Pt:=(zT).set d.1 (if d.2 then c else -c)
def zO9(u:B3):Nat→Bool
  |0=>u.1|1=>u.2.1|_=>u.2.2
def bI(x:Bool):Int:=if x then 1 else 0
def pI2(d:Dir)(u:B3):PI:=(bI (zO9 u (dI d)),bI (zO9 u (dJ d)))
variable {a b:Pt}
theorem zWW(u:B3)(i:Nat):(cU a b u).at i=if zO9 u i then b.at i else a.at i:=by
 obtain⟨C,z,u3⟩:=u
 match i with
 |0=>rfl
 |1=>rfl
 |n+2=>rfl
theorem zSV(u:B3)(i:Nat):(cU a b u).at i=a.at i+(b.at i-a.at i)*((bI (zO9 u i):Int):Rat):=by
 rw[zWW];have e0:((0:Int):Rat)=0:=rfl;have z:((1:Int):Rat)=1:=rfl;unfold bI
 split
 · rw[z];grind
 · rw[e0];grind
theorem zLX{d:Dir}{c:Rat}(hd:d.1<3)(hc:0<c):axI (dN d c)=dI d∧axJ (dN d c)=dJ d∧¬dN d c=zT:=by
 obtain⟨u,C⟩:=d;have G:u=0∨u=1∨u=2:=by have:u<3:=hd;omega
 have H:¬dN (u,C) c=zT:=fun e=>by
  have J:=congrArg T3.x e;have I:=congrArg T3.y e;have D:=congrArg T3.z e
  rcases G with rfl|rfl|rfl<;>cases C<;>simp[dN,T3.set] at J I D<;>grind
 refine⟨?_,?_,H⟩
 · rcases G with rfl|rfl|rfl<;>cases C<;>simp[dN,T3.set,axI,dI]<;>grind
 · rcases G with rfl|rfl|rfl<;>cases C<;>simp[dN,T3.set,axJ,dJ]<;>grind
def zG8(d:Dir)(us:List B3):Bool:=(us.all fun u=>zO9 u d.1==d.2)&&(decide (us.map (pI2 d)=[(0,0),(1,0),(1,1),(0,1)])||decide (us.map (pI2 d)=[(1,0),(1,1),(0,1),(0,0)])||decide (us.map (pI2 d)=[(1,1),(0,1),(0,0),(1,0)])||decide (us.map (pI2 d)=[(0,1),(0,0),(1,0),(1,1)]))
theorem zVQ{d:Dir}{c o:Rat}(hd:d.1<3)(hc:0<c)(u:B3):cH (dN d c,o) (cU a b u)=T3.mk (a.at (dI d)+(b.at (dI d)-a.at (dI d))*(((pI2 d u).1:Int):Rat)) (a.at (dJ d)+(b.at (dJ d)-a.at (dJ d))*(((pI2 d u).2:Int):Rat)) (0:Rat):=by
 unfold cH;rw[(zLX hd hc).1,(zLX hd hc).2.1,zSV,zSV];rfl
theorem zFG{d:Dir}{c o:Rat}(hd:d.1<3)(hc:0<c)(h:∀i,a.at i<b.at i){us:List B3}(ht:zG8 d us=true):vQ [us.map fun u=>cH (dN d c,o) (cU a b u)] 0 1=0∧ouZ [us.map fun u=>cH (dN d c,o) (cU a b u)]=1:=by
 unfold zG8 at ht;simp only[Bool.and_eq_true,Bool.or_eq_true,decide_eq_true_iff] at ht;refine zX5 (x:=a.at (dI d)) (p:=b.at (dI d)-a.at (dI d)) (y:=a.at (dJ d)) (q:=b.at (dJ d)-a.at (dJ d)) (t:=us.map (pI2 d)) (by have:=h (dI d);grind) (by have:=h (dJ d);grind) ?_ ?_
 · rcases ht.2 with((h1|h1)|h1)|h1
   · exact .inl h1
   · exact .inr (.inl h1)
   · exact .inr (.inr (.inl h1))
   · exact .inr (.inr (.inr h1))
 · rw[List.map_map]
   exact List.map_congr_left fun u _=>zVQ hd hc u
theorem zOY{d:Dir}{c:Rat}(hd:d.1<3){u:B3}(hu:zO9 u d.1=d.2):sdZ (dN d c,(if d.2 then c else -c)*(if d.2 then b.at d.1 else a.at d.1)) (cU a b u)=0:=by
 unfold sdZ hgt;have e:=zWW (a:=a) (b:=b) u d.1;rw[hu] at e;obtain⟨z,C⟩:=d;have D:z=0∨z=1∨z=2:=by have:z<3:=hd;omega
 have h0:jH (dN (z,C) c) (cU a b u)=(if C then c else -c)*(cU a b u).at z:=by
  rcases D with rfl|rfl|rfl<;>(simp only[jH,dN,T3.set,T3.at];grind)
 rw[h0,e];refine if_pos ?_
 show _*_-_*_=(0:Rat)
 grind
abbrev u0:B3:=(false,false,false)
def mJ(a b:Pt)(us:List B3)(d:Dir)(f:Fc):Prop:=
 d.1<3∧∃c,0<c∧f.1=(dN d c,(if d.2 then c else -c)*(if d.2 then b.at d.1 else a.at d.1))∧∃i j k l:Nat,f.2.1=[[(i:Int),(j:Int),(k:Int),(l:Int)]]∧(i<us.length∧j<us.length∧k<us.length∧l<us.length)∧zG8 d [us.getD i u0,us.getD j u0,us.getD k u0,us.getD l u0]=true
section
variable {us:List B3}{F:List Fc}
theorem zS1{d:Dir}{f:Nat}(h:mJ a b us d (F.getD f zA)):nmP (us.map (cU a b),F,[]) f:=by
 obtain⟨_,c,_,_,i,j,k,l,I,⟨S,O,M,J⟩,_⟩:=h;intro m H q G
 show 0≤_∧_<(((us.map (cU a b)).length:Nat):Int)
 rw[List.length_map];have z:m<((F.getD f zA).2.1).length:=H;have u:q<(((F.getD f zA).2.1).getD m []).length:=G
 show 0≤(((F.getD f zA).2.1).getD m []).getD q 0∧(((F.getD f zA).2.1).getD m []).getD q 0<_
 rw[I] at z u ⊢;have C:m=0:=by have:m<1:=z;omega
 subst C;have D:q<4:=u;have:q=0∨q=1∨q=2∨q=3:=by omega
 rcases this with rfl|rfl|rfl|rfl
 · show 0≤(i:Int)∧(i:Int)<_;omega
 · show 0≤(j:Int)∧(j:Int)<_;omega
 · show 0≤(k:Int)∧(k:Int)<_;omega
 · show 0≤(l:Int)∧(l:Int)<_;omega
theorem zB1{d:Dir}{f:Nat}(hf:f<F.length)(h:mJ a b us d (F.getD f zA)):∃vs:List B3,zG8 d vs=true∧vs.length=4∧fP (us.map (cU a b),F,[]) f=[vs.map (cU a b)]:=by
 have z:=zS1 h;obtain⟨_,c,_,_,i,j,k,l,C,⟨I,H,G,D⟩,u⟩:=h;refine⟨[us.getD i u0,us.getD j u0,us.getD k u0,us.getD l u0],u,rfl,?_⟩;rw[yBR (s:=(us.map (cU a b),F,[])) hf z C]
 show[[gp (us.map (cU a b)) _,gp (us.map (cU a b)) _,gp (us.map (cU a b)) _,gp (us.map (cU a b)) _]]=_
 rw[Int.toNat_natCast,Int.toNat_natCast,Int.toNat_natCast,Int.toNat_natCast,iG I,iG H,iG G,iG D];rfl
theorem zND(h:a.x<b.x∧a.y<b.y∧a.z<b.z)(hn:∀i k,k<i→i<us.length→¬us.getD i u0=us.getD k u0)(hu:us.length≤512∧F.length≤256)(hF:∀f,f<F.length→∃d,mJ a b us d (F.getD f zA))(hv:∀f,f<F.length→vfP (F.getD f zA).2.1)
    (hva:vaP (vN (us.map (cU a b),F,[])))(hc:clB (edZ (vN (us.map (cU a b),F,[])))=true):dY (us.map (cU a b),F,[]):=by
 have aa:∀i,a.at i<b.at i:=fun i=>match i with
  |0=>h.1|1=>h.2.1|_+2=>h.2.2
 have X:(us.map (cU a b)).length=us.length:=List.length_map _;refine zTY (yAK (fun e=>?_) fun f D=>?_) (yAJ fun i k Z hi e=>?_) (yA3 (fun f D=>?_) fun f D l hl k hk=>?_) (yA6 fun f D=>?_) (yBT hva hc)
 · rcases e with(e|e)|e
   · have O:512<(us.map (cU a b)).length:=e
     omega
   · have O:256<F.length:=e
     omega
   · have O:1024<([]:List En).length:=e
     simp at O
 · obtain⟨d,J⟩:=hF f D
   exact⟨hv f D,zS1 J⟩
 · have U:i<us.length:=by rw[←X];exact hi
   have O:gp (us.map (cU a b)) i=gp (us.map (cU a b)) k:=e;rw[iG U,iG (by omega)] at O;exact hn i k Z U (zZW h.1 h.2.1 h.2.2 O)
 · obtain⟨d,C,c,G,T,_⟩:=hF f D
   show ¬(F.getD f zA).1.1=zT
   rw[T];exact(zLX C G).2.2
 · obtain⟨d,J⟩:=hF f D
   obtain⟨H,S,h4,M⟩:=zB1 D J;obtain⟨C,c,G,T,_⟩:=J;rw[M] at hl hk ⊢;have Y:l=0:=by have:l<1:=hl;omega
   subst Y;have I:k<(H.map (cU a b)).length:=hk;rw[List.length_map] at I
   show sdZ (F.getD f zA).1 (gp (H.map (cU a b)) k)=0
   rw[T,iG I];refine zOY C ?_;unfold zG8 at S;simp only[Bool.and_eq_true] at S;have h9:=List.all_eq_true.1 S.1 (H.getD k u0) (pR I);exact eq_of_beq h9
 · obtain⟨d,J⟩:=hF f D
   obtain⟨H,S,h4,M⟩:=zB1 D J;obtain⟨C,c,G,T,_⟩:=J;have e:rG (us.map (cU a b),F,[]) f=[H.map fun u=>cH (F.getD f zA).1 (cU a b u)]:=by
    obtain⟨v1,v2,v3,v4,rfl⟩:∃v1 v2 v3 v4,H=[v1,v2,v3,v4]:=by
     match H,h4 with
     |[v1,v2,v3,v4],_=>exact⟨_,_,_,_,rfl⟩
    exact zSE M
   rw[e,T];exact zFG C G aa S
end
end Bk
namespace Bk
set_option linter.unusedVariables false
set_option linter.unusedSimpArgs false
open Classical
instance decLp(x:List Int):Decidable (lpP x):=by unfold lpP;exact inferInstance
instance decVf(L:List (List Int)):Decidable (vfP L):=by unfold vfP;exact inferInstance
instance decVa(F:List (List (List Int))):Decidable (vaP F):=by unfold vaP;exact inferInstance
variable {a b:Pt}
theorem zER{N M:Pt}{o r:Rat}(h1:N=M)(h2:o=r):(N,o)=(M,r):=by rw[h1,h2]
theorem zM3(h:a.x<b.x∧a.y<b.y∧a.z<b.z):mJ a b uB0 (1,false) ((fB0 a b).getD 0 zA)∧mJ a b uB0 (0,true) ((fB0 a b).getD 1 zA)∧mJ a b uB0 (1,true) ((fB0 a b).getD 2 zA)∧mJ a b uB0 (0,false) ((fB0 a b).getD 3 zA)∧mJ a b uB0 (2,false) ((fB0 a b).getD 4 zA)∧mJ a b uB0 (2,true) ((fB0 a b).getD 5 zA):=by
 obtain⟨D,C,u⟩:=h;refine⟨?_,?_,?_,?_,?_,?_⟩
 · refine⟨by decide,b.x-a.x,by grind,zER ?_ ?_,0,1,5,4,rfl,by decide,by decide⟩
   · show T3.mk (a.y-a.y) (-(b.x-a.x)) (0:Rat)=T3.mk 0 (-(b.x-a.x)) 0
     rw[iB];refine⟨?_,rfl,rfl⟩;show a.y-a.y=0;grind
   · show jH (T3.mk (a.y-a.y) (-(b.x-a.x)) (0:Rat)) (T3.mk a.x a.y a.z)= -(b.x-a.x)*a.y
     unfold jH;simp only;grind
 · refine⟨by decide,b.y-a.y,by grind,zER ?_ ?_,1,2,6,5,rfl,by decide,by decide⟩
   · show T3.mk (b.y-a.y) (-(b.x-b.x)) (0:Rat)=T3.mk (b.y-a.y) 0 0
     rw[iB];refine⟨rfl,?_,rfl⟩;show -(b.x-b.x)=0;grind
   · show jH (T3.mk (b.y-a.y) (-(b.x-b.x)) (0:Rat)) (T3.mk b.x a.y a.z)=(b.y-a.y)*b.x
     unfold jH;simp only;grind
 · refine⟨by decide,b.x-a.x,by grind,zER ?_ ?_,2,3,7,6,rfl,by decide,by decide⟩
   · show T3.mk (b.y-b.y) (-(a.x-b.x)) (0:Rat)=T3.mk 0 (b.x-a.x) 0
     rw[iB];refine⟨?_,?_,rfl⟩
     · show b.y-b.y=0;grind
     · show -(a.x-b.x)=b.x-a.x;grind
   · show jH (T3.mk (b.y-b.y) (-(a.x-b.x)) (0:Rat)) (T3.mk b.x b.y a.z)=(b.x-a.x)*b.y
     unfold jH;simp only;grind
 · refine⟨by decide,b.y-a.y,by grind,zER ?_ ?_,3,0,4,7,rfl,by decide,by decide⟩
   · show T3.mk (a.y-b.y) (-(a.x-a.x)) (0:Rat)=T3.mk (-(b.y-a.y)) 0 0
     rw[iB];refine⟨?_,?_,rfl⟩
     · show a.y-b.y= -(b.y-a.y);grind
     · show -(a.x-a.x)=0;grind
   · show jH (T3.mk (a.y-b.y) (-(a.x-a.x)) (0:Rat)) (T3.mk a.x b.y a.z)= -(b.y-a.y)*a.x
     unfold jH;simp only;grind
 · refine⟨by decide,1,by decide,zER rfl ?_,3,2,1,0,rfl,by decide,by decide⟩
   show -a.z= -1*a.z
   grind
 · refine⟨by decide,1,by decide,zER rfl ?_,4,5,6,7,rfl,by decide,by decide⟩
   show b.z=1*b.z
   grind
theorem zM4(h:a.x<b.x∧a.y<b.y∧a.z<b.z):∀f,f<(fB0 a b).length→∃d,mJ a b uB0 d ((fB0 a b).getD f zA):=by
 intro f C;have u:f<6:=C;obtain⟨h0,J,I,H,G,D⟩:=zM3 h;have:f=0∨f=1∨f=2∨f=3∨f=4∨f=5:=by omega
 rcases this with rfl|rfl|rfl|rfl|rfl|rfl
 · exact⟨_,h0⟩
 · exact⟨_,J⟩
 · exact⟨_,I⟩
 · exact⟨_,H⟩
 · exact⟨_,G⟩
 · exact⟨_,D⟩
theorem zEL(h:a.x<b.x∧a.y<b.y∧a.z<b.z):dY (pB0 a b,fB0 a b,[]):=by
 have g:∀i,i<uB0.length→∀k,k<i→¬uB0.getD i u0=uB0.getD k u0:=by decide +kernel
 rw[nR];refine zND h (fun i k u hi=>g i hi k u) ⟨by decide,show 6≤256 by decide⟩ (zM4 h) (fun f D=>?_) ?_ ?_
 · have C:f<6:=D
   have:f=0∨f=1∨f=2∨f=3∨f=4∨f=5:=by omega
   rcases this with rfl|rfl|rfl|rfl|rfl|rfl
   · show vfP [[0,1,5,4]];decide +kernel
   · show vfP [[1,2,6,5]];decide +kernel
   · show vfP [[2,3,7,6]];decide +kernel
   · show vfP [[3,0,4,7]];decide +kernel
   · show vfP [[3,2,1,0]];decide +kernel
   · show vfP [[4,5,6,7]];decide +kernel
 · rw[←nR,oV];decide +kernel
 · rw[←nR,oV];decide +kernel
end Bk
namespace Bk
set_option linter.unusedVariables false
set_option linter.unusedSimpArgs false
open Classical
variable {a b:Pt}
def ixB(o:List Int)(n:Nat):Nat→List Int
  |0=>List.replicate n (0:Int)
  |i+1=>(ixB o n i).set (o.getD i 0).toNat (i:Int)
theorem zLL{s:Sd}{o:List Int}(h:fG s=o):∀i,zLM s i=ixB o s.1.length i
  |0=>rfl
  |i+1=>by unfold zLM ixB;rw[zLL h i,h]
theorem zR5(h:a.x<b.x∧a.y<b.y∧a.z<b.z):ixZ (pB0 a b,fB0 a b,[])=[0,4,6,2,1,5,7,3]:=by
 have u:=zH2 h.1 h.2.1 h.2.2;unfold ixZ;rw[zLL u,u]
 show ixB _ 8 8=_
 decide
def uB1:List B3:=[(false,false,false),(false,false,true),(false,true,false),(false,true,true),(true,false,false),(true,false,true),(true,true,false),(true,true,true)]
theorem zRH(h:a.x<b.x∧a.y<b.y∧a.z<b.z):nrP (pB0 a b,fB0 a b,[])=uB1.map (cU a b):=by
 have u:=zH2 h.1 h.2.1 h.2.2;unfold nrP;rw[if_pos (zEL h)];unfold zUX;rw[u];rfl
theorem zMC(h:a.x<b.x∧a.y<b.y∧a.z<b.z){us:List B3}{F:List Fc}{f:Nat}(hf:f<F.length){d:Dir}(hd:mJ a b us d (F.getD f zA)):zHU (us.map (cU a b),F,[]) f 0:=by
 have H:∀i,a.at i<b.at i:=fun i=>match i with
  |0=>h.1|1=>h.2.1|_+2=>h.2.2
 obtain⟨I,M,T,D⟩:=zB1 hf hd;obtain⟨C,c,G,O,_⟩:=hd;obtain⟨v1,v2,v3,v4,rfl⟩:∃v1 v2 v3 v4,I=[v1,v2,v3,v4]:=by
  match I,T with
  |[v1,v2,v3,v4],_=>exact⟨_,_,_,_,rfl⟩
 have e:rG (us.map (cU a b),F,[]) f=[[v1,v2,v3,v4].map fun u=>cH (F.getD f zA).1 (cU a b u)]:=zSE D;have J:=(zFG (o:=(F.getD f zA).1.2) C G H M).2;unfold zHU;rw[e];have U:(F.getD f zA).1=(dN d c,(F.getD f zA).1.2):=by rw[O]
 rw[U];refine Classical.byContradiction fun S=>?_;have h0:ouZ [[v1,v2,v3,v4].map fun u=>cH (dN d c,(F.getD f zA).1.2) (cU a b u)]=0:=if_neg S;rw[h0] at J;exact absurd J (by decide)
theorem zX1{d:Dir}{c r:Rat}(hd:d.1<3)(hc:0<c):scZ (dN d c,(if d.2 then c else -c)*r)=(dN d 1,(if d.2 then 1 else -1)*r):=by
 obtain⟨C,G⟩:=d;have O:C=0∨C=1∨C=2:=by have:C<3:=hd;omega
 have D:∀{x:Rat},x≠0→¬xJ x=0:=fun{x} hx e=>by unfold xJ at e;rw[if_neg hx] at e;split at e<;>omega
 have J:xJ 0=0:=if_pos rfl;have z:c≠0:=by grind
 have u:-c≠0:=by grind
 have M:ivA c*c=1∧ivA (-c)*c=1:=by
  have S:((1:Int):Rat)=1:=rfl;have I:¬c.num<0:=Int.not_lt.2 (Rat.num_nonneg.2 (Rat.le_of_lt hc));have H:(-c).num<0:=Int.not_le.1 fun e=>by have:=Rat.num_nonneg.1 e;grind
  have U:dL c=c:=if_neg I;have T:dL (-c)=c:=by
   have:dL (-c)= - -c:=if_pos H;rw[this];grind
  unfold ivA;rw[U,T,if_neg z,S];grind
 rcases O with rfl|rfl|rfl<;>cases G<;>simp[scZ,dN,T3.set,J,D z,D u,scW]<;>grind
end Bk
namespace Bk
set_option linter.unusedVariables false
set_option linter.unusedSimpArgs false
open Classical
variable {a b:Pt}
def plD(a b:Pt)(d:Dir):Pl:=(dN d 1,(if d.2 then 1 else -1)*(if d.2 then b.at d.1 else a.at d.1))
theorem cA(h:a.x<b.x∧a.y<b.y∧a.z<b.z){us:List B3}{F:List Fc}{f:Nat}(hf:f<F.length){d:Dir}(hd:mJ a b us d (F.getD f zA))(ix:List Int){x:List Int}(hx:(F.getD f zA).2.1=[x]):
 nfF (us.map (cU a b),F,[]) ix f=(plD a b d,[zQG (uU (fun q=>ix.getD (x.getD q 0).toNat 0) x.length)],(F.getD f zA).2.2):=by
 have G:=zMC h hf hd;obtain⟨C,c,D,u,_⟩:=hd;unfold nfF
 show(scZ (F.getD f zA).1,ouL (us.map (cU a b),F,[]) ix f ((F.getD f zA).2.1).length++zBL (us.map (cU a b),F,[]) ix f ((F.getD f zA).2.1).length,(F.getD f zA).2.2)=_
 rw[u,zX1 C D,hx];have J:ouL (us.map (cU a b),F,[]) ix f 1=[nfL (us.map (cU a b),F,[]) ix f 0]:=by
  unfold ouL;rw[←y0 G];rfl
 have I:zBL (us.map (cU a b),F,[]) ix f 1=[]:=if_pos G
 show(_,ouL _ ix f 1++zBL _ ix f 1,_)=_
 rw[J,I];have H:nfL (us.map (cU a b),F,[]) ix f 0=zQG (uU (fun q=>ix.getD (x.getD q 0).toNat 0) x.length):=by
  unfold nfL nwL
  show zQG (uU (fun q=>ix.getD ((((F.getD f zA).2.1).getD 0 []).getD q 0).toNat 0) (((F.getD f zA).2.1).getD 0 []).length)=_
  rw[hx];rfl
 rw[H];rfl
theorem zRI(h:a.x<b.x∧a.y<b.y∧a.z<b.z)(ix:List Int)(hix:ix=[0,4,6,2,1,5,7,3]):
 nfF (pB0 a b,fB0 a b,[]) ix 0=(plD a b (1,false),[[0,4,5,1]],nmS 0 0)∧nfF (pB0 a b,fB0 a b,[]) ix 1=(plD a b (0,true),[[4,6,7,5]],nmS 0 1)∧nfF (pB0 a b,fB0 a b,[]) ix 2=(plD a b (1,true),[[2,3,7,6]],nmS 0 2)∧
 nfF (pB0 a b,fB0 a b,[]) ix 3=(plD a b (0,false),[[0,1,3,2]],nmS 0 3)∧nfF (pB0 a b,fB0 a b,[]) ix 4=(plD a b (2,false),[[0,2,6,4]],[98,111,116,116,111,109])∧nfF (pB0 a b,fB0 a b,[]) ix 5=(plD a b (2,true),[[1,5,7,3]],[116,111,112]):=by
 subst hix;have g:=zM3 h;rw[nR];refine⟨?_,?_,?_,?_,?_,?_⟩
 · rw[cA h (F:=fB0 a b) (f:=0) (show 0<6 by decide) g.1 _ (x:=[0,1,5,4]) rfl];rfl
 · rw[cA h (F:=fB0 a b) (f:=1) (show 1<6 by decide) g.2.1 _ (x:=[1,2,6,5]) rfl];rfl
 · rw[cA h (F:=fB0 a b) (f:=2) (show 2<6 by decide) g.2.2.1 _ (x:=[2,3,7,6]) rfl];rfl
 · rw[cA h (F:=fB0 a b) (f:=3) (show 3<6 by decide) g.2.2.2.1 _ (x:=[3,0,4,7]) rfl];rfl
 · rw[cA h (F:=fB0 a b) (f:=4) (show 4<6 by decide) g.2.2.2.2.1 _ (x:=[3,2,1,0]) rfl];rfl
 · rw[cA h (F:=fB0 a b) (f:=5) (show 5<6 by decide) g.2.2.2.2.2 _ (x:=[4,5,6,7]) rfl];rfl
end Bk
namespace Bk
set_option linter.unusedVariables false
set_option linter.unusedSimpArgs false
open Classical
def lsB:List Nat→List Nat→Bool
  |[],[]=>false
  |[],_::_=>true
  |_::_,[]=>false
  |x::a,y::b=>if x=y then lsB a b else decide (x<y)
theorem zRV:∀a b:List Nat,lsN a b↔lsB a b=true
  |[],[]=>by simp[lsN,lsB]
  |[],_::_=>by simp[lsN,lsB]
  |_::_,[]=>by simp[lsN,lsB]
  |x::a,y::b=>by
   have ih:=zRV a b
   by_cases h:x=y
   · simp[lsN,lsB,h,ih]
   · simp[lsN,lsB,h]
def nsB(nm:Nat→List Nat):Nat→List Nat
  |0=>[]
  |f+1=>eV (nsB nm f) (zDR (fun k=>lsB (nm f) (nm ((nsB nm f).getD k 0))) (nsB nm f).length) f
theorem zK2(nm:Nat→List Nat):∀f x,x∈nsB nm f→x<f
  |f+1,x,h=>by
   unfold nsB eV at h
   rcases List.mem_append.1 h with h|h
   · have:=zK2 nm f x (List.mem_of_mem_take h);omega
   · rcases List.mem_cons.1 h with rfl|h
     · omega
     · have:=zK2 nm f x (List.mem_of_mem_drop h);omega
theorem zR6{α β:Type}(g:α→β)(l:List α)(k:Nat)(x:α):eV (l.map g) k (g x)=(eV l k x).map g:=by
 unfold eV;rw[List.map_append,List.map_cons,List.map_take,List.map_drop]
theorem zK1{s:Sd}{nm:Nat→List Nat}{n:Nat}(hn:∀i,i<n→(nfF s (ixZ s) i).2.2=nm i)(hd:∀i,i<n→∀k,k<i→¬nm i=nm k):∀f,f≤n→u4 s f=(nsB nm f).map fun i=>nfF s (ixZ s) i
  |0,_=>rfl
  |f+1,hf=>by
   have ih:=zK1 hn hd f (by omega);unfold u4 nsB;have hb:cV (zLC (nfF s (ixZ s) f) (u4 s f)) (u4 s f).length=zDR (fun k=>lsB (nm f) (nm ((nsB nm f).getD k 0))) (nsB nm f).length:=by
    rw[ih,List.length_map];refine zDQ _ fun k u=>?_;have z:=zK2 nm f _ (pR (d:=0) u);have e:((nsB nm f).map fun i=>nfF s (ixZ s) i).getD k zA=nfF s (ixZ s) ((nsB nm f).getD k 0):=by
     rw[List.getD_eq_getElem?_getD,List.getElem?_map,List.getElem?_eq_getElem u,List.getD_eq_getElem?_getD,List.getElem?_eq_getElem u];rfl
    unfold zLC lsF;rw[e,hn f (by omega),hn _ (by omega),if_neg (hd f (by omega) _ z)];exact zRV _ _
   rw[hb,ih,zR6]
variable {a b:Pt}
def nm0(i:Nat):List Nat:=([[115,48,46,48],[115,48,46,49],[115,48,46,50],[115,48,46,51],[98,111,116,116,111,109],[116,111,112]]:List (List Nat)).getD i []
def fB1(a b:Pt):List Fc:=[(plD a b (2,false),[[0,2,6,4]],[98,111,116,116,111,109]),(plD a b (1,false),[[0,4,5,1]],[115,48,46,48]),(plD a b (0,true),[[4,6,7,5]],[115,48,46,49]),(plD a b (1,true),[[2,3,7,6]],[115,48,46,50]),(plD a b (0,false),[[0,1,3,2]],[115,48,46,51]),(plD a b (2,true),[[1,5,7,3]],[116,111,112])]
theorem zRG(h:a.x<b.x∧a.y<b.y∧a.z<b.z):nrF (pB0 a b,fB0 a b,[])=fB1 a b:=by
 have u:=zR5 h;obtain⟨h0,G,D,C,I,H⟩:=zRI h _ u;rw[zYL (by decide)] at h0 G D C;have J:∀i,i<6→(nfF (pB0 a b,fB0 a b,[]) (ixZ (pB0 a b,fB0 a b,[])) i).2.2=nm0 i:=fun i hi=>by
  have:i=0∨i=1∨i=2∨i=3∨i=4∨i=5:=by omega
  rcases this with rfl|rfl|rfl|rfl|rfl|rfl
  · rw[h0];rfl
  · rw[G];rfl
  · rw[D];rfl
  · rw[C];rfl
  · rw[I];rfl
  · rw[H];rfl
 have M:∀i,i<6→∀k,k<i→¬nm0 i=nm0 k:=by decide
 unfold nrF;rw[if_pos (zEL h)]
 show u4 _ 6=_
 rw[zK1 J M 6 (Nat.le_refl _),show nsB nm0 6=[4,0,1,2,3,5] by decide];simp only[List.map_cons,List.map_nil];rw[h0,G,D,C,I,H]
 rfl
end Bk
namespace Bk
set_option linter.unusedVariables false
set_option linter.unusedSimpArgs false
open Classical
variable {a b:Pt}
def fB2(a b:Pt):List Fc:=[(plD a b (2,false),[[0,2,6,4]],[122,48]),(plD a b (1,false),[[0,4,5,1]],[121,48]),(plD a b (0,true),[[4,6,7,5]],[120,49]),(plD a b (1,true),[[2,3,7,6]],[121,49]),(plD a b (0,false),[[0,1,3,2]],[120,48]),(plD a b (2,true),[[1,5,7,3]],[122,49])]
theorem zUP(h:mV a b):prP (blL a b) a.z b.z=uB1.map (cU a b)∧prF (blL a b) a.z b.z=fB1 a b:=by
 have u:=zNE h;have C:=zS5 h;rw[(zVZ h).1] at C;unfold prP prF;rw[if_pos C,if_pos C,zHS u.1 u.2.1];exact⟨zRH u,zRG u⟩
theorem zNG(h:mV a b):blS a b=(uB1.map (cU a b),fB2 a b,[]):=by
 obtain⟨C,u⟩:=zUP h;unfold blS blG;rw[zTM,C,u];refine congrArg (fun z=>(uB1.map (cU a b),z,([]:List En))) ?_;simp only[fB1,fB2,List.map_cons,List.map_nil,rnF];simp[rnN]
end Bk
namespace Bk
set_option linter.unusedVariables false
set_option linter.unusedSimpArgs false
open Classical
variable {a b:Pt}
theorem zGX:mJ a b uB1 (2,false) ((fB2 a b).getD 0 zA)∧mJ a b uB1 (1,false) ((fB2 a b).getD 1 zA)∧mJ a b uB1 (0,true) ((fB2 a b).getD 2 zA)∧mJ a b uB1 (1,true) ((fB2 a b).getD 3 zA)∧mJ a b uB1 (0,false) ((fB2 a b).getD 4 zA)∧mJ a b uB1 (2,true) ((fB2 a b).getD 5 zA):=
 ⟨⟨by decide,1,by decide,rfl,0,2,6,4,rfl,by decide,by decide⟩,⟨by decide,1,by decide,rfl,0,4,5,1,rfl,by decide,by decide⟩,⟨by decide,1,by decide,rfl,4,6,7,5,rfl,by decide,by decide⟩,⟨by decide,1,by decide,rfl,2,3,7,6,rfl,by decide,by decide⟩,⟨by decide,1,by decide,rfl,0,1,3,2,rfl,by decide,by decide⟩,⟨by decide,1,by decide,rfl,1,5,7,3,rfl,by decide,by decide⟩⟩
theorem dB:vN (uB1.map (cU a b),fB2 a b,[])=[[[0,2,6,4]],[[0,4,5,1]],[[4,6,7,5]],[[2,3,7,6]],[[0,1,3,2]],[[1,5,7,3]]]:=rfl
theorem zPV(h:a.x<b.x∧a.y<b.y∧a.z<b.z):dY (uB1.map (cU a b),fB2 a b,[]):=by
 have g:∀i,i<uB1.length→∀k,k<i→¬uB1.getD i u0=uB1.getD k u0:=by decide +kernel
 obtain⟨h0,M,J,I,H,G⟩:=zGX (a:=a) (b:=b);refine zND h (fun i k D hi=>g i hi k D) ⟨by decide,show 6≤256 by decide⟩ (fun f C=>?_) (fun f C=>?_) ?_ ?_
 · have u:f<6:=C
   have:f=0∨f=1∨f=2∨f=3∨f=4∨f=5:=by omega
   rcases this with rfl|rfl|rfl|rfl|rfl|rfl
   · exact⟨_,h0⟩
   · exact⟨_,M⟩
   · exact⟨_,J⟩
   · exact⟨_,I⟩
   · exact⟨_,H⟩
   · exact⟨_,G⟩
 · have u:f<6:=C
   have:f=0∨f=1∨f=2∨f=3∨f=4∨f=5:=by omega
   rcases this with rfl|rfl|rfl|rfl|rfl|rfl
   · show vfP [[0,2,6,4]];decide +kernel
   · show vfP [[0,4,5,1]];decide +kernel
   · show vfP [[4,6,7,5]];decide +kernel
   · show vfP [[2,3,7,6]];decide +kernel
   · show vfP [[0,1,3,2]];decide +kernel
   · show vfP [[1,5,7,3]];decide +kernel
 · rw[dB];decide +kernel
 · rw[dB];decide +kernel
end Bk
namespace Bk
set_option linter.unusedVariables false
set_option linter.unusedSimpArgs false
open Classical
variable {a b:Pt}
theorem zME(h:a.x<b.x∧a.y<b.y∧a.z<b.z):fG (uB1.map (cU a b),fB2 a b,[])=[0,1,2,3,4,5,6,7]:=by
 rw[zEU h.1 h.2.1 h.2.2,dB]
 decide +kernel
theorem zVG(h:a.x<b.x∧a.y<b.y∧a.z<b.z):ixZ (uB1.map (cU a b),fB2 a b,[])=[0,1,2,3,4,5,6,7]:=by
 have u:=zME h;unfold ixZ;rw[zLL u,u]
 show ixB _ 8 8=_
 decide
def fB3(a b:Pt):List Fc:=[(plD a b (0,false),[[0,1,3,2]],[120,48]),(plD a b (0,true),[[4,6,7,5]],[120,49]),(plD a b (1,false),[[0,4,5,1]],[121,48]),(plD a b (1,true),[[2,3,7,6]],[121,49]),(plD a b (2,false),[[0,2,6,4]],[122,48]),(plD a b (2,true),[[1,5,7,3]],[122,49])]
def nm1(i:Nat):List Nat:=([[122,48],[121,48],[120,49],[121,49],[120,48],[122,49]]:List (List Nat)).getD i []
theorem zUY(h:a.x<b.x∧a.y<b.y∧a.z<b.z)(ix:List Int)(hix:ix=[0,1,2,3,4,5,6,7]):∀i,i<6→nfF (uB1.map (cU a b),fB2 a b,[]) ix i=(fB2 a b).getD i zA:=by
 subst hix;obtain⟨h0,H,G,D,C,u⟩:=zGX (a:=a) (b:=b);intro i hi;have:i=0∨i=1∨i=2∨i=3∨i=4∨i=5:=by omega
 rcases this with rfl|rfl|rfl|rfl|rfl|rfl
 · rw[cA h (F:=fB2 a b) (f:=0) (show 0<6 by decide) h0 _ (x:=[0,2,6,4]) rfl];rfl
 · rw[cA h (F:=fB2 a b) (f:=1) (show 1<6 by decide) H _ (x:=[0,4,5,1]) rfl];rfl
 · rw[cA h (F:=fB2 a b) (f:=2) (show 2<6 by decide) G _ (x:=[4,6,7,5]) rfl];rfl
 · rw[cA h (F:=fB2 a b) (f:=3) (show 3<6 by decide) D _ (x:=[2,3,7,6]) rfl];rfl
 · rw[cA h (F:=fB2 a b) (f:=4) (show 4<6 by decide) C _ (x:=[0,1,3,2]) rfl];rfl
 · rw[cA h (F:=fB2 a b) (f:=5) (show 5<6 by decide) u _ (x:=[1,5,7,3]) rfl];rfl
theorem zLV(h:mV a b):blP a b=uB1.map (cU a b)∧blF a b=fB3 a b:=by
 have z:=zNE h;obtain⟨_,J,I⟩:=zVZ h;rw[J,I,zNG h];have D:=zPV z;have G:=zME z;have C:=zVG z;refine⟨?_,?_⟩
 · unfold nrP
   rw[if_pos D];unfold zUX;rw[G];rfl
 · have u:=zUY z _ C
   have H:∀i,i<6→(nfF (uB1.map (cU a b),fB2 a b,[]) (ixZ (uB1.map (cU a b),fB2 a b,[])) i).2.2=nm1 i:=fun i hi=>by
    rw[u i hi];have:i=0∨i=1∨i=2∨i=3∨i=4∨i=5:=by omega
    rcases this with rfl|rfl|rfl|rfl|rfl|rfl<;>rfl
   unfold nrF;rw[if_pos D]
   show u4 _ 6=_
   rw[zK1 H (by decide) 6 (Nat.le_refl _),show nsB nm1 6=[4,2,1,3,0,5] by decide];simp only[List.map_cons,List.map_nil];rw[u 0 (by decide),u 1 (by decide),u 2 (by decide),u 3 (by decide),u 4 (by decide),u 5 (by decide)]
   rfl
end Bk
namespace Bk
set_option linter.unusedVariables false
set_option linter.unusedSimpArgs false
open Classical
variable {a b:Pt}
theorem zHT{P:List Pt}(h:0<xJ (arZ P 0 1)):nF P:=zOX fun e=>by
 have:arZ P 0 1=0:=e;rw[this] at h;exact absurd h (by decide)
theorem zS0(h:a.x<b.x∧a.y<b.y∧a.z<b.z){us:List B3}{F:List Fc}(hu:us.length≤512∧F.length≤256)(hF:∀f,f<F.length→∃d,mJ a b us d (F.getD f zA)):okS (us.map (cU a b),F,[]):=by
 refine⟨⟨⟨?_,?_⟩,Nat.zero_le _⟩,fun f C=>?_,fun f C x J=>?_⟩
 · show(us.map (cU a b)).length≤1000
   rw[List.length_map];omega
 · show F.length≤1000
   omega
 · obtain⟨d,_,c,_,_,i,j,k,l,S,_⟩:=hF f C
   show(F.getD f zA).2.1.length≤16∧∀l,l<(F.getD f zA).2.1.length→((F.getD f zA).2.1.getD l []).length≤64
   rw[S];refine⟨show 1≤16 by decide,fun m O=>?_⟩;have G:m=0:=by have:m<1:=O;omega
   subst G
   show 4≤64
   decide
 · obtain⟨d,M⟩:=hF f C
   have D:=zMC h C M;obtain⟨I,U,T,H⟩:=zB1 C M;obtain⟨v1,v2,v3,v4,rfl⟩:∃v1 v2 v3 v4,I=[v1,v2,v3,v4]:=by
    match I,T with
    |[v1,v2,v3,v4],_=>exact⟨_,_,_,_,rfl⟩
   have e:rG (us.map (cU a b),F,[]) f=[[v1,v2,v3,v4].map fun u=>cH (F.getD f zA).1 (cU a b u)]:=zSE H;unfold zHU at D;rw[e] at D J;rw[List.mem_singleton.1 J];exact zHT D
theorem zS4(h:mV a b):blH a b:=by
 have u:=zNE h;refine⟨fun x z=>?_,fun _=>?_,?_⟩
 · have:x=bB a b:=List.mem_singleton.1 z
   rw[this];exact zHT (zS7 u.1 u.2.1)
 · rw[zHS u.1 u.2.1,nR]
   exact zS0 u ⟨by decide,show 6≤256 by decide⟩ (zM4 u)
 · rw[zNG h]
   obtain⟨h0,M,J,I,H,G⟩:=zGX (a:=a) (b:=b);refine zS0 u ⟨by decide,show 6≤256 by decide⟩ fun f D=>?_;have C:f<6:=D;have:f=0∨f=1∨f=2∨f=3∨f=4∨f=5:=by omega
   rcases this with rfl|rfl|rfl|rfl|rfl|rfl
   · exact⟨_,h0⟩
   · exact⟨_,M⟩
   · exact⟨_,J⟩
   · exact⟨_,I⟩
   · exact⟨_,H⟩
   · exact⟨_,G⟩
end Bk
namespace Bk
set_option linter.unusedVariables false
set_option linter.unusedSimpArgs false
open Classical
variable {a b:Pt}
def bxS(a b:Pt):Sd:=(uB1.map (cU a b),fB3 a b,[])
theorem zNF(h:mV a b):bkS a b=bxS a b:=by
 obtain⟨z,u⟩:=zLV h;unfold bkS bxS;rw[z,u]
def cC(a b:Pt)(i:Nat):Pt:=cU a b (uB1.getD i u0)
theorem dF(i j k l:Nat)(hi:i<8)(hj:j<8)(hk:k<8)(hl:l<8):jM (bxS a b) [[(i:Int),(j:Int),(k:Int),(l:Int)]] 1=[T3.mk (cC a b i) (cC a b j) (cC a b k),T3.mk (cC a b i) (cC a b k) (cC a b l)]:=by
 have g:∀m:Nat,m<8→pnA (bxS a b) (m:Int)=cC a b m:=fun m u=>by
  unfold pnA;rw[Int.toNat_natCast];exact iG (l:=uB1) u
 show[]++([]++[T3.mk (pnA (bxS a b) (i:Int)) (pnA (bxS a b) (j:Int)) (pnA (bxS a b) (k:Int))]++[T3.mk (pnA (bxS a b) (i:Int)) (pnA (bxS a b) (k:Int)) (pnA (bxS a b) (l:Int))])=_
 rw[g i hi,g j hj,g k hk,g l hl];rfl
theorem zG2:fQ (bxS a b) (fB3 a b) 6=[T3.mk (cC a b 0) (cC a b 1) (cC a b 3),T3.mk (cC a b 0) (cC a b 3) (cC a b 2),T3.mk (cC a b 4) (cC a b 6) (cC a b 7),T3.mk (cC a b 4) (cC a b 7) (cC a b 5),T3.mk (cC a b 0) (cC a b 4) (cC a b 5),T3.mk (cC a b 0) (cC a b 5) (cC a b 1),T3.mk (cC a b 2) (cC a b 3) (cC a b 7),T3.mk (cC a b 2) (cC a b 7) (cC a b 6),T3.mk (cC a b 0) (cC a b 2) (cC a b 6),T3.mk (cC a b 0) (cC a b 6) (cC a b 4),T3.mk (cC a b 1) (cC a b 5) (cC a b 7),T3.mk (cC a b 1) (cC a b 7) (cC a b 3)]:=by
 show((((([]++jM (bxS a b) [[((0:Nat):Int),((1:Nat):Int),((3:Nat):Int),((2:Nat):Int)]] 1)++jM (bxS a b) [[((4:Nat):Int),((6:Nat):Int),((7:Nat):Int),((5:Nat):Int)]] 1)++jM (bxS a b) [[((0:Nat):Int),((4:Nat):Int),((5:Nat):Int),((1:Nat):Int)]] 1)++jM (bxS a b) [[((2:Nat):Int),((3:Nat):Int),((7:Nat):Int),((6:Nat):Int)]] 1)++jM (bxS a b) [[((0:Nat):Int),((2:Nat):Int),((6:Nat):Int),((4:Nat):Int)]] 1)++jM (bxS a b) [[((1:Nat):Int),((5:Nat):Int),((7:Nat):Int),((3:Nat):Int)]] 1=_
 rw[dF 0 1 3 2 (by decide) (by decide) (by decide) (by decide),dF 4 6 7 5 (by decide) (by decide) (by decide) (by decide),dF 0 4 5 1 (by decide) (by decide) (by decide) (by decide),dF 2 3 7 6 (by decide) (by decide) (by decide) (by decide),dF 0 2 6 4 (by decide) (by decide) (by decide) (by decide),dF 1 5 7 3 (by decide) (by decide) (by decide) (by decide)]
 rfl
theorem zJL:dQ (bxS a b)=6*((b.x-a.x)*(b.y-a.y)*(b.z-a.z)):=by
 have e:dQ (bxS a b)=iN (fQ (bxS a b) (fB3 a b) 6):=rfl;rw[e,zG2];simp only[iN,List.foldl,aA,jH,sO,cC,cU,cB,uB1,List.getD_cons_zero,List.getD_cons_succ,if_true,Bool.false_eq_true,if_false];generalize a.x=p;generalize a.y=q;generalize a.z=r;generalize b.x=u;generalize b.y=v;generalize b.z=w;grind
theorem zZU:zZV (bxS a b)=scT (12*((b.x-a.x)*(b.y-a.y)*(b.z-a.z))) (wE a b):=by
 have e:zZV (bxS a b)=zFU (fQ (bxS a b) (fB3 a b) 6):=rfl;rw[e,zG2];simp only[zFU,List.foldl,aA,jH,sO,cC,cU,cB,uB1,List.getD_cons_zero,List.getD_cons_succ,if_true,Bool.false_eq_true,if_false,smT,scT,wE];generalize a.x=p;generalize a.y=q;generalize a.z=r;generalize b.x=u;generalize b.y=v;generalize b.z=w;rw[iB];refine⟨?_,?_,?_⟩<;>simp only<;>grind
end Bk
namespace Bk
set_option linter.unusedVariables false
set_option linter.unusedSimpArgs false
open Classical
variable {a b:Pt}
def eU(a b:Pt)(f:Nat):Rat:=if f<2 then(b.y-a.y)*(b.z-a.z) else if f<4 then(b.z-a.z)*(b.x-a.x) else(b.x-a.x)*(b.y-a.y)
theorem six{f:Nat}(h:f<6):f=0∨f=1∨f=2∨f=3∨f=4∨f=5:=by omega
theorem zLY{f:Nat}(h:f<6):jH (arV (bxS a b) ((fB3 a b).getD f zA)) (arV (bxS a b) ((fB3 a b).getD f zA))=eU a b f*eU a b f:=by
 have g:∀(i j k l:Nat) (c:Fc),i<8→j<8→k<8→l<8→c.2.1=[[(i:Int),(j:Int),(k:Int),(l:Int)]]→arV (bxS a b) c=scT (1/2) (dW [T3.mk (cC a b i) (cC a b j) (cC a b k),T3.mk (cC a b i) (cC a b k) (cC a b l)]):=fun i j k l c hi G D C e=>by
  unfold arV;rw[e];exact congrArg (fun z=>scT (1/2) (dW z)) (dF i j k l hi G D C)
 rcases six h with rfl|rfl|rfl|rfl|rfl|rfl
 · rw[g 0 1 3 2 _ (by decide) (by decide) (by decide) (by decide) rfl]
   simp only[dW,List.foldl,jH,sO,s4,wE,scT,cC,cU,cB,uB1,List.getD_cons_zero,List.getD_cons_succ,if_true,Bool.false_eq_true,if_false,zT,eU];generalize a.x=p;generalize a.y=q;generalize a.z=r;generalize b.x=u;generalize b.y=v;generalize b.z=w;grind
 · rw[g 4 6 7 5 _ (by decide) (by decide) (by decide) (by decide) rfl]
   simp only[dW,List.foldl,jH,sO,s4,wE,scT,cC,cU,cB,uB1,List.getD_cons_zero,List.getD_cons_succ,if_true,Bool.false_eq_true,if_false,zT,eU];generalize a.x=p;generalize a.y=q;generalize a.z=r;generalize b.x=u;generalize b.y=v;generalize b.z=w;grind
 · rw[g 0 4 5 1 _ (by decide) (by decide) (by decide) (by decide) rfl]
   simp only[dW,List.foldl,jH,sO,s4,wE,scT,cC,cU,cB,uB1,List.getD_cons_zero,List.getD_cons_succ,if_true,Bool.false_eq_true,if_false,zT,eU];generalize a.x=p;generalize a.y=q;generalize a.z=r;generalize b.x=u;generalize b.y=v;generalize b.z=w;grind
 · rw[g 2 3 7 6 _ (by decide) (by decide) (by decide) (by decide) rfl]
   simp only[dW,List.foldl,jH,sO,s4,wE,scT,cC,cU,cB,uB1,List.getD_cons_zero,List.getD_cons_succ,if_true,Bool.false_eq_true,if_false,zT,eU];generalize a.x=p;generalize a.y=q;generalize a.z=r;generalize b.x=u;generalize b.y=v;generalize b.z=w;grind
 · rw[g 0 2 6 4 _ (by decide) (by decide) (by decide) (by decide) rfl]
   simp only[dW,List.foldl,jH,sO,s4,wE,scT,cC,cU,cB,uB1,List.getD_cons_zero,List.getD_cons_succ,if_true,Bool.false_eq_true,if_false,zT,eU];generalize a.x=p;generalize a.y=q;generalize a.z=r;generalize b.x=u;generalize b.y=v;generalize b.z=w;grind
 · rw[g 1 5 7 3 _ (by decide) (by decide) (by decide) (by decide) rfl]
   simp only[dW,List.foldl,jH,sO,s4,wE,scT,cC,cU,cB,uB1,List.getD_cons_zero,List.getD_cons_succ,if_true,Bool.false_eq_true,if_false,zT,eU];generalize a.x=p;generalize a.y=q;generalize a.z=r;generalize b.x=u;generalize b.y=v;generalize b.z=w;grind
theorem zIN{f:Nat}(h:f<6):∃i j k l:Nat,i<8∧j<8∧k<8∧l<8∧((fB3 a b).getD f zA).2.1=[[(i:Int),(j:Int),(k:Int),(l:Int)]]:=by
 rcases six h with rfl|rfl|rfl|rfl|rfl|rfl
 · exact⟨0,1,3,2,by decide,by decide,by decide,by decide,rfl⟩
 · exact⟨4,6,7,5,by decide,by decide,by decide,by decide,rfl⟩
 · exact⟨0,4,5,1,by decide,by decide,by decide,by decide,rfl⟩
 · exact⟨2,3,7,6,by decide,by decide,by decide,by decide,rfl⟩
 · exact⟨0,2,6,4,by decide,by decide,by decide,by decide,rfl⟩
 · exact⟨1,5,7,3,by decide,by decide,by decide,by decide,rfl⟩
theorem zWN{i j k l:Nat}(hi:i<8)(hj:j<8)(hk:k<8)(hl:l<8){u v:Nat}(hu:u<1)(hv:v<4):0≤(([[(i:Int),(j:Int),(k:Int),(l:Int)]]:List (List Int)).getD u []).getD v 0∧(([[(i:Int),(j:Int),(k:Int),(l:Int)]]:List (List Int)).getD u []).getD v 0<((8:Nat):Int):=by
 have h0:u=0:=by omega
 subst h0;have:v=0∨v=1∨v=2∨v=3:=by omega
 rcases this with rfl|rfl|rfl|rfl
 · show 0≤(i:Int)∧(i:Int)<((8:Nat):Int);omega
 · show 0≤(j:Int)∧(j:Int)<((8:Nat):Int);omega
 · show 0≤(k:Int)∧(k:Int)<((8:Nat):Int);omega
 · show 0≤(l:Int)∧(l:Int)<((8:Nat):Int);omega
theorem zWD(h:∀f,f<6→lq (eU a b f*eU a b f)≤200):zYN (bxS a b):=by
 refine⟨⟨fun f C l J m O=>?_,fun f C=>?_⟩,⟨fun f C=>⟨fun u v D M=>?_,fun u D=>?_,?_⟩,?_,?_⟩,fun f C=>?_⟩
 · have z:f<6:=C
   obtain⟨i,j,k,q,hi,I,H,G,e⟩:=zIN (a:=a) (b:=b) z
   change l<((fB3 a b).getD f zA).2.1.length at J
   change m<(((fB3 a b).getD f zA).2.1.getD l []).length at O
   show 0≤(((fB3 a b).getD f zA).2.1.getD l []).getD m 0∧(((fB3 a b).getD f zA).2.1.getD l []).getD m 0<_
   rw[e] at J O ⊢;have h0:l=0:=by have:l<1:=J;omega
   subst h0;exact zWN hi I H G (by decide) O
 · have z:f<6:=C
   obtain⟨i,j,k,q,hi,I,H,G,e⟩:=zIN (a:=a) (b:=b) z
   show((fB3 a b).getD f zA).2.1.length≤10000∧∀l,l<((fB3 a b).getD f zA).2.1.length→(((fB3 a b).getD f zA).2.1.getD l []).length≤10000
   rw[e];refine⟨show 1≤10000 by decide,fun l J=>?_⟩;have h0:l=0:=by have:l<1:=J;omega
   subst h0
   show 4≤10000
   decide
 · have z:f<6:=C
   obtain⟨i,j,k,q,hi,I,H,G,e⟩:=zIN (a:=a) (b:=b) z
   change u<((fB3 a b).getD f zA).2.1.length at D
   change v<(((fB3 a b).getD f zA).2.1.getD u []).length at M
   show 0≤(((fB3 a b).getD f zA).2.1.getD u []).getD v 0∧(((fB3 a b).getD f zA).2.1.getD u []).getD v 0<_
   rw[e] at D M ⊢;have h0:u=0:=by have:u<1:=D;omega
   subst h0;exact zWN hi I H G (by decide) M
 · have z:f<6:=C
   obtain⟨i,j,k,q,hi,I,H,G,e⟩:=zIN (a:=a) (b:=b) z
   change u<((fB3 a b).getD f zA).2.1.length at D
   show(((fB3 a b).getD f zA).2.1.getD u []).length≤1000
   rw[e] at D ⊢;have h0:u=0:=by have:u<1:=D;omega
   subst h0
   show 4≤1000
   decide
 · have z:f<6:=C
   obtain⟨i,j,k,q,hi,I,H,G,e⟩:=zIN (a:=a) (b:=b) z
   show((fB3 a b).getD f zA).2.1.length≤1000
   rw[e]
   show 1≤1000
   decide
 · show 6≤1000
   decide
 · show(fQ (bxS a b) (fB3 a b) 6).length≤1000
   rw[zG2]
   show 12≤1000
   decide
 · show lq (jH (arV (bxS a b) ((fB3 a b).getD f zA)) (arV (bxS a b) ((fB3 a b).getD f zA)))≤200
   rw[zLY C];exact h f C
theorem zSQ(h:a.x<b.x∧a.y<b.y∧a.z<b.z):cnO (bxS a b)∧cnS (bxS a b)=scT (1/2) (wE a b):=by
 have D:0<(b.x-a.x)*(b.y-a.y)*(b.z-a.z):=tS (tS (by grind) (by grind)) (by grind);have G:((4:Int):Rat)=4:=rfl;have H:((1:Int):Rat)=1:=rfl;have u:((4:Int):Rat)*dQ (bxS a b)=24*((b.x-a.x)*(b.y-a.y)*(b.z-a.z)):=by rw[zJL,G];grind
 have C:cnO (bxS a b):=by unfold cnO;rw[u];grind
 refine⟨C,?_⟩;unfold cnS;rw[if_neg C,u,zZU,H];generalize (b.x-a.x)*(b.y-a.y)*(b.z-a.z)=V at D;unfold scT wE;rw[iB];refine⟨?_,?_,?_⟩<;>simp only<;>grind
theorem yA9{n:Int}(h:n=0){q:Rat}(hq:q=4*4):cD q n=4∧cP q n=4:=by
 subst h;subst hq;have h0:¬(4*4:Rat)<0:=by decide +kernel
 have D:¬((xJ (4*4:Rat)<0∨(0:Int)<0)∨64<(0:Int)):=fun e=>by
  rcases e with(e|e)|e
  · exact h0 (qC.1 e)
  · omega
  · omega
 obtain⟨C,z,M,J⟩:=zAH D;have I:flN (4*4:Rat) (kN 0)=16:=by decide +kernel
 have H:sqN 16=4:=zJU (by decide) (by decide);have G:kN 0=0:=by decide
 have u:qE (4*4:Rat) 0=4:=by
  unfold qE;rw[I,H,G];unfold ovQ
  decide +kernel
 rw[C,z,←zJ4 h0 (by rw[u]),u];exact⟨rfl,rfl⟩
theorem zP4:SaneF:=by
 have hI:∀n:Int,(pI 0 0 0).x=((0:Int):Rat)∧(pI 2 2 2).x=((2:Int):Rat):=fun _=>⟨rfl,rfl⟩;have hlt:(pI 0 0 0).x<(pI 2 2 2).x∧(pI 0 0 0).y<(pI 2 2 2).y∧(pI 0 0 0).z<(pI 2 2 2).z:=by
  have:((0:Int):Rat)<((2:Int):Rat):=by decide +kernel
  exact⟨this,this,this⟩
 have hbl:mV (pI 0 0 0) (pI 2 2 2):=by
  have g:¬0≤wH ((0:Int):Rat) ((2:Int):Rat):=by rw[zDN];decide +kernel
  intro u hu;have:u=0∨u=1∨u=2:=by omega
  rcases this with rfl|rfl|rfl<;>exact g
 have hb:=zNF hbl;have h4:∀f,eU (pI 0 0 0) (pI 2 2 2) f=4:=fun f=>by
  have:(((2:Int):Rat)-((0:Int):Rat))*(((2:Int):Rat)-((0:Int):Rat))=4:=by decide +kernel
  unfold eU
  split
  · exact this
  · split
    · exact this
    · exact this
 refine⟨fun _=>zS4 hbl,?_,?_,?_,?_⟩
 · rw[hb]
   refine zWD fun f hf=>?_;rw[h4 f];have h1:(4*4:Rat)=((16:Int):Rat):=by decide +kernel
   have:=zAM 16 (by decide) (by decide);rw[h1];omega
 · rw[hb,zJL]
   show 6*((((2:Int):Rat)-((0:Int):Rat))*(((2:Int):Rat)-((0:Int):Rat))*(((2:Int):Rat)-((0:Int):Rat)))/((6:Int):Rat)=((8:Int):Rat)
   decide +kernel
 · rw[hb]
   obtain⟨h1,h2⟩:=zSQ hlt;refine⟨?_,h1⟩;rw[h2];have:1/2*(((0:Int):Rat)+((2:Int):Rat))=((1:Int):Rat):=by decide +kernel
   unfold scT wE pI;rw[iB];exact⟨this,this,this⟩
 · rw[hb]
   have hr:∀f,f<6→cD (jH (arV (bxS (pI 0 0 0) (pI 2 2 2)) ((fB3 (pI 0 0 0) (pI 2 2 2)).getD f zA)) (arV (bxS (pI 0 0 0) (pI 2 2 2)) ((fB3 (pI 0 0 0) (pI 2 2 2)).getD f zA))) 0=4∧cP (jH (arV (bxS (pI 0 0 0) (pI 2 2 2)) ((fB3 (pI 0 0 0) (pI 2 2 2)).getD f zA)) (arV (bxS (pI 0 0 0) (pI 2 2 2)) ((fB3 (pI 0 0 0) (pI 2 2 2)).getD f zA))) 0=4:=fun f hf=>yA9 rfl (by rw[zLY hf,h4 f]);have hs:∀i:Nat,i≤6→arS (bxS (pI 0 0 0) (pI 2 2 2)) 0 i=((i:Rat)*4,(i:Rat)*4):=by
    intro i
    induction i with
    |zero=>intro _;unfold arS;refine Prod.ext ?_ ?_<;>(show(0:Rat)=((0:Nat):Rat)*4;decide +kernel)
    |succ i ih=>
     intro hi;obtain⟨r1,r2⟩:=hr i (by omega);have e:=ih (by omega);have ec:((i+1:Nat):Rat)=(i:Rat)+1:=by rw[Rat.natCast_add];rfl
     unfold arS;rw[e];refine Prod.ext ?_ ?_
     · show(i:Rat)*4+cD (jH (arV (bxS (pI 0 0 0) (pI 2 2 2)) ((fB3 (pI 0 0 0) (pI 2 2 2)).getD i zA)) (arV (bxS (pI 0 0 0) (pI 2 2 2)) ((fB3 (pI 0 0 0) (pI 2 2 2)).getD i zA))) 0=_
       rw[r1,ec];grind
     · show(i:Rat)*4+cP (jH (arV (bxS (pI 0 0 0) (pI 2 2 2)) ((fB3 (pI 0 0 0) (pI 2 2 2)).getD i zA)) (arV (bxS (pI 0 0 0) (pI 2 2 2)) ((fB3 (pI 0 0 0) (pI 2 2 2)).getD i zA))) 0=_
       rw[r2,ec];grind
   show arS (bxS (pI 0 0 0) (pI 2 2 2)) 0 6=_
   rw[hs 6 (by decide)];refine Prod.ext ?_ ?_<;>(show((6:Nat):Rat)*4=((24:Int):Rat);decide +kernel)
end Bk
namespace Bk
set_option linter.unusedVariables false
set_option linter.unusedSimpArgs false
open Classical
def prL:List (List Int):=[[0,0],[1,1],[2,2],[0,1],[1,2],[2,0]]
def prI(k:Nat):Nat:=((prL.getD k (List.replicate 2 (0:Int))).getD 0 0).toNat
def prJ(k:Nat):Nat:=((prL.getD k (List.replicate 2 (0:Int))).getD 1 0).toNat
theorem yA1:∀k,k<6→((prL.getD k (List.replicate 2 (0:Int))).getD 0 0=(prI k:Int)∧prI k<3)∧(prL.getD k (List.replicate 2 (0:Int))).getD 1 0=(prJ k:Int)∧prJ k<3:=by decide
def moX(t:Tri)(k:Nat):Nat→Rat
  |0=>(smT t).at (prI k)*(smT t).at (prJ k)
  |q+1=>moX t k q+(t.at q).at (prI k)*(t.at q).at (prJ k)
def moS(l:List Tri)(k:Nat):Rat:=l.foldl (fun a t=>a+aA t.x t.y t.z*moX t k 3) 0
theorem zRQ(l:List Tri)(t:Tri)(k:Nat):moS l k+aA t.x t.y t.z*moX t k 3=moS (l++[t]) k:=by unfold moS;rw[List.foldl_append];rfl
def moL(l m:List Tri)(k:Nat):List Rat:=uU (fun u=>if u<k then moS m u else moS l u) 6
theorem zE7{α:Type}(f:Nat→α)(n k:Nat)(x:α):(uU f n).set k x=uU (fun u=>if u=k then x else f u) n:=by
 induction n with
 |zero=>rfl
 |succ n ih=>
  show(uU f n++[f n]).set k x=uU _ n++[if n=k then x else f n]
  rw[←ih,List.set_append,wK]
  split
  · rw[if_neg (by omega)]
  · rename_i h
    by_cases e:n=k
    · rw[if_pos e,←e,Nat.sub_self,List.set_cons_zero,List.set_eq_of_length_le (by rw[wK];exact Nat.le_refl _)]
    · rw[if_neg e,List.set_eq_of_length_le (l:=uU f n) (by rw[wK];omega),show k-n=(k-n-1)+1 by omega];rfl
theorem lW{α:Type}{f g:Nat→α}:∀{n:Nat},(∀u,u<n→f u=g u)→uU f n=uU g n
  |0,_=>rfl
  |n+1,h=>by
   show uU f n++[f n]=uU g n++[g n]
   rw[h n (by omega),lW fun u hu=>h u (by omega)]
theorem hH{α:Type}(f:Nat→α)(d:α){n k:Nat}(h:k<n):(uU f n).getD k d=f k:=rC f d h
theorem zU4(l m:List Tri):moL l m 6=moL m m 0:=lW fun u hu=>by rw[if_pos hu,if_neg (by omega)]
theorem zU3{l:List Tri}{t:Tri}{k:Nat}(hk:k<6):(moL l (l++[t]) k).set k ((moL l (l++[t]) k).getD k 0+aA t.x t.y t.z*moX t k 3)=moL l (l++[t]) (k+1):=by
 unfold moL;rw[hH _ _ hk,if_neg (Nat.lt_irrefl k),zRQ,zE7];refine lW fun u C=>?_
 by_cases e:u=k
 · rw[if_pos e,if_pos (by omega),e]
 · rw[if_neg e]
   by_cases h:u<k
   · rw[if_pos h,if_pos (by omega)]
   · rw[if_neg h,if_neg (by omega)]
def moD(l:List Tri)(k:Nat):List Rat:=uU (fun u=>if u<k then moS l u/((120:Int):Rat) else moS l u) 6
def zK6(s:Sd):List Rat:=uU (fun u=>moS (fQ s s.2.1 s.2.1.length) u/((120:Int):Rat)) 6
theorem zU5{l:List Tri}{k:Nat}(hk:k<6):(moD l k).set k ((moD l k).getD k 0/((120:Int):Rat))=moD l (k+1):=by
 unfold moD;rw[hH _ _ hk,if_neg (Nat.lt_irrefl k),zE7];refine lW fun u z=>?_
 by_cases e:u=k
 · rw[if_pos e,if_pos (by omega),e]
 · rw[if_neg e]
   by_cases h:u<k
   · rw[if_pos h,if_pos (by omega)]
   · rw[if_neg h,if_neg (by omega)]
theorem yBA{s:Sd}:moD (fQ s s.2.1 s.2.1.length) 6=zK6 s:=lW fun u hu=>if_pos hu
theorem zNH{k:Nat}{p:Pt}(h:lqP k p):∀i,lq (p.at i)≤k
  |0=>h.1
  |1=>h.2.1
  |_+2=>h.2.2
theorem zPM{k:Nat}{t:Tri}(h:lqT k t):∀q,lqP k (t.at q)
  |0=>h.1
  |1=>h.2.1
  |_+2=>h.2.2
theorem zGK{k:Nat}{t:Tri}(h:lqT k t)(u:Nat):∀q,lq (moX t u q)≤6*k+4+(2*k+1)*q
  |0=>by
   have h1:=fZ ((smT t).at (prI u)) ((smT t).at (prJ u));have h2:=zNH (zLG h) (prI u);have h3:=zNH (zLG h) (prJ u)
   show lq (_*_)≤_
   omega
  |q+1=>by
   have h1:=fZ ((t.at q).at (prI u)) ((t.at q).at (prJ u));have h2:=zNH (zPM h q) (prI u);have h3:=zNH (zPM h q) (prJ u);have h4:=jA (moX t u q) ((t.at q).at (prI u)*(t.at q).at (prJ u));have h5:=zGK h u q
   show lq (_+_)≤_
   rw[Nat.mul_succ];omega
theorem zR0{k u:Nat}:∀(l:List Tri) (a:Rat),(∀t,t∈l→lqT k t)→lq (l.foldl (fun a t=>a+aA t.x t.y t.z*moX t u 3) a)≤lq a+l.length*(27*k+13)
  |[],a,_=>by simp
  |t::l,a,h=>by
   obtain⟨h1,h2,h3⟩:=h t (.head _);have hd:=zGL h1 h2 h3;have hx:=zGK (h t (.head _)) u 3;have hm:=fZ (aA t.x t.y t.z) (moX t u 3);have ha:=jA a (aA t.x t.y t.z*moX t u 3);have ih:=zR0 (u:=u) l (a+aA t.x t.y t.z*moX t u 3) (fun v hv=>h v (.tail _ hv));rw[List.foldl_cons,lC,Nat.succ_mul];omega
theorem zY1{l:List Tri}{k:Nat}(h:l.length≤1000∧∀t,t∈l→lqT k t)(u:Nat):lq (moS l u)≤30000*k+100000:=by
 have D:=zR0 (u:=u) l 0 h.2;have C:=aG (a:=27*k+13) h.1;have z:=tK;unfold moS;omega
theorem zAJ{α:Type}{p:α→Prop}{f:Nat→α}{n:Nat}(h:∀u,u<n→p (f u)):∀x,x∈uU f n→p x:=fun x hx=>by
 obtain⟨u,hu,rfl⟩:=zBX hx;exact h u hu
theorem zYW{l m:List Tri}{k:Nat}(h:l.length≤1000∧∀t,t∈l→lqT k t)(h':m.length≤1000∧∀t,t∈m→lqT k t)(j:Nat):∀x,x∈moL l m j→lq x≤30000*k+100000:=zAJ fun u _=>by
 split
 · exact zY1 h' u
 · exact zY1 h u
theorem zYX{l:List Tri}{k:Nat}(h:l.length≤1000∧∀t,t∈l→lqT k t)(j:Nat):∀x,x∈moD l j→lq x≤30000*k+100004:=zAJ fun u _=>by
 have:=zY1 h u
 split
 · have h1:=zRY (moS l u) ((120:Int):Rat)
   have h2:=zAM 120 (by decide) (by decide);omega
 · omega
theorem zZ4{s:Sd}{F:List Fc}{k:Nat}(ho:zGV s F)(hp:∀i,i<s.1.length→lqP k (s.1.getD i zT)):(fQ s F F.length).length≤1000∧∀t,t∈fQ s F F.length→lqT k t:=⟨ho.2.2,fun t ht=>by
 obtain⟨u,hu,h4⟩:=nD ht;exact zDK hp (ho.1 u hu) t h4⟩
theorem zX7{h:Mem}{n:Nat}{cs:List Go.Value}{a b:List Rat}{k l:Nat}(r:(rpA n (rpQ k)).R h cs a)(e:a=b)(hl:∀x,x∈b→lq x≤l):(rpA n (rpQ l)).R h cs b:=by
 subst e;obtain⟨h1,h2⟩:=r;refine⟨h1,?_⟩
 clear h1
 induction a generalizing cs with
 |nil=>exact h2
 |cons x a ih=>
  obtain⟨c,d,rfl,⟨q,_⟩,t⟩:=h2;exact⟨c,d,rfl,⟨q,hl x (.head _)⟩,ih (fun y hy=>hl y (.tail _ hy)) t⟩
variable {a b:Pt}
theorem zWF(u:Nat)(hu:u<6):moS (fQ (bxS a b) (fB3 a b) 6) u=if u<3 then 40*((b.x-a.x)*(b.y-a.y)*(b.z-a.z))*(a.at u*a.at u+a.at u*b.at u+b.at u*b.at u) else 30*((b.x-a.x)*(b.y-a.y)*(b.z-a.z))*((a.at (prI u)+b.at (prI u))*(a.at (prJ u)+b.at (prJ u))):=by
 rw[zG2]
 rcases six hu with rfl|rfl|rfl|rfl|rfl|rfl
 all_goals
   simp only[moS,moX,List.foldl,aA,jH,sO,cC,cU,cB,uB1,List.getD_cons_zero,List.getD_cons_succ,if_true,Bool.false_eq_true,if_false,smT,wE,T3.at,prI,prJ,prL,Int.toNat,Nat.reduceLT];generalize a.x=p;generalize a.y=q;generalize a.z=r;generalize b.x=u;generalize b.y=v;generalize b.z=w;grind
end Bk
namespace Go.Proofs.YtboaboflnckgoaaGreat
open Bk Go Tryz
set_option linter.unusedVariables false
set_option linter.unusedSimpArgs false
set_option maxRecDepth 10000
set_option maxHeartbeats 1000000
attribute [local irreducible] GL GC GQ W OpV
theorem zKW{w0:World}{h0:Mem}(hs:MLe h0 (mem w0)){k m n j:Nat}{vs:Value}{s:Sq}(rs:(tSd k m n j).Is h0 vs s)(hcd0:k≤10000)(hcd1:nmA s)(hcd2:∀f,f<s.2.1.length→(s.2.1.getD f zA).2.1.length≤10000∧∀l,l<(s.2.1.getD f zA).2.1.length→((s.2.1.getD f zA).2.1.getD l []).length≤10000)(hcd3:zGV s s.2.1):
 Calls Tryz.prog 36 #[vs] w0 (Ret w0 h0 (fun h r=>(rpA 6 (rpQ (30000*k+100004))).Is h r (zK6 s))):=by
 have ax:=zL5 rs;have hy:=hcd3.2.1;refine cb1 96 vs func36 hs ?_;refine go2 ?_;refine nB rs fun b1 au ci=>(nA (ρ:=(rpA 6 (rpQ (30000*k+100004)))) (X:=(List.replicate 6 (0:Rat))) zGO (mW 6 (yH oM)) fun b2 ar dd=>(go4 ?_));refine nA (ρ:=(rpA 6 (rpQ (30000*k+100004)))) (X:=(List.replicate 6 (0:Rat))) zGO (mW 6 (yH oM)) fun O fc dc=>(go4 ?_);refine lX (xV (ρ:=(rpA 2 rpI)) (xD (ps':=[(0,_),(1,_)]) underlying116 rD rfl rfl sizeOf3 e4z rfl (mW 2 wG) (zI rfl (Pc.arr (Pc.here _) (0:Int) 0 dC) (qD dC dC) (zI rfl (Pc.arr (Pc.here _) (0:Int) 1 dC) (qD dC dC) zY)))) fun ho es=>(lX (xV (ρ:=(rpA 2 rpI)) (xD (ps':=[(0,_),(1,_)]) underlying116 rD rfl rfl sizeOf3 e4z rfl (mW 2 wG) (zI rfl (Pc.arr (Pc.here _) (0:Int) 0 dC) (qD dC dC) (zI rfl (Pc.arr (Pc.here _) (0:Int) 1 dC) (qD dC dC) zY)))) fun hn eq=>(lX (xV (ρ:=(rpA 2 rpI)) (xD (ps':=[(0,_),(1,_)]) underlying116 rD rfl rfl sizeOf3 e4z rfl (mW 2 wG) (zI rfl (Pc.arr (Pc.here _) (0:Int) 0 dC) (qD dC dC) (zI rfl (Pc.arr (Pc.here _) (0:Int) 1 dC) (qD dC dC) zY)))) fun hm ep=>(lX (xV (ρ:=(rpA 2 rpI)) (xD (ps':=[(0,_),(1,_)]) underlying116 rD rfl rfl sizeOf3 e4z rfl (mW 2 wG) (zI rfl (Pc.arr (Pc.here _) (0:Int) 0 dC) (qD dC dC) (zI rfl (Pc.arr (Pc.here _) (0:Int) 1 dC) (qD dC dC) zY)))) fun hl eo=>(lX (xV (ρ:=(rpA 2 rpI)) (xD (ps':=[(0,_),(1,_)]) underlying116 rD rfl rfl sizeOf3 e4z rfl (mW 2 wG) (zI rfl (Pc.arr (Pc.here _) (0:Int) 0 dC) (qD dC dC) (zI rfl (Pc.arr (Pc.here _) (0:Int) 1 dC) (qD dC dC) zY)))) fun hk en=>(lX (xV (ρ:=(rpA 2 rpI)) (xD (ps':=[(0,_),(1,_)]) underlying116 rD rfl rfl sizeOf3 e4z rfl (mW 2 wG) (zI rfl (Pc.arr (Pc.here _) (0:Int) 0 dC) (qD dC dC) (zI rfl (Pc.arr (Pc.here _) (0:Int) 1 dC) (qD dC dC) zY)))) fun hj em=>(lX (xV (ρ:=(rpA 6 (rpA 2 rpI))) (xD (ps':=[(0,_),(1,_),(2,_),(3,_),(4,_),(5,_)]) underlying117 zGP rfl rfl sizeOf116 e12 rfl (mW 6 (mW 2 wG)) (zI rfl (Pc.arr (Pc.here _) (List.replicate 2 (0:Int)) 0 dC) es (zI rfl (Pc.arr (Pc.here _) (List.replicate 2 (0:Int)) 1 dC) eq (zI rfl (Pc.arr (Pc.here _) (List.replicate 2 (0:Int)) 2 dC) ep (zI rfl (Pc.arr (Pc.here _) (List.replicate 2 (0:Int)) 3 dC) eo (zI rfl (Pc.arr (Pc.here _) (List.replicate 2 (0:Int)) 4 dC) en (zI rfl (Pc.arr (Pc.here _) (List.replicate 2 (0:Int)) 5 dC) em zY)))))))) fun hg el=>(nA (ρ:=(rpA 6 (rpA 2 rpI))) (X:=(List.replicate 6 (List.replicate 2 (0:Int)))) zGP (mW 6 (mW 2 wG)) fun b4 ic db=>(zS (A:=[]) (uB sizeOf117 pH db el) fun cq cd=>(go5 ?_)))))))));refine lX (xB kF pH ci) fun hf ek=>(cL (ev1 rfl) call67 (fun w hs=>cO hs ek (by first|omega|exact hcd1|exact hcd2|exact hcd3.2.1) (by first|omega|exact hcd1|exact hcd2|exact hcd3.2.1) (by first|omega|exact hcd1|exact hcd2|exact hcd3.2.1)) fun av h1 hx ej=>(go5 ?_));refine gcL (ι:=Nat×List Value×List Value×Mem) (fun(i,U,T,ma)=>(MLe h1 ma∧((rpA 6 (rpQ (30000*k+100000))).R ma U (moL (fQ s s.2.1 i) [] 0)∧(rpA 6 (rpA 2 rpI)).R ma T prL∧i≤s.2.1.length),[(1,vP b1 0),(2,vP b2 0),(3,vP O 0),(4,vP b4 0),(25,av),(26,vI (↑(s.2.1).length:Int)),(27,vI ↑i)],[.var b4 117 T,.var O 73 U,.var b2 73 ar,.var b1 50 au],ma,s.2.1.length-i)) (0,fc,cq,h1) ?_ ?_
 · exact⟨mle,(zX7 dc.up rfl (zAJ fun u _=>by rw[if_neg (Nat.not_lt_zero u)];have:=tK;show lq 0≤_;omega)),cd.up,oM⟩
 rintro⟨i,U,T,ma⟩ ⟨fm,az,cc,D⟩
 refine yU ?_;have ht:=D;refine gc6 (fun co=>?_) fun co=>?_
 ·
  have J:=hcd3.1 i oM;have hz:=j7 hcd3 (i:=i) oM;refine go6 ?_;refine lX (xI zA i underlying47 fR ej) fun he eh=>(lX (xA fR eh) fun hd eg=>(nA (ρ:=(tFc (k+1) (k+1))) (X:=((zT,(0:Rat)),([],([]:List Nat)))) jB (yL (yL (xY (yH oM)) (yH oM)) (yL qJ kO)) fun b6 ib da=>?_));have ca:=(Le.p (Le.p (Le.t (Le.q (l:=k+m+1) oM)) (Le.q (l:=k+n+1) oM)) (Le.refl _)).R da;refine zS (A:=[]) (uB sizeOf83 pH ca (eg.le (Le.p (Le.p (Le.t (Le.q (l:=k+m+1) oM)) (Le.q (l:=k+n+1) oM)) (Le.refl _)))) fun an cb=>(go4 ?_);refine lX (xB kF pH ci) fun hc ef=>(lX (xB fR pH cb) fun hb ee=>(cL (ev2 rfl rfl) call68 (fun w hs=>tI hs (ef.le (Le.p (Le.refl _) (Le.p (Le.s (Le.p (Le.p (Le.t (Le.q (l:=k+m+1) oM)) (Le.q (l:=k+n+1) oM)) (Le.refl _))) (Le.refl _)))) ee (by first|omega|exact J.1|exact J.2.1|exact J.2.2) (by first|omega|exact J.1|exact J.2.1|exact J.2.2) (by first|omega|exact J.1|exact J.2.1|exact J.2.2)) fun ba h2 ey ed=>(go5 ?_)));refine gcL (ι:=Nat×List Value×List Value×Mem) (fun(q,I,H,mb)=>(MLe h2 mb∧((rpA 6 (rpQ (30000*k+100000))).R mb I (moL (fQ s s.2.1 i++(jM s (s.2.1.getD i zA).2.1 (s.2.1.getD i zA).2.1.length).take q) [] 0)∧(rpA 6 (rpA 2 rpI)).R mb H prL∧q≤(jM s (s.2.1.getD i zA).2.1 (s.2.1.getD i zA).2.1.length).length),[(1,vP b1 0),(2,vP b2 0),(3,vP O 0),(4,vP b4 0),(25,av),(26,vI (↑(s.2.1).length:Int)),(27,vI ↑i),(33,ba),(34,vI (↑(jM s (s.2.1.getD i zA).2.1 (s.2.1.getD i zA).2.1.length).length:Int)),(35,vI ↑q)],[.var b6 83 an,.var b4 117 H,.var O 73 I,.var b2 73 ar,.var b1 50 au],mb,(jM s (s.2.1.getD i zA).2.1 (s.2.1.getD i zA).2.1.length).length-q)) (0,U,T,h2) ?_ ?_
  · exact⟨mle,(Rp.castR az.up (by rw[List.take_zero,List.append_nil])),cc.up,oM⟩
  rintro⟨q,I,H,mb⟩ ⟨fl,am,ad,D⟩
  refine yU ?_;have hq:=D;refine gc6 (fun cn=>?_) fun cn=>?_
  ·
   have cj:lqT k ((jM s (s.2.1.getD i zA).2.1 (s.2.1.getD i zA).2.1.length).getD q (T3.mk zT zT zT)):=zDK ax J _ (pR oM);refine go6 ?_;refine lX (xI (T3.mk zT zT zT) q underlying106 pC ed) fun ha ec=>(lX (xA pC ec) fun gz eb=>(nA (ρ:=(rpT (tPt (k+1)))) (X:=(T3.mk zT zT zT)) rZ (xY (xY (yH oM))) fun b8 ia cz=>(zS (A:=[]) (uB sizeOf108 pH cz eb) fun aq ac=>(go3 ?_))));refine zK 6 _ [(4,(9,26,[.bool false,.slice none 0 0,.slice none 0 0])),(5,(10,53,[.bool false,.slice none 0 0,.slice none 0 0,.bool false,.slice none 0 0,.slice none 0 0,.bool false,.slice none 0 0,.slice none 0 0]))] [(0,.q),(2,.q),(1,.c),(3,.c),(4,.a),(5,.a),(6,.t),(7,.t)] yC (jL.cons rfl rfl (uX yP rfl rfl) (jL.cons rfl rfl (uX yW rfl rfl) jL.nil)) (by kernel_rfl) (uZ rfl rfl (uZ rfl rfl kM)) (fun r hr=>hr) (wX rfl (xB pC pH ac) fun gy ea=>(wX rfl (xB pC pH ac) fun gw dz=>?_));refine w_c rfl (sC (ev1 rfl) call69 (fun w hs=>aS hs ea oM) fun gx h3 hw bs=>?_);replace bs:=Rp.Is.le bs (Le.q (l:=20*k+60) oM);refine w_c rfl (sC (ev1 rfl) call73 (fun w hs=>zCW hs dz.up oM) fun gu h4 hv br=>?_);replace br:=Rp.Is.le br (Le.t (Le.q (l:=4*k+14) oM));refine w_a rfl rfl (fun b9=>?_);have cy:(rpQ (20*k+60)).R h4 [.bool false,.slice none 0 0,.slice none 0 0] (0:Rat):=(yH oM);refine w_a rfl rfl (fun Y=>?_);have ch:(tPt (4*k+14)).R h4 [.bool false,.slice none 0 0,.slice none 0 0,.bool false,.slice none 0 0,.slice none 0 0,.bool false,.slice none 0 0,.slice none 0 0] zT:=(xY (yH oM));refine yK (A:=[_]) rfl (uB sizeOf26 pH cy bs) fun ap bk=>(yK (A:=[]) rfl (uB sizeOf53 pH ch br) fun ao ak=>(go4 ?_));refine lX (xB yAH pH ad) fun bz dy=>(go4 ?_);refine gcL (ι:=Nat×List Value×List Value×Mem) (fun(u,G,z,mc)=>(MLe h4 mc∧((rpA 6 (rpQ (30000*k+100000))).R mc G (moL (fQ s s.2.1 i++(jM s (s.2.1.getD i zA).2.1 (s.2.1.getD i zA).2.1.length).take q) ((fQ s s.2.1 i++(jM s (s.2.1.getD i zA).2.1 (s.2.1.getD i zA).2.1.length).take q)++[((jM s (s.2.1.getD i zA).2.1 (s.2.1.getD i zA).2.1.length).getD q (T3.mk zT zT zT))]) u)∧(rpA 6 (rpA 2 rpI)).R mc z prL∧u≤6),[(1,vP b1 0),(2,vP b2 0),(3,vP O 0),(4,vP b4 0),(8,vP b8 0),(9,vP b9 0),(10,vP Y 0),(25,av),(26,vI (↑(s.2.1).length:Int)),(27,vI ↑i),(33,ba),(34,vI (↑(jM s (s.2.1.getD i zA).2.1 (s.2.1.getD i zA).2.1.length).length:Int)),(35,vI ↑q),(43,bz),(44,vI ↑u)],[.var Y 53 ao,.var b9 26 ap,.var b8 108 aq,.var b6 83 an,.var b4 117 z,.var O 73 G,.var b2 73 ar,.var b1 50 au],mc,6-u)) (0,I,H,h4) ?_ ?_
   · exact⟨mle,(Rp.castR am.up rfl),ad.up,oM⟩
   rintro⟨u,G,z,mc⟩ ⟨fk,ab,aj,D⟩
   refine yU ?_;have et:=D;refine gc6 (fun cm=>?_) fun cm=>?_
   ·
    have C:=yA1 u oM;refine go7 ?_;refine zEB (F:=fun v_=>(rpA 2 rpI).Is mc v_ (prL.getD u (List.replicate 2 (0:Int)))) (zHW u underlying117 yAI (Pc.arr (Pc.here _) (List.replicate 2 (0:Int)) u oM) rfl rfl rfl rfl dy.up rfl oM rfl) zBI rfl ?_;intro gt dx;refine nA (ρ:=(rpA 2 rpI)) (X:=(List.replicate 2 (0:Int))) rD (mW 2 wG) fun cu ft cg=>(go1 ?_);refine zS (A:=[]) (uB sizeOf116 pH cg dx) fun bx M=>(go3 ?_);refine zK 10 _ [(9,(13,26,[.bool false,.slice none 0 0,.slice none 0 0]))] [(0,.q),(1,.q),(2,.q),(3,.q),(4,.q),(5,.q),(6,.q),(7,.q),(8,.c),(9,.a),(10,.t)] yC (jL.cons rfl rfl (uX yP rfl rfl) jL.nil) (by kernel_rfl) (uZ rfl rfl kM) (fun r hr=>hr) (go1 ?_);refine wX rfl (xB ty3 (Pc.arr pH (0:Int) 0 dC) M) fun gs dw=>?_;obtain⟨rfl,fr,fh⟩:=jX dw;refine xK rfl (fun _ _=>(zX (sz:=3) (prI u) underlying53 sizeOf26 rfl rfl (by exact C.1.1) (by exact C.1.2)).cv (show _=vP Y (((prI u)*3+0)) from congrArg (vP Y) oM)) rfl (wX rfl (xB yB (Pc.ta pH (prI u) (by exact C.1.2)) ak) fun gr dv=>(go1 ?_));refine wX rfl (xB ty3 (Pc.arr pH (0:Int) 1 dC) M) fun gq du=>?_;obtain⟨rfl,fq,fg⟩:=jX du;refine xK rfl (fun _ _=>(zX (sz:=3) (prJ u) underlying53 sizeOf26 rfl rfl (by exact C.2.1) (by exact C.2.2)).cv (show _=vP Y (((prJ u)*3+0)) from congrArg (vP Y) oM)) rfl (wX rfl (xB yB (Pc.ta pH (prJ u) (by exact C.2.2)) ak) fun go dt=>?_);refine w_c rfl (sC (ev2 rfl rfl) call76 (fun w hs=>qS hs dv dt oM) fun gn h5 hu bq=>?_);replace bq:=Rp.Is.le bq (Le.q (l:=8*k+28) oM);refine w_a rfl rfl (fun ct=>?_);have cf:(rpQ (12*k+40)).R h5 [.bool false,.slice none 0 0,.slice none 0 0] (0:Rat):=(yH oM);refine yK (A:=[]) rfl (uB sizeOf26 pH cf (bq.le (Le.q (l:=12*k+40) oM))) fun bw bj=>(go5 ?_);refine lX (xB pC pH ac) fun cw dr=>(go4 ?_);refine gcL (ι:=Nat×List Value×Mem) (fun(r,ah,md)=>(MLe h5 md∧((rpQ (12*k+20)).R md ah (moX ((jM s (s.2.1.getD i zA).2.1 (s.2.1.getD i zA).2.1.length).getD q (T3.mk zT zT zT)) u r)∧r≤3),[(1,vP b1 0),(2,vP b2 0),(3,vP O 0),(4,vP b4 0),(8,vP b8 0),(9,vP b9 0),(10,vP Y 0),(11,vI ↑u),(12,vP cu 0),(13,vP ct 0),(25,av),(26,vI (↑(s.2.1).length:Int)),(27,vI ↑i),(33,ba),(34,vI (↑(jM s (s.2.1.getD i zA).2.1 (s.2.1.getD i zA).2.1.length).length:Int)),(35,vI ↑q),(43,bz),(44,vI ↑u),(57,cw),(58,vI ↑r)],[.var ct 26 ah,.var cu 116 bx,.var Y 53 ao,.var b9 26 ap,.var b8 108 aq,.var b6 83 an,.var b4 117 z,.var O 73 G,.var b2 73 ar,.var b1 50 au],md,3-r)) (0,bw,h5) ?_ ?_
    · exact⟨mle,(zUG bj rfl (by have h9:=zGK cj u 0;omega)),oM⟩
    rintro⟨r,ah,md⟩ ⟨fj,aa,D⟩
    refine yU ?_;have hp:=D;refine gc6 (fun cl=>?_) fun cl=>?_
    ·
     refine go6 ?_;refine zEB (F:=fun v_=>(tPt (k+1)).Is md v_ (((jM s (s.2.1.getD i zA).2.1 (s.2.1.getD i zA).2.1.length).getD q (T3.mk zT zT zT)).at r)) (zHW r underlying108 zU (Pc.ta (Pc.here _) r oM) rfl rfl rfl rfl dr.up rfl oM rfl) zBI rfl ?_;intro gm dq;refine nA (ρ:=(tPt (k+1))) (X:=zT) yW (xY (yH oM)) fun ay fs ce=>(zS (A:=[]) (uB sizeOf53 pH ce dq) fun fb ai=>(go2 ?_));refine zK 11 _ [] [(0,.q),(1,.q),(2,.q),(3,.q),(4,.q),(5,.q),(6,.q),(7,.q),(8,.q),(9,.c),(10,.c),(11,.t)] yC nX (vJ (by kernel_rfl)) nX (fun r hr=>hr) (wX rfl (xB yB pH aa) fun gk dp=>(go1 ?_));refine wX rfl (xB ty3 (Pc.arr pH (0:Int) 0 dC) M) fun gj dn=>?_;obtain⟨rfl,fp,ff⟩:=jX dn;refine xK rfl (fun _ _=>(zX (sz:=3) (prI u) underlying53 sizeOf26 rfl rfl (by exact C.1.1) (by exact C.1.2)).cv (show _=vP ay (((prI u)*3+0)) from congrArg (vP ay) oM)) rfl (wX rfl (xB yB (Pc.ta pH (prI u) (by exact C.1.2)) ai) fun gh dm=>(go1 ?_));refine wX rfl (xB ty3 (Pc.arr pH (0:Int) 1 dC) M) fun gg dl=>?_;obtain⟨rfl,fo,fe⟩:=jX dl;refine xK rfl (fun _ _=>(zX (sz:=3) (prJ u) underlying53 sizeOf26 rfl rfl (by exact C.2.1) (by exact C.2.2)).cv (show _=vP ay (((prJ u)*3+0)) from congrArg (vP ay) oM)) rfl (wX rfl (xB yB (Pc.ta pH (prJ u) (by exact C.2.2)) ai) fun gf dk=>?_);refine w_c rfl (sC (ev2 rfl rfl) call76 (fun w hs=>qS hs dm dk oM) fun ge h6 ew bp=>?_);replace bp:=Rp.Is.le bp (Le.q (l:=2*k+2) oM);refine w_c rfl (sC (ev2 rfl rfl) call70 (fun w hs=>fJ hs dp.up bp oM) fun gc h7 ev bo=>?_);replace bo:=Rp.Is.le bo (Le.q (l:=14*k+23) oM);have bd:=(Le.q (l:=14*k+23) oM).R aa;refine yK (A:=[_]) rfl (uB sizeOf26 pH bd bo) fun bv bi=>(go7 ?_);refine vT (A:=[]) ?_;refine gqL ((r+1),bv,h7) ?_ ?_
     · exact⟨mle,(zUG bi rfl (by have h9:=zGK cj u (r+1);have:=Nat.mul_le_mul_left (2*k+1) (show r+1≤3 by omega);omega)),oM⟩
     omega
    have er:r=3:=by omega
    refine go5 ?_;refine zK 9 _ [] [(0,.q),(1,.q),(2,.q),(3,.q),(4,.q),(5,.q),(6,.c),(7,.c),(8,.q),(9,.t)] yC nX (by kernel_rfl) nX (fun r hr=>hr) (go2 ?_);refine xK rfl (fun _ _=>(zX (sz:=3) u underlying73 sizeOf26 rfl rfl rfl oM).cv (show _=vP O ((u*3+0)) from congrArg (vP O) oM)) rfl (wX rfl (xB yB (Pc.arr pH (0:Rat) u oM) ab) fun gb dj=>(wX rfl (xB yB pH bk) fun ga di=>(wX rfl (xB yB pH aa) fun fz dh=>?_)));refine w_c rfl (sC (ev2 rfl rfl) call76 (fun w hs=>qS hs di dh oM) fun fy h6 ew bn=>?_);replace bn:=Rp.Is.le bn (Le.q (l:=32*k+80) oM);refine w_c rfl (sC (ev2 rfl rfl) call70 (fun w hs=>fJ hs dj.up bn oM) fun fx h7 ev bm=>?_);replace bm:=Rp.Is.le bm (Le.q (l:=30032*k+100081) oM);refine xK rfl (fun _ _=>(zX (sz:=3) u underlying73 sizeOf26 rfl rfl rfl oM).cv (show _=vP O ((u*3+0)) from congrArg (vP O) oM)) rfl ?_;have bc:=(Le.a (Le.q (l:=30032*k+100081) oM)).R ab;refine yK (A:=[_,_,_,_,_,_,_]) rfl (uB sizeOf26 (Pc.arr pH (0:Rat) u oM) bc bm) fun bu bh=>(go7 ?_);refine vT (A:=[]) (vT (A:=[]) ?_);refine gqL ((u+1),bu,z,h7) ?_ ?_
    · exact⟨mle,(zX7 bh (by rw[er];exact zU3 oM) (zYW (eA hcd3 ax (i:=i) (q:=q) oM) (by have h8:=eA hcd3 ax (i:=i) (q:=q+1) oM;rw[←rR (T3.mk zT zT zT) oM,←List.append_assoc] at h8;exact h8) _)),aj.up,oM⟩
    omega
   have eu:u=6:=by omega
   refine uQ ?_;refine vT (A:=[]) (vT (A:=[]) (vT (A:=[]) ?_));refine gqL ((q+1),G,z,mc) ?_ ?_
   · exact⟨mle,(Rp.castR ab.up (by rw[eu,zU4,List.append_assoc,rR (T3.mk zT zT zT) oM];rfl)),aj.up,oM⟩
   omega
  have ez:q=(jM s (s.2.1.getD i zA).2.1 (s.2.1.getD i zA).2.1.length).length:=by omega
  refine uQ ?_;refine vT (A:=[]) ?_;refine gqL ((i+1),I,H,mb) ?_ ?_
  · exact⟨mle,(Rp.castR am.up (by rw[ez,List.take_length];rfl)),ad.up,oM⟩
  omega
 have ei:i=s.2.1.length:=by omega
 have cp:=zZ4 hcd3 ax;refine qO ?_;refine gcL (ι:=Nat×List Value×Mem) (fun(u,ae,me)=>(MLe ma me∧((rpA 6 (rpQ (30000*k+100004))).R me ae (moD (fQ s s.2.1 s.2.1.length) u)∧u≤6),[(2,vP b2 0),(3,vP O 0),(85,vI ↑u)],[.var b4 117 T,.var O 73 ae,.var b2 73 ar,.var b1 50 au],me,6-u)) (0,U,ma) ?_ ?_
 · exact⟨mle,(Rp.castR (Le.R (Le.a (Le.q oM)) az.up) (by rw[ei];rfl)),oM⟩
 rintro⟨u,ae,me⟩ ⟨fi,Z,et⟩
 refine yU ?_;refine gc6 (fun ck=>?_) fun ck=>?_
 ·
  refine sL ?_;refine gv ((zX (sz:=3) u underlying73 sizeOf26 rfl rfl rfl oM).cv (show _=vP O ((u*3+0)) from congrArg (vP O) oM)) rfl (lX (xB yB (Pc.arr pH (0:Rat) u oM) Z) fun fw df=>(cL (vs:=[_,vI (120)]) e2z call83 (fun w hs=>nW hs df dC dC oM oM) fun fv h2 ey bl=>?_));replace bl:=Rp.Is.le bl (Le.q (l:=30000*k+100008) oM);refine gv ((zX (sz:=3) u underlying73 sizeOf26 rfl rfl rfl oM).cv (show _=vP O ((u*3+0)) from congrArg (vP O) oM)) rfl ?_;have bb:=(Le.a (Le.q (l:=30000*k+100008) oM)).R Z;refine zS (A:=[_]) (uB sizeOf26 (Pc.arr pH (0:Rat) u oM) bb bl) fun bt bg=>(go7 ?_);refine gqL ((u+1),bt,h2) ?_ ?_
  · exact⟨mle,(zX7 bg (zU5 oM) (zYX cp _)),oM⟩
  omega
 have eu:u=6:=by omega
 refine go7 ?_;refine lX (xB yAE pH Z) fun fu de=>(zS (A:=[_,_]) (uB sizeOf73 pH dd de) fun fa bf=>(go3 ?_));refine wM (kA (t:=2) yAE mh2 rfl bf) ?_;intro fd aw be;refine yG (fun E S=>zQ rfl aw E S) ?_;exact(Rp.Is.cast be (by rw[eu,yBA]))
end Go.Proofs.YtboaboflnckgoaaGreat
namespace Bk
set_option linter.unusedVariables false
set_option linter.unusedSimpArgs false
open Classical
theorem zY5{k:Nat}{h:Mem}{v:Go.Value}{p:Pt}(r:(rpT (rpQ k)).Is h v p):lqP k p:=by
 obtain⟨cs,⟨x,_,rfl,⟨_,D⟩,y,z,rfl,⟨_,C⟩,⟨_,u⟩⟩,_⟩:=r;exact⟨D,C,u⟩
theorem zTV{k l:Nat}{h:Mem}{v:Go.Value}{p:Pt}(r:(rpT (rpQ k)).Is h v p)(hl:lqP l p):(rpT (rpQ l)).Is h v p:=by
 obtain⟨cs,r,e⟩:=r;exact⟨cs,zX6 r rfl hl,e⟩
theorem zV1{Q:Rat→Prop}{p:Pt}{i:Nat}{q:Rat}(hi:i<3)(h:∀u,u<i→Q (p.at u))(hq:Q q):∀u,u<i+1→Q ((p.set i q).at u):=by
 intro u z;have:i=0∨i=1∨i=2:=by omega
 rcases this with rfl|rfl|rfl
 · have:u=0:=by omega
   subst this;exact hq
 · have:u=0∨u=1:=by omega
   rcases this with rfl|rfl
   · exact h 0 (by omega)
   · exact hq
 · have:u=0∨u=1∨u=2:=by omega
   rcases this with rfl|rfl|rfl
   · exact h 0 (by omega)
   · exact h 1 (by omega)
   · exact hq
theorem zWK{a b:Rat}(ha:0≤a)(hb:0≤b)(h:a*a≤b*b):a≤b:=by
 refine Rat.not_lt.1 fun e=>?_;have u:0<(a-b)*(a+b):=tS (by grind) (by grind);grind
theorem yA7{q:Rat}(hq:0≤q){n:Int}(h1:0≤n)(h2:n≤64):cD (q*q) n≤q∧q≤cP (q*q) n:=by
 have h0:0≤q*q:=Rat.mul_nonneg hq hq;obtain⟨⟨_,D⟩,C,z,u⟩:=zU2 h0 h1 h2;have G:0≤ovQ 1 (kN n):=by rw[←zBT (kN n),zV9];exact Nat.zero_le _
 exact⟨zWK D hq C,zWK hq (by rcases u with u|u<;>grind) z⟩
def zNI(w:Pt):Rat:=w.x*w.y*w.z
def zPI(w:Pt):Rat:=((2:Int):Rat)*(w.x*w.y+w.y*w.z+w.z*w.x)
noncomputable def thQ(x y:Rat):Rat:=jD 1 3*(x*x+x*y+y*y)
theorem zYP{n d:Int}(hn:0<n)(hd:0<d):0<jD n d:=by
 unfold jD;have z:(0:Rat)<(n:Rat):=Rat.intCast_pos.2 hn;have u:(0:Rat)<(d:Rat):=Rat.intCast_pos.2 hd;rw[Rat.div_def];exact tS z (Rat.inv_pos.2 u)
structure BoxF(a w:Pt):Prop where
 lq:lqP 5 (wE a w)
 ok:mV a (wE a w)
 h:blH a (wE a w)
 e:blE a (wE a w)=0
 ms:zYN (bkS a (wE a w))
 len:(bkS a (wE a w)).2.1.length=6
 cno:cnO (bkS a (wE a w))
 vol:dQ (bkS a (wE a w))/((6:Int):Rat)=zNI w
 cen:∀i,i<3→(cnS (bkS a (wE a w))).at i=iZ (a.at i) ((wE a w).at i)
 mo1:∀i,i<3→(zK6 (bkS a (wE a w))).getD i 0=zNI w*thQ (a.at i) ((wE a w).at i)
 mo2:∀i,i<3→(zK6 (bkS a (wE a w))).getD (3+i) 0=zNI w*((cnS (bkS a (wE a w))).at i*(cnS (bkS a (wE a w))).at ((i+1)%3))
 area:∀d:Int,0≤d→d≤64→(arS (bkS a (wE a w)) d 6).1≤zPI w∧zPI w≤(arS (bkS a (wE a w)) d 6).2
theorem zV4{i:Nat}(h:i<3):i=0∨i=1∨i=2:=by omega
theorem zSR{a b:Pt}(h:a.x<b.x∧a.y<b.y∧a.z<b.z)(i:Nat):(cnS (bxS a b)).at i=1/2*(a.at i+b.at i):=by
 rw[(zSQ h).2]
 match i with
 |0=>rfl
 |1=>rfl
 |_+2=>rfl
theorem zSZ{a w:Pt}(ha:lqP 2 a)(hw:lqP 2 w)(hp:∀u,u<3→0<w.at u):BoxF a w:=by
 have p0:0<w.x:=hp 0 (by decide);have p1:0<w.y:=hp 1 (by decide);have Z:0<w.z:=hp 2 (by decide);have C:a.x<(wE a w).x∧a.y<(wE a w).y∧a.z<(wE a w).z:=by
  refine⟨?_,?_,?_⟩
  · show a.x<a.x+w.x;grind
  · show a.y<a.y+w.y;grind
  · show a.z<a.z+w.z;grind
 have G:mV a (wE a w):=by
  intro u hu;rw[zDN]
  rcases zV4 hu with rfl|rfl|rfl
  · exact Rat.not_le.2 C.1
  · exact Rat.not_le.2 C.2.1
  · exact Rat.not_le.2 C.2.2
 have I:=zNF G;have S:(wE a w).x-a.x=w.x:=by show a.x+w.x-a.x=w.x;grind
 have O:(wE a w).y-a.y=w.y:=by show a.y+w.y-a.y=w.y;grind
 have M:(wE a w).z-a.z=w.z:=by show a.z+w.z-a.z=w.z;grind
 have H:∀f,eU a (wE a w) f=if f<2 then w.y*w.z else if f<4 then w.z*w.x else w.x*w.y:=fun f=>by unfold eU;rw[S,O,M]
 have n0:0≤w.y*w.z:=Rat.le_of_lt (tS p1 Z);have n1:0≤w.z*w.x:=Rat.le_of_lt (tS Z p0);have n2:0≤w.x*w.y:=Rat.le_of_lt (tS p0 p1);have e6:((6:Int):Rat)=6:=rfl;have e1:((120:Int):Rat)=120:=rfl;have e2:((2:Int):Rat)=2:=rfl;have e3:jD 1 3=1/3:=rfl;have mo:∀i,i<6→(zK6 (bxS a (wE a w))).getD i 0=moS (fQ (bxS a (wE a w)) (fB3 a (wE a w)) 6) i/((120:Int):Rat):=fun i hi=>hH _ _ hi;refine⟨?_,G,zS4 G,zS5 G,?_,?_,?_,?_,?_,?_,?_,?_⟩
 · exact oU (q5 ha hw) (by decide)
 · rw[I]
   refine zWD fun f hf=>?_;obtain⟨Y,X,U⟩:=hw;have g:∀x y:Rat,lq x≤2→lq y≤2→lq (x*y*(x*y))≤200:=fun x y hx hy=>by
    have:=fZ x y;have:=fZ (x*y) (x*y);omega
   rw[H f]
   split
   · exact g _ _ X U
   · split
     · exact g _ _ U Y
     · exact g _ _ Y X
 · rw[I];rfl
 · rw[I];exact(zSQ C).1
 · rw[I,zJL,S,O,M,e6];unfold zNI;grind
 · intro i hi
   have eh:zDF=1/2:=zFA.symm.trans rfl;rw[I,zSR C];unfold iZ;rw[eh];generalize a.at i=x;generalize (wE a w).at i=y;grind
 · intro i hi
   rw[I,mo i (by omega),zWF i (by omega),if_pos hi,S,O,M,e1];unfold zNI thQ;rw[e3];generalize a.at i=x;generalize (wE a w).at i=y;grind
 · intro i hi
   rw[I,mo (3+i) (by omega),zWF (3+i) (by omega),if_neg (by omega),S,O,M,e1,zSR C,zSR C];have J:prI (3+i)=i∧prJ (3+i)=(i+1)%3:=by
    rcases zV4 hi with rfl|rfl|rfl<;>decide
   rw[J.1,J.2];unfold zNI;generalize a.at i=x;generalize (wE a w).at i=y;generalize a.at ((i+1)%3)=z;generalize (wE a w).at ((i+1)%3)=u;grind
 · intro d h1 h2
   rw[I];have g:∀f,f<6→cD (jH (arV (bxS a (wE a w)) ((fB3 a (wE a w)).getD f zA)) (arV (bxS a (wE a w)) ((fB3 a (wE a w)).getD f zA))) d≤eU a (wE a w) f∧eU a (wE a w) f≤cP (jH (arV (bxS a (wE a w)) ((fB3 a (wE a w)).getD f zA)) (arV (bxS a (wE a w)) ((fB3 a (wE a w)).getD f zA))) d:=fun f hf=>by
    rw[zLY hf];refine yA7 ?_ h1 h2;rw[H f]
    split
    · exact n0
    · split
      · exact n1
      · exact n2
   have g0:=g 0 (by decide);have g1:=g 1 (by decide);have g2:=g 2 (by decide);have g3:=g 3 (by decide);have g4:=g 4 (by decide);have g5:=g 5 (by decide);rw[H 0,if_pos (by decide)] at g0;rw[H 1,if_pos (by decide)] at g1;rw[H 2,if_neg (by decide),if_pos (by decide)] at g2;rw[H 3,if_neg (by decide),if_pos (by decide)] at g3;rw[H 4,if_neg (by decide),if_neg (by decide)] at g4;rw[H 5,if_neg (by decide),if_neg (by decide)] at g5;have D:∀i,arS (bxS a (wE a w)) d (i+1)=((arS (bxS a (wE a w)) d i).1+cD (jH (arV (bxS a (wE a w)) ((fB3 a (wE a w)).getD i zA)) (arV (bxS a (wE a w)) ((fB3 a (wE a w)).getD i zA))) d,(arS (bxS a (wE a w)) d i).2+cP (jH (arV (bxS a (wE a w)) ((fB3 a (wE a w)).getD i zA)) (arV (bxS a (wE a w)) ((fB3 a (wE a w)).getD i zA))) d):=fun i=>rfl;have T:arS (bxS a (wE a w)) d 0=(0,0):=rfl;unfold zPI;rw[D 5,D 4,D 3,D 2,D 1,D 0,T,e2];dsimp only;constructor<;>grind
end Bk
namespace Go.Proofs.YtboaboflnckgoaaGreat
open Bk Go Tryz
set_option linter.unusedVariables false
set_option linter.unusedSimpArgs false
set_option maxRecDepth 10000
set_option maxHeartbeats 1000000
attribute [local irreducible] GL GC GQ W OpV
set_option maxHeartbeats 1000000 in
theorem zBJ{w0:World}{h0:Mem}(hs:MLe h0 (mem w0)){vl:Value}{xsl:List Int}(hl:Is h0 vl xsl)(hsf:SaneF):
 Calls Tryz.prog 6 #[vl] w0 (Ret w0 h0 (fun _ r=>r=.bool true)):=by
 have gz:=hl.lt63;refine cb1 193 vl func6 hs ?_;refine go9 ?_;refine cL (ev1 rfl) call19 (fun w hs=>zLB hs hl) fun lz h1 mk es=>?_;subst es;refine gc3 (fun ff=>?_) fun ff=>?_
 ·
  refine go2 ?_;refine cL (vs:=[]) trivial call8 (fun w hs=>zDC hs hsf) fun ly h2 hk er=>?_;subst er;refine go5 ?_;refine zD rfl rfl ?_
  first|rfl|exact xM trivial
 refine go5 ?_;refine qV (vs:=[_]) rfl rfl rfl rfl call20 ⟨rfl,trivial⟩ (fun w hs=>zON hs hl.up) ?_;intro lw h2 mz hk eq;obtain⟨ap,rfl,rfl⟩:=eq;refine go6 ?_;refine gY (A:=[]) (vs:=[_]) call32 ⟨rfl,trivial⟩ (fun X w hs=>zIC hl.up (by first|omega|exact Nat.zero_le _) hs) rfl ?_;intro fr fh mf kn br;obtain⟨gu,D,rfl,kd,jy,br⟩:=br;refine nA (ρ:=(tPt 2)) (X:=zT) yW (xY (yH dC)) fun b4 mw fv=>(zS (A:=[]) (uB sizeOf53 pH fv br) fun ah O=>(go4 ?_));refine nA (ρ:=(tPt 2)) (X:=zT) yW (xY (yH dC)) fun b5 hz fu=>(go9 ?_);refine gcL (ι:=Nat×T3 Rat×List Value×Nat×Mem) (fun(i,w0,J,av,ma)=>(MLe fh ma∧((tPt 2).R ma J w0∧av≤xsl.length∧i≤3∧∀u,u<i→0<w0.at u∧lq (w0.at u)≤2),[(3,vP ap 0),(4,vP b4 0),(5,vP b5 0),(6,vI ↑i)],[.var b5 53 J,.var b4 53 ah,.var ap 97 [vl,vI ↑av]],ma,3-i)) (0,zT,hz,gu,fh) ?_ ?_
 · exact⟨mle,fu,oM,by omega,fun u h=>by omega⟩
 rintro⟨i,w0,J,av,ma⟩ ⟨ka,G,ha,hc,hw⟩
 refine yU ?_;refine gc7 (fun fe=>?_) fun fe=>?_
 ·
  refine go7 ?_;refine gY (A:=[_,_]) (vs:=[_,vI (6)]) call33 e2z (fun X w hs=>bA hl.up (by first|omega|exact Nat.zero_le _) oM oM hs) rfl ?_;intro lv mr me km ep;obtain⟨mg,fo,rfl,kc,rfl,jv,jx⟩:=ep;refine gv (yA (p:=1) rfl rfl oM oM) rfl (go1 ?_);refine gY (A:=[_,_]) (vs:=[_,vI (3)]) call33 e2z (fun X w hs=>bA hl.up (by first|omega|exact Nat.zero_le _) oM oM hs) rfl ?_;intro lu mq md kl eo;obtain⟨gt,fm,rfl,kb,rfl,ju,jw⟩:=eo;refine gv (yA (p:=1) rfl rfl oM oM) rfl (cL (ev2 rfl rfl) call10 (fun w hs=>pM hs oM oM oM oM) fun lt h3 hj gs=>(gv ((zX (sz:=3) i underlying53 sizeOf26 rfl rfl rfl oM).cv (show _=vP b5 ((i*3+0)) from congrArg (vP b5) oM)) rfl (zS (A:=[]) (uB sizeOf26 (Pc.ta pH i oM) G gs) fun fi cz=>(go8 ?_))));refine gqL ((i+1),(w0.set i (jD ((1:Int)+fo) ((1:Int)+fm))),fi,gt,h3) ?_ ?_
  · exact⟨mle,cz,oM,by omega,zV1 (Q:=fun q=>0<q∧lq q≤2) oM hw ⟨zYP oM oM,zBY oM oM oM oM⟩⟩
  omega
 refine go7 ?_;refine lX (xB zU pH O) fun ls gr=>(lX (xB zU pH G) fun lr gq=>?_);have C:=zSZ (zY5 (by assumption:(tPt 2).Is _ fr D)) ⟨(hw 0 oM).2,(hw 1 oM).2,(hw 2 oM).2⟩ (fun u hu=>(hw u oM).1);refine cL (ev2 rfl rfl) call34 (fun w hs=>zRB hs gr gq dC) fun fq h3 hj am=>?_;replace am:=Rp.Is.le am (Le.t (Le.q (l:=5) oM));replace am:=Rp.Is.cast (y:=(wE D w0)) am (by rfl);replace am:(tPt 5).Is h3 fq (wE D w0):=(zTV am C.lq);refine nA (ρ:=(tPt 5)) (X:=zT) yW (xY (yH dC)) fun b7 mu ft=>(zS (A:=[]) (uB sizeOf53 pH ft am) fun aw I=>(go4 ?_));refine lX (xB zU pH O) fun ln go=>(lX (xB zU pH I) fun lm gn=>?_);refine qV (vs:=[_,_]) rfl rfl rfl rfl call35 e2z (fun w hs=>zE1 hs go gn dC dC (by first|omega|exact fun _=>C.h)) ?_;intro ll h4 my mj bb;obtain⟨mc,ia,cn,rfl,bb,rfl,gy,T⟩:=bb
 change RL (tFc (10000*2+10000*5+20000) (10000*2+10000*5+20000)) h4 cn (blF D (wE D w0)) at T
 replace bb:=Rp.Is.le bb (Le.p (Le.s (Le.t (Le.q (l:=54) oM))) (Le.refl _));replace T:=(Le.p (Le.p (Le.t (Le.q (l:=90000) oM)) (Le.q (l:=90000) oM)) (Le.refl _)).rl T;refine go3 ?_;refine nA (ρ:=(rpP (tLs 1) (rpP rpV (rpS (rpP rpI (rpP rpI (rpQ 1))))))) (X:=([],((Value.slice none 0 0),[]))) tO (yL qJ (yL cI qJ)) fun b8 mt fs=>?_;have bz:=(Le.p (Le.s (Le.t (Le.q (l:=54) dC))) (Le.p (Le.refl _) (Le.s (Le.p (Le.refl _) (Le.p (Le.refl _) (Le.q (l:=6) dC)))))).R fs;refine zS (A:=[]) (uB sizeOf50 pH bz bb) fun H ak=>(go4 ?_);refine zK 9 _ [(8,(10,26,[.bool false,.slice none 0 0,.slice none 0 0]))] [(0,.q),(1,.q),(2,.q),(3,.q),(5,.q),(6,.q),(4,.c),(7,.c),(8,.a),(9,.t)] yC (jL.cons rfl rfl (uX yP rfl rfl) jL.nil) (by kernel_rfl) (uZ rfl rfl kM) (fun r hr=>hr) (go1 ?_);refine wX rfl (xB yB (Pc.tx pH) G) fun lk gm=>(go1 ?_);refine wX rfl (xB yB (Pc.ty pH) G) fun lj gk=>(go1 ?_);refine wX rfl (xB yB (Pc.tz pH) G) fun lh gj=>?_;refine w_c rfl (sC (ev2 rfl rfl) call9 (fun w hs=>wO hs gm gk dC) fun li h5 hf ci=>?_);replace ci:=Rp.Is.le ci (Le.q (l:=4) oM);refine w_c rfl (sC (ev2 rfl rfl) call9 (fun w hs=>wO hs ci gj.up dC) fun lg h6 he ch=>?_);replace ch:=Rp.Is.le ch (Le.q (l:=6) oM);refine w_a rfl rfl (fun bt=>?_);have df:(rpQ 20).R h6 [.bool false,.slice none 0 0,.slice none 0 0] (0:Rat):=(yH dC);refine yK (A:=[]) rfl (uB sizeOf26 pH df (ch.le (Le.q (l:=20) dC))) fun ac aj=>(go4 ?_);refine yJ (A:=[_,_]) (ρ:=(tFc 90000 90000)) T.up ?_;intro h7 hd ca;replace ak:=ak.mono ((hf.trans he).trans hd);have cc:(tSd 54 90000 90000 6).R h7 H (blP D (wE D w0),(blF D (wE D w0),[])):=zJK ak ca;have U:(tSd 54 90000 90000 6).R h7 H (bkS D (wE D w0)):=Rp.castR cc (by rfl);refine lX (xB kF pH U) fun lf gh=>(cL (ev1 rfl) call25 (fun w hs=>zCY hs gh dC (by first|omega|exact C.ms.1.1|exact C.ms.1.2|exact C.ms.2.1|exact C.ms.2.2) (by first|omega|exact C.ms.1.1|exact C.ms.1.2|exact C.ms.2.1|exact C.ms.2.2) (by first|omega|exact C.ms.1.1|exact C.ms.1.2|exact C.ms.2.1|exact C.ms.2.2)) fun ld h8 mi gg=>?_);obtain⟨bx,rfl,Y⟩:=gg
 change (tPt (50000*54+300000)).Is h8 bx (cnS (bkS D (wE D w0))) at Y
 replace Y:=Rp.Is.le Y (Le.t (Le.q (l:=3000000) oM));refine go3 ?_;refine nA (ρ:=(tPt 3000000)) (X:=zT) yW (xY (yH dC)) fun M kq de=>(zS (A:=[]) (uB sizeOf53 pH de Y) fun ab ai=>(go5 ?_));refine zK 13 _ [] [(0,.q),(1,.q),(2,.q),(3,.q),(4,.q),(5,.q),(6,.q),(7,.q),(9,.q),(8,.c),(10,.c),(11,.q),(12,.q)] yC nX (vJ (by kernel_rfl)) nX (fun r hr=>hr) (go1 ?_);refine xK rfl (fun _ _=>OpV.fa (by rw[C.e];exact fun e=>e rfl) (lK (q:=0) rfl rfl)) rfl (go1 ?_);refine yO rfl rfl rfl (fun h' L' hh hR=>yX rfl) rfl (yO rfl rfl rfl (fun h' L' hh hR=>OpV.fa (by exact fun e=>e C.cno) (oH rfl)) rfl (go2 ?_));refine oX rfl (xB kF pH U) fun lc gf=>(oX rfl (xB yB pH aj) fun la ge=>?_);refine w_c rfl (rK rfl rfl (sC (ev1 rfl) call26 (fun w hs=>zCV hs gf dC (by first|omega|exact C.ms.1.1|exact C.ms.1.2|exact C.ms.2.1|exact C.ms.2.2) (by first|omega|exact C.ms.1.1|exact C.ms.1.2|exact C.ms.2.1|exact C.ms.2.2) (by first|omega|exact C.ms.1.1|exact C.ms.1.2|exact C.ms.2.1|exact C.ms.2.2)) fun lb h9 mh cg=>?_));replace cg:=Rp.Is.le cg (Le.q (l:=1180004) oM);refine w_c rfl (rK rfl rfl (sC (ev2 rfl rfl) call15 (fun w hs=>vO hs cg ge.up dC) fun fp mp kk gc=>?_));obtain rfl:fp=vB ((dQ (bkS D (wE D w0))/((6:Int):Rat))=((w0.x*w0.y)*w0.z)):=gc;refine yO rfl rfl rfl (fun h' L' hh hR=>OpV.fa (by exact fun e=>e C.vol) (oH rfl)) rfl (go8 ?_);refine lX (xB kF pH U) fun kz gb=>(cL (ev1 rfl) call36 (fun w hs=>zKW hs gb dC (by first|omega|exact C.ms.1.1|exact C.ms.1.2|exact C.ms.2.1|exact C.ms.2.2) (by first|omega|exact C.ms.1.1|exact C.ms.1.2|exact C.ms.2.1|exact C.ms.2.2) (by first|omega|exact C.ms.1.1|exact C.ms.1.2|exact C.ms.2.1|exact C.ms.2.2)) fun ky fg kj cf=>?_);replace cf:=Rp.Is.le cf (Le.a (Le.q (l:=1720004) oM));refine nA (ρ:=(rpA 6 (rpQ 2000000))) (X:=(List.replicate 6 (0:Rat))) zGO (mW 6 (yH dC)) fun ad kp dd=>(zS (A:=[]) (uB sizeOf73 pH dd (cf.le (Le.a (Le.q (l:=2000000) dC)))) fun aa ba=>(go9 ?_));refine gcL (ι:=Nat×Nat×Mem) (fun(i,Z,mb)=>(MLe fg mb∧(Z≤xsl.length∧i≤3),[(3,vP ap 0),(4,vP b4 0),(5,vP b5 0),(7,vP b7 0),(8,vP b8 0),(10,vP bt 0),(11,vP M 0),(13,vP ad 0),(14,vI ↑i)],[.var ad 73 aa,.var M 53 ab,.var bt 26 ac,.var b8 50 H,.var b7 53 aw,.var b5 53 J,.var b4 53 ah,.var ap 97 [vl,vI ↑Z]],mb,3-i)) (0,av,fg) ?_ ?_
 · exact⟨mle,oM,oM⟩
 rintro⟨i,Z,mb⟩ ⟨jz,fj,hc⟩
 refine yU ?_;refine gc7 (fun fd=>?_) fun fd=>?_
 ·
  refine go8 ?_;refine gv (vW (q:=3) rfl rfl oM oM) rfl (go4 ?_);refine zK 26 _ [(25,(16,26,[.bool false,.slice none 0 0,.slice none 0 0]))] [(1,.q),(2,.q),(3,.q),(4,.q),(5,.q),(6,.q),(8,.q),(9,.q),(10,.q),(11,.q),(12,.q),(13,.q),(16,.q),(17,.q),(18,.q),(19,.q),(20,.q),(21,.q),(0,.c),(7,.c),(14,.c),(15,.c),(22,.c),(23,.c),(24,.c),(25,.a),(26,.t)] yC (jL.cons rfl rfl (uX yP rfl rfl) jL.nil) (vJ (by kernel_rfl)) (uZ rfl rfl kM) (fun r hr=>hr) (go1 ?_);refine xK rfl (fun _ _=>(zX (sz:=3) i underlying53 sizeOf26 rfl rfl rfl oM).cv (show _=vP b4 ((i*3+0)) from congrArg (vP b4) oM)) rfl (wX rfl (xB yB (Pc.ta pH i oM) O) fun kw fz=>(go1 ?_));refine xK rfl (fun _ _=>(zX (sz:=3) i underlying53 sizeOf26 rfl rfl rfl oM).cv (show _=vP b4 ((i*3+0)) from congrArg (vP b4) oM)) rfl (wX rfl (xB yB (Pc.ta pH i oM) O) fun kv fy=>(go1 ?_));refine xK rfl (fun _ _=>(zX (sz:=3) i underlying53 sizeOf26 rfl rfl rfl oM).cv (show _=vP b4 ((i*3+0)) from congrArg (vP b4) oM)) rfl (wX rfl (xB yB (Pc.ta pH i oM) O) fun kt fx=>(go1 ?_));refine xK rfl (fun _ _=>(zX (sz:=3) i underlying53 sizeOf26 rfl rfl rfl oM).cv (show _=vP b7 ((i*3+0)) from congrArg (vP b7) oM)) rfl (wX rfl (xB yB (Pc.ta pH i oM) I) fun ks fw=>(go1 ?_));refine xK rfl (fun _ _=>(zX (sz:=3) i underlying53 sizeOf26 rfl rfl rfl oM).cv (show _=vP b7 ((i*3+0)) from congrArg (vP b7) oM)) rfl (wX rfl (xB yB (Pc.ta pH i oM) I) fun jr em=>(go1 ?_));refine xK rfl (fun _ _=>(zX (sz:=3) i underlying53 sizeOf26 rfl rfl rfl oM).cv (show _=vP b7 ((i*3+0)) from congrArg (vP b7) oM)) rfl (wX rfl (xB yB (Pc.ta pH i oM) I) fun jq el=>?_);refine w_c rfl (sC (vs:=[vI (1),vI (3)]) e2z call10 (fun w hs=>pM hs dC dC dC dC) fun kx hx fc ga=>?_);refine w_c rfl (sC (ev2 rfl rfl) call9 (fun w hs=>wO hs fz.up fy.up dC) fun ku hv fb ce=>?_);replace ce:=Rp.Is.le ce (Le.q (l:=4) oM);refine w_c rfl (sC (ev2 rfl rfl) call9 (fun w hs=>wO hs fx.up fw.up dC) fun kr ht ez cd=>?_);replace cd:=Rp.Is.le cd (Le.q (l:=7) oM);refine w_c rfl (sC (ev2 rfl rfl) call37 (fun w hs=>kC hs ce.up cd dC) fun js hq ey bp=>?_);replace bp:=Rp.Is.le bp (Le.q (l:=12) oM);refine w_c rfl (sC (ev2 rfl rfl) call9 (fun w hs=>wO hs em.up el.up dC) fun jp hp ew bo=>?_);replace bo:=Rp.Is.le bo (Le.q (l:=10) oM);refine w_c rfl (sC (ev2 rfl rfl) call37 (fun w hs=>kC hs bp.up bo dC) fun jo ho ev bn=>?_);replace bn:=Rp.Is.le bn (Le.q (l:=23) oM);refine w_c rfl (sC (ev2 rfl rfl) call9 (fun w hs=>wO hs ga.up bn dC) fun jn cm eu bm=>?_);replace bm:=Rp.Is.le bm (Le.q (l:=25) oM);refine w_a rfl rfl (fun mx=>?_);have dc:(rpQ 200).R cm [.bool false,.slice none 0 0,.slice none 0 0] (0:Rat):=(yH dC);refine yK (A:=[]) rfl (uB sizeOf26 pH dc (bm.le (Le.q (l:=200) dC))) fun hy cb=>(go3 ?_);refine zK 39 _ [] [(0,.q),(1,.q),(2,.q),(3,.q),(4,.q),(5,.q),(6,.q),(7,.q),(8,.q),(9,.c),(10,.c),(11,.q),(12,.q),(13,.q),(14,.q),(15,.q),(16,.q),(17,.q),(18,.c),(19,.c),(20,.q),(21,.q),(22,.q),(23,.q),(24,.q),(25,.q),(26,.q),(27,.q),(28,.q),(29,.q),(30,.q),(31,.q),(32,.q),(33,.q),(34,.c),(35,.c),(36,.c),(37,.q),(38,.q)] yC nX (vJ (by kernel_rfl)) nX (fun r hr=>hr) (go1 ?_);refine xK rfl (fun _ _=>(zX (sz:=3) i underlying53 sizeOf26 rfl rfl rfl oM).cv (show _=vP M ((i*3+0)) from congrArg (vP M) oM)) rfl (wX rfl (xB yB (Pc.ta pH i oM) ai) fun jm ek=>(go1 ?_));refine xK rfl (fun _ _=>(zX (sz:=3) i underlying53 sizeOf26 rfl rfl rfl oM).cv (show _=vP b4 ((i*3+0)) from congrArg (vP b4) oM)) rfl (wX rfl (xB yB (Pc.ta pH i oM) O) fun jl ej=>(go1 ?_));refine xK rfl (fun _ _=>(zX (sz:=3) i underlying53 sizeOf26 rfl rfl rfl oM).cv (show _=vP b7 ((i*3+0)) from congrArg (vP b7) oM)) rfl (wX rfl (xB yB (Pc.ta pH i oM) I) fun jk ei=>?_);refine w_c rfl (sC (ev2 rfl rfl) call38 (fun w hs=>iV hs ej ei dC) fun jj bs et bl=>?_);replace bl:=Rp.Is.le bl (Le.q (l:=9) oM);refine w_c rfl (sC (ev2 rfl rfl) call15 (fun w hs=>vO hs ek.up bl dC) fun cy ax S eh=>?_);obtain rfl:cy=vB (((cnS (bkS D (wE D w0))).at i)=(iZ (D.at i) ((wE D w0).at i))):=eh;refine xK rfl (fun _ _=>OpV.fa (by exact fun e=>e (C.cen i oM)) (oH rfl)) rfl (go1 ?_)
  refine yO rfl rfl rfl (fun h' L' hh hR=>yX rfl) rfl (yO rfl rfl rfl (fun h' L' hh hR=>(zX (sz:=3) i underlying73 sizeOf26 rfl rfl rfl oM).cv (show _=vP ad ((i*3+0)) from congrArg (vP ad) oM)) rfl (oX rfl (xB yB (Pc.arr pH (0:Rat) i oM) ba) fun ji eg=>(oX rfl (xB yB pH aj) fun jh ef=>(oX rfl (xB yB pH cb) fun jg ee=>?_))));refine w_c rfl (rK rfl rfl (sC (ev2 rfl rfl) call9 (fun w hs=>wO hs ef ee dC) fun jf mo ki bk=>?_));replace bk:=Rp.Is.le bk (Le.q (l:=220) oM);refine w_c rfl (rK rfl rfl (sC (ev2 rfl rfl) call15 (fun w hs=>vO hs eg.up bk dC) fun cw mn kh ed=>?_));obtain rfl:cw=vB (((zK6 (bkS D (wE D w0))).getD i (0:Rat))=(((w0.x*w0.y)*w0.z)*((jD (1:Int) (3:Int))*((((D.at i)*(D.at i))+((D.at i)*((wE D w0).at i)))+(((wE D w0).at i)*((wE D w0).at i)))))):=ed;refine yO rfl rfl rfl (fun h' L' hh hR=>OpV.fa (by exact fun e=>e (C.mo1 i oM)) (oH rfl)) rfl (go2 ?_);refine yO rfl rfl rfl (fun h' L' hh hR=>yX rfl) rfl (yO rfl rfl rfl (fun h' L' hh hR=>yA (p:=3) rfl rfl oM oM) rfl (yO rfl rfl rfl (fun h' L' hh hR=>(zX (sz:=3) (3+i) underlying73 sizeOf26 rfl rfl (by first|rfl|omega|(push_cast;rfl)) oM).cv (show _=vP ad (((3+i)*3+0)) from congrArg (vP ad) oM)) rfl (oX rfl (xB yB (Pc.arr pH (0:Rat) (3+i) oM) ba) fun je ec=>(oX rfl (xB yB pH aj) fun jd eb=>(yO rfl rfl rfl (fun h' L' hh hR=>yX rfl) rfl (yO rfl rfl rfl (fun h' L' hh hR=>(zX (sz:=3) i underlying53 sizeOf26 rfl rfl rfl oM).cv (show _=vP M ((i*3+0)) from congrArg (vP M) oM)) rfl (oX rfl (xB yB (Pc.ta pH i oM) ai) fun jc ea=>(yO rfl rfl rfl (fun h' L' hh hR=>yX rfl) rfl (yO rfl rfl rfl (fun h' L' hh hR=>(zX (sz:=3) ((i+1)%3) underlying53 sizeOf26 rfl rfl (by first|rfl|omega|(push_cast;rfl)) oM).cv (show _=vP M ((((i+1)%3)*3+0)) from congrArg (vP M) oM)) rfl (oX rfl (xB yB (Pc.ta pH ((i+1)%3) oM) ai) fun jb dz=>?_))))))))));refine w_c rfl (rK rfl rfl (sC (ev2 rfl rfl) call9 (fun w hs=>wO hs ea dz dC) fun ja mm kg bj=>?_));replace bj:=Rp.Is.le bj (Le.q (l:=6000000) oM);refine w_c rfl (rK rfl rfl (sC (ev2 rfl rfl) call9 (fun w hs=>wO hs eb.up bj dC) fun iz ml kf bi=>?_));replace bi:=Rp.Is.le bi (Le.q (l:=6000020) oM);refine w_c rfl (rK rfl rfl (sC (ev2 rfl rfl) call15 (fun w hs=>vO hs ec.up bi dC) fun cu hn ke dy=>?_));obtain rfl:cu=vB (((zK6 (bkS D (wE D w0))).getD (3+i) (0:Rat))=(((w0.x*w0.y)*w0.z)*(((cnS (bkS D (wE D w0))).at i)*((cnS (bkS D (wE D w0))).at ((i+1)%3))))):=dy;refine yO rfl rfl rfl (fun h' L' hh hR=>OpV.fa (by exact fun e=>e (C.mo2 i oM)) (oH rfl)) rfl (qO ?_);refine vT (A:=[]) ?_;refine gqL ((i+1),Z,hn) ?_ ?_
  · exact⟨mle,oM,oM⟩
  omega
 refine go6 ?_;refine zK 20 _ [(19,(17,26,[.bool false,.slice none 0 0,.slice none 0 0]))] [(1,.q),(2,.q),(3,.q),(4,.q),(6,.q),(7,.q),(8,.q),(9,.q),(12,.q),(13,.q),(14,.q),(15,.q),(0,.c),(5,.c),(10,.c),(11,.c),(16,.c),(17,.c),(18,.c),(19,.a),(20,.t)] yC (jL.cons rfl rfl (uX yP rfl rfl) jL.nil) (vJ (by kernel_rfl)) (uZ rfl rfl kM) (fun r hr=>hr) (go1 ?_);refine wX rfl (xB yB (Pc.tx pH) G) fun ix dw=>(go1 ?_);refine wX rfl (xB yB (Pc.ty pH) G) fun iw dv=>(go1 ?_);refine wX rfl (xB yB (Pc.ty pH) G) fun iu du=>(go1 ?_);refine wX rfl (xB yB (Pc.tz pH) G) fun it dt=>(go1 ?_);refine wX rfl (xB yB (Pc.tz pH) G) fun ip dr=>(go1 ?_);refine wX rfl (xB yB (Pc.tx pH) G) fun io dq=>?_;refine w_c rfl (sC (vs:=[vI (2)]) ⟨rfl,trivial⟩ call39 (fun w hs=>jS hs dC dC) fun iy hx fc dx=>?_);refine w_c rfl (sC (ev2 rfl rfl) call9 (fun w hs=>wO hs dw.up dv.up dC) fun iv hv fb bh=>?_);replace bh:=Rp.Is.le bh (Le.q (l:=4) oM);refine w_c rfl (sC (ev2 rfl rfl) call9 (fun w hs=>wO hs du.up dt.up dC) fun ir ht ez bg=>?_);replace bg:=Rp.Is.le bg (Le.q (l:=4) oM);refine w_c rfl (sC (ev2 rfl rfl) call37 (fun w hs=>kC hs bh.up bg dC) fun iq hq ey bf=>?_);replace bf:=Rp.Is.le bf (Le.q (l:=9) oM);refine w_c rfl (sC (ev2 rfl rfl) call9 (fun w hs=>wO hs dr.up dq.up dC) fun im hp ew be=>?_);replace be:=Rp.Is.le be (Le.q (l:=4) oM);refine w_c rfl (sC (ev2 rfl rfl) call37 (fun w hs=>kC hs bf.up be dC) fun il ho ev bd=>?_);replace bd:=Rp.Is.le bd (Le.q (l:=14) oM);refine w_c rfl (sC (ev2 rfl rfl) call9 (fun w hs=>wO hs dx.up bd dC) fun ik cm eu bc=>?_);replace bc:=Rp.Is.le bc (Le.q (l:=16) oM);refine w_a rfl rfl (fun bw=>?_);have db:(rpQ 200).R cm [.bool false,.slice none 0 0,.slice none 0 0] (0:Rat):=(yH dC);refine yK (A:=[]) rfl (uB sizeOf26 pH db (bc.le (Le.q (l:=200) dC))) fun ao az=>(go3 ?_);refine jJ (A:=[_,_,_,_,_,_,_,_]) 10 [(7,(18,34,[.bool false,.slice none 0 0,.slice none 0 0,.bool false,.slice none 0 0,.slice none 0 0]))] [(0,.q),(1,.q),(2,.c),(3,.c),(4,.q),(5,.q),(6,.q),(7,.a),(8,.c),(9,.q)] yC (jL.cons rfl rfl (uX gC rfl rfl) jL.nil) (by kernel_rfl) (uZ rfl rfl kM) (wX rfl (xB kF pH U) fun ij dp=>(go1 ?_));refine w_c rfl ?_;refine zJ1 (A:=[_,_,_,_,_,_,_,_]) (vs:=[_,vI (6)]) call33 e2z (fun X w hs=>bA hl.up (by first|omega|exact Nat.zero_le _) oM oM hs) rfl (wN (by first|(simp;done)|grind)) ?_;intro ii ko jt hm ck;obtain⟨bq,ae,rfl,hb,rfl,gw,gx⟩:=ck;refine w_c rfl (sC (ev2 rfl rfl) call40 (fun w hs=>w9 hs dp.up oM oM dC (by first|omega|exact C.ms.1.1|exact C.ms.1.2|exact C.ms.2.1|exact C.ms.2.2) (by first|omega|exact C.ms.1.1|exact C.ms.1.2|exact C.ms.2.1|exact C.ms.2.2) (by first|omega|exact C.ms.1.1|exact C.ms.1.2|exact C.ms.2.1|exact C.ms.2.2) (by first|omega|exact C.ms.1.1|exact C.ms.1.2|exact C.ms.2.1|exact C.ms.2.2) oM oM) fun ih bs et dn=>?_);obtain⟨bu,rfl,aq⟩:=dn
 change (rpP (rpQ 400000) (rpQ 400000)).Is bs bu (arS (bkS D (wE D w0)) ae (bkS D (wE D w0)).2.1.length) at aq
 refine go3 ?_;refine w_a rfl rfl (fun bv=>?_);have da:(rpP (rpQ 400000) (rpQ 400000)).R bs [.bool false,.slice none 0 0,.slice none 0 0,.bool false,.slice none 0 0,.slice none 0 0] ((0:Rat),(0:Rat)):=(yL (yH dC) (yH dC));refine w_c rfl (bD (A:=[]) (uB sizeOf34 pH da aq) (wN (by first|(simp;done)|grind)) fun an ay=>(go6 ?_));refine uL (ι:=Mem) 7 (fun m_=>MLe bs m_) (fun _=>[(182,vB (True)),(17,vP bw 0),(18,vP bv 0)]) (fun _=>[.var bv 34 an,.var bw 26 ao,.var ad 73 aa,.var M 53 ab,.var bt 26 ac,.var b8 50 H,.var b7 53 aw,.var b5 53 J,.var b4 53 ah,.var ap 97 [vl,vI ↑bq]]) (fun m_=>m_) ?_ ?_
 ·
  refine yD (True) (fun hg=>?_) (fun hg=>?_)
  ·
   refine gT hg rfl (go3 ?_);refine lX (xB yB (Pc.fst pH) ay) fun ig dm=>(go1 ?_);refine lX (xB yB pH az) fun ie dl=>(go1 ?_);refine cL (ev2 rfl rfl) call18 (fun w hs=>kB hs dm dl dC) fun ct ax S dk=>?_;obtain rfl:ct=vI (wH ((arS (bkS D (wE D w0)) ae (bkS D (wE D w0)).2.1.length).1) ((((2:Int):Int):Rat)*(((w0.x*w0.y)+(w0.y*w0.z))+(w0.z*w0.x)))):=dk;have fl:=jC ((arS (bkS D (wE D w0)) ae (bkS D (wE D w0)).2.1.length).1) ((((2:Int):Int):Rat)*(((w0.x*w0.y)+(w0.y*w0.z))+(w0.z*w0.x)));refine go1 ?_;refine gv (OpV.tr (by exact dG.2 (by rw[C.len];exact(C.area _ oM oM).1)) (oK (q:=0) rfl rfl)) rfl (go2 ?_);refine zO ax S ⟨?_,rfl,rfl,trivial⟩ rfl rfl;exact congrArg some (xM hg).symm
  refine gF hg rfl (go7 ?_);refine zO bs (MLe.refl _) ⟨?_,rfl,rfl,trivial⟩ rfl rfl;exact congrArg some (yV hg).symm
 intro au cp;refine tJ ?_;refine uL (ι:=Mem) 7 (fun m_=>MLe au m_) (fun _=>[(189,vB (True))]) (fun _=>[.var bv 34 an,.var bw 26 ao,.var ad 73 aa,.var M 53 ab,.var bt 26 ac,.var b8 50 H,.var b7 53 aw,.var b5 53 J,.var b4 53 ah,.var ap 97 [vl,vI ↑bq]]) (fun m_=>m_) ?_ ?_
 ·
  refine yD (True) (fun hg=>?_) (fun hg=>?_)
  ·
   refine gT hg rfl (go1 ?_);refine lX (xB yB pH az) fun id dj=>(go3 ?_);refine lX (xB yB (Pc.snd pH) ay) fun ic di=>(go1 ?_);refine cL (ev2 rfl rfl) call18 (fun w hs=>kB hs dj di dC) fun cq ax S dh=>?_;obtain rfl:cq=vI (wH ((((2:Int):Int):Rat)*(((w0.x*w0.y)+(w0.y*w0.z))+(w0.z*w0.x))) ((arS (bkS D (wE D w0)) ae (bkS D (wE D w0)).2.1.length).2)):=dh;have fk:=jC ((((2:Int):Int):Rat)*(((w0.x*w0.y)+(w0.y*w0.z))+(w0.z*w0.x))) ((arS (bkS D (wE D w0)) ae (bkS D (wE D w0)).2.1.length).2);refine go1 ?_;refine gv (OpV.tr (by exact dG.2 (by rw[C.len];exact(C.area _ oM oM).2)) (oK (q:=0) rfl rfl)) rfl (go2 ?_);refine zO ax S ⟨?_,trivial⟩ rfl rfl;exact congrArg some (xM hg).symm
  refine gF hg rfl (go7 ?_);refine zO au (MLe.refl _) ⟨?_,trivial⟩ rfl rfl;exact congrArg some (yV hg).symm
 intro ar co;refine tJ ?_;refine uL (ι:=Mem) 3 (fun m_=>MLe ar m_) (fun _=>[(192,vB (True))]) (fun _=>[.var bv 34 an,.var bw 26 ao,.var ad 73 aa,.var M 53 ab,.var bt 26 ac,.var b8 50 H,.var b7 53 aw,.var b5 53 J,.var b4 53 ah,.var ap 97 [vl,vI ↑bq]]) (fun m_=>m_) ?_ ?_
 ·
  refine yD (True) (fun hg=>?_) (fun hg=>?_)
  ·
   refine gT hg rfl (go1 ?_);refine cL (vs:=[]) trivial call8 (fun w hs=>zDC hs hsf) fun ib ax S cj=>?_;subst cj;refine go2 ?_;refine zO ax S ⟨?_,trivial⟩ rfl rfl;exact congrArg some (xM hg).symm
  refine gF hg rfl (go3 ?_);refine zO ar (MLe.refl _) ⟨?_,trivial⟩ rfl rfl;exact congrArg some (yV hg).symm
 intro en cl;refine tJ ?_;refine go4 ?_;refine zD rfl rfl ?_
 first|rfl|exact xM trivial
theorem zFP{w0:World}{h0:Mem}(hs:MLe h0 (mem w0)){vl:Value}{xsl:List Int}(hl:Is h0 vl xsl):
 Calls Tryz.prog 6 #[vl] w0 (Ret w0 h0 (fun _ r=>r=.bool true)):=zBJ hs hl zP4
end Go.Proofs.YtboaboflnckgoaaGreat
