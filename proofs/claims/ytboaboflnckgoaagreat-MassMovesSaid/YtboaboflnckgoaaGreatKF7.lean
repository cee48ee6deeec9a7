/- Texts that the proof needs, part 7. -/
import Derived.Test.YtboaboflnckgoaaGreatKF6
set_option linter.unusedVariables false
set_option linter.unusedSimpArgs false
noncomputable section
set_option maxRecDepth 10000
set_option maxHeartbeats 1000000
namespace Go.Proofs.YtboaboflnckgoaaGreat
open Bk Go Tryz
attribute [local irreducible] GL GC GQ W OpV
section
variable{w0:World}{h0:Mem}(hs:MLe h0 (mem w0))
include hs
theorem zWN{k l:Nat}{va:Value}{a:Tq}(ra:(tPt k).Is h0 va a){vb:Value}{b:Tq}(rb:(tPt l).Is h0 vb b)(hcd0:k+l<=1000000000):Calls prog 34 #[va,vb] w0 (Ret w0 h0 (λh r=>(tPt (k+l+1)).Is h r (T3.mk (a.x+b.x) (a.y+b.y) (a.z+b.z)))):=by
 obtain⟨M,J,H⟩:=zLB ra;obtain⟨G,D,C⟩:=zLB rb;exact(zWO hs ra rb hcd0).mono (kC λh r x=>zE8 x (by have:=kW a.x b.x;show lq (a.x+b.x)<=_;omega) (by have:=kW a.y b.y;show lq (a.y+b.y)<=_;omega) (by have:=kW a.z b.z;show lq (a.z+b.z)<=_;omega))
theorem zBQ{k l:Nat}{va:Value}{a:Tq}(ra:(tPt k).Is h0 va a){vb:Value}{b:Tq}(rb:(tPt l).Is h0 vb b)(hcd0:k+l<=1000000000):Calls prog 125 #[va,vb] w0 (Ret w0 h0 (λh r=>(tPt (k+l+1)).Is h r (T3.mk (a.x-b.x) (a.y-b.y) (a.z-b.z)))):=by
 obtain⟨M,J,H⟩:=zLB ra;obtain⟨G,D,C⟩:=zLB rb;exact(zMC hs ra rb hcd0).mono (kC λh r x=>zE8 x (by have:=oW a.x b.x;show lq (a.x-b.x)<=_;omega) (by have:=oW a.y b.y;show lq (a.y-b.y)<=_;omega) (by have:=oW a.z b.z;show lq (a.z-b.z)<=_;omega))
theorem lD{l k:Nat}{vq:Value}{q:Rat}(rq:(rpQ l).Is h0 vq q){va:Value}{a:Tq}(ra:(tPt k).Is h0 va a)(hcd0:k+l<=1000000000):Calls prog 111 #[vq,va] w0 (Ret w0 h0 (λh r=>(tPt (k+l)).Is h r (T3.mk (q*a.x) (q*a.y) (q*a.z)))):=by
 obtain⟨H,G,D⟩:=zLB ra;have C:=(yIP rq).2;exact(zFZ hs rq ra hcd0).mono (kC λh r x=>zE8 x (by have:=pK q a.x;show lq (q*a.x)<=_;omega) (by have:=pK q a.y;show lq (q*a.y)<=_;omega) (by have:=pK q a.z;show lq (q*a.z)<=_;omega))
theorem zPI{k l:Nat}{va:Value}{a:Tq}(ra:(tPt k).Is h0 va a){vb:Value}{b:Tq}(rb:(tPt l).Is h0 vb b)(hcd0:k+l<=10000000000):
 Calls prog 116 #[va,vb,vF 70 []] w0 (Ret w0 h0 (λh r=>(tPt (k+l+1+1)).Is h r (T3.mk (a.x+b.x) (a.y+b.y) (a.z+b.z)))):=by
 refine cb3 24 va vb (vF 70 []) func116 hs ?_;refine go2 ?_;refine nB ra λb3 bl Z=>(nB rb λb4 bk U=>(nA (ρ:=(tPt (k+l+1+1))) (X:=zT) yO (yS (yE oM)) λb6 bj az=>(go4 ?_)));refine nA (ρ:=(tPt (k+l+1+1))) (X:=zT) yO (yS (yE oM)) λb7 bi ay=>(go9 ?_);refine gN (go2 ?_);refine gv (OpV.tr dC (yH (q:=3) I I)) I (rT ?_);refine zK 10 _ [] (zai 0 8 [(8,.c),(9,.q),(10,.t)]) yA nX zot nX (λr hr=>hr) (go4 ?_);refine wX I (xB yJ (y4e pH) Z) λax ai=>(go2 ?_);refine wX I (xB yJ (y4e pH) U) λau ad=>?_;refine w_c I (aH (cI (vs:=[_,_]) call70 I e2z) I (λw hs=>pQ hs ai ad oM) ?_);intro M h1 bh G
 change (rpQ (k+l+1)).Is h1 M (a.x+b.x) at G
 refine go1 ?_;refine yG (A:=[]) I (uB sizeOf26 (y4e pH) ay (G.le (Le.q (l:=k+l+1+1) oM))) λbd ao=>(go4 ?_);refine gv ((zV (q:=1) I I oM oM).cv (show _=vI (1) from I)) I (go2 ?_);refine xM (go2 ?_);refine gv (OpV.tr dC (yH (q:=3) I I)) I (rT ?_);refine zK 10 _ [] (zai 0 8 [(8,.c),(9,.q),(10,.t)]) yA nX zot nX (λr hr=>hr) (go4 ?_);refine wX I (xB yJ (y5i pH) Z) λaw ah=>(go2 ?_);refine wX I (xB yJ (y5i pH) U) λar ac=>?_;refine w_c I (aH (cI (vs:=[_,_]) call70 I e2z) I (λw hs=>pQ hs ah ac oM) ?_);intro J h2 bg D
 change (rpQ (k+l+1)).Is h2 J (a.y+b.y) at D
 refine go1 ?_;refine yG (A:=[]) I (uB sizeOf26 (y5i pH) ao (D.le (Le.q (l:=k+l+1+1) oM))) λbc an=>(go4 ?_);refine gv ((zV (q:=1) I I oM oM).cv (show _=vI (2) from I)) I (go2 ?_);refine xM (go2 ?_);refine gv (OpV.tr dC (yH (q:=3) I I)) I (rT ?_);refine zK 10 _ [] (zai 0 8 [(8,.c),(9,.q),(10,.t)]) yA nX zot nX (λr hr=>hr) (go4 ?_);refine wX I (xB yJ (y5u pH) Z) λav ae=>(go2 ?_);refine wX I (xB yJ (y5u pH) U) λaq ab=>?_;refine w_c I (aH (cI (vs:=[_,_]) call70 I e2z) I (λw hs=>pQ hs ae ab oM) ?_);intro H h3 bf C
 change (rpQ (k+l+1)).Is h3 H (a.z+b.z) at C
 refine go1 ?_;refine yG (A:=[]) I (uB sizeOf26 (y5u pH) an (C.le (Le.q (l:=k+l+1+1) oM))) λbb am=>(go4 ?_);refine gv ((zV (q:=1) I I oM oM).cv (show _=vI (3) from I)) I (go2 ?_);refine xM (go2 ?_);refine gv (OpV.fa dC (yH (q:=3) I I)) I (jI ?_);refine lX (xB zR pH am) λap aa=>(zU (A:=[_]) (uB sizeOf53 pH az aa) λba ak=>(go3 ?_));refine xH (qK (t:=6) zR mh1 I ak) ?_;intro be aj O;refine yI (λE S=>zS I aj E S) ?_;exact O
theorem zPG{k l:Nat}{va:Value}{a:Tq}(ra:(tPt k).Is h0 va a){vb:Value}{b:Tq}(rb:(tPt l).Is h0 vb b)(hcd0:k+l<=10000000000):
 Calls prog 116 #[va,vb,vF 179 []] w0 (Ret w0 h0 (λh r=>(tPt (k+l+1+1)).Is h r (T3.mk (a.x-b.x) (a.y-b.y) (a.z-b.z)))):=by
 refine cb3 24 va vb (vF 179 []) func116 hs ?_;refine go2 ?_;refine nB ra λb3 bl ae=>(nB rb λb4 bk ad=>(nA (ρ:=(tPt (k+l+1+1))) (X:=zT) yO (yS (yE oM)) λb6 bj az=>(go4 ?_)));refine nA (ρ:=(tPt (k+l+1+1))) (X:=zT) yO (yS (yE oM)) λb7 bi ay=>(go9 ?_);refine gN (go2 ?_);refine gv (OpV.tr dC (yH (q:=3) I I)) I (rT ?_);refine zK 10 _ [] (zai 0 8 [(8,.c),(9,.q),(10,.t)]) yA nX zot nX (λr hr=>hr) (go4 ?_);refine wX I (xB yJ (y4e pH) ae) λax ao=>(go2 ?_);refine wX I (xB yJ (y4e pH) ad) λau ak=>?_;refine w_c I (aH (cI (vs:=[_,_]) call179 I e2z) I (λw hs=>aR hs ao ak oM) ?_);intro O h1 bh G
 change (rpQ (k+l+1)).Is h1 O (a.x-b.x) at G
 refine go1 ?_;refine yG (A:=[]) I (uB sizeOf26 (y4e pH) ay (G.le (Le.q (l:=k+l+1+1) oM))) λbd ac=>(go4 ?_);refine gv ((zV (q:=1) I I oM oM).cv (show _=vI (1) from I)) I (go2 ?_);refine xM (go2 ?_);refine gv (OpV.tr dC (yH (q:=3) I I)) I (rT ?_);refine zK 10 _ [] (zai 0 8 [(8,.c),(9,.q),(10,.t)]) yA nX zot nX (λr hr=>hr) (go4 ?_);refine wX I (xB yJ (y5i pH) ae) λaw an=>(go2 ?_);refine wX I (xB yJ (y5i pH) ad) λar aj=>?_;refine w_c I (aH (cI (vs:=[_,_]) call179 I e2z) I (λw hs=>aR hs an aj oM) ?_);intro M h2 bg D
 change (rpQ (k+l+1)).Is h2 M (a.y-b.y) at D
 refine go1 ?_;refine yG (A:=[]) I (uB sizeOf26 (y5i pH) ac (D.le (Le.q (l:=k+l+1+1) oM))) λbc ab=>(go4 ?_);refine gv ((zV (q:=1) I I oM oM).cv (show _=vI (2) from I)) I (go2 ?_);refine xM (go2 ?_);refine gv (OpV.tr dC (yH (q:=3) I I)) I (rT ?_);refine zK 10 _ [] (zai 0 8 [(8,.c),(9,.q),(10,.t)]) yA nX zot nX (λr hr=>hr) (go4 ?_);refine wX I (xB yJ (y5u pH) ae) λav am=>(go2 ?_);refine wX I (xB yJ (y5u pH) ad) λaq ai=>?_;refine w_c I (aH (cI (vs:=[_,_]) call179 I e2z) I (λw hs=>aR hs am ai oM) ?_);intro J h3 bf C
 change (rpQ (k+l+1)).Is h3 J (a.z-b.z) at C
 refine go1 ?_;refine yG (A:=[]) I (uB sizeOf26 (y5u pH) ab (C.le (Le.q (l:=k+l+1+1) oM))) λbb aa=>(go4 ?_);refine gv ((zV (q:=1) I I oM oM).cv (show _=vI (3) from I)) I (go2 ?_);refine xM (go2 ?_);refine gv (OpV.fa dC (yH (q:=3) I I)) I (jI ?_);refine lX (xB zR pH aa) λap ah=>(zU (A:=[_]) (uB sizeOf53 pH az ah) λba Z=>(go3 ?_));refine xH (qK (t:=6) zR mh1 I Z) ?_;intro be H U;refine yI (λE S=>zS I H E S) ?_;exact U
theorem zPH{k l:Nat}{va:Value}{a:Tq}(ra:(tPt k).Is h0 va a){vb:Value}{b:Tq}(rb:(tPt l).Is h0 vb b)(hcd0:k+l<=10000000000):
 Calls prog 116 #[va,vb,vF 76 []] w0 (Ret w0 h0 (λh r=>(tPt (k+l+1)).Is h r (T3.mk (a.x*b.x) (a.y*b.y) (a.z*b.z)))):=by
 refine cb3 24 va vb (vF 76 []) func116 hs ?_;refine go2 ?_;refine nB ra λb3 bl am=>(nB rb λb4 bk ak=>(nA (ρ:=(tPt (k+l+1))) (X:=zT) yO (yS (yE oM)) λb6 bj az=>(go4 ?_)));refine nA (ρ:=(tPt (k+l+1))) (X:=zT) yO (yS (yE oM)) λb7 bi ay=>(go9 ?_);refine gN (go2 ?_);refine gv (OpV.tr dC (yH (q:=3) I I)) I (rT ?_);refine zK 10 _ [] (zai 0 8 [(8,.c),(9,.q),(10,.t)]) yA nX zot nX (λr hr=>hr) (go4 ?_);refine wX I (xB yJ (y4e pH) am) λax ao=>(go2 ?_);refine wX I (xB yJ (y4e pH) ak) λaw an=>?_;refine w_c I (aH (cI (vs:=[_,_]) call76 I e2z) I (λw hs=>gC hs ao an oM) ?_);intro ac h1 bh G
 change (rpQ (k+l)).Is h1 ac (a.x*b.x) at G
 refine go1 ?_;refine yG (A:=[]) I (uB sizeOf26 (y4e pH) ay (G.le (Le.q (l:=k+l+1) oM))) λbd aj=>(go4 ?_);refine gv ((zV (q:=1) I I oM oM).cv (show _=vI (1) from I)) I (go2 ?_);refine xM (go2 ?_);refine gv (OpV.tr dC (yH (q:=3) I I)) I (rT ?_);refine zK 10 _ [] (zai 0 8 [(8,.c),(9,.q),(10,.t)]) yA nX zot nX (λr hr=>hr) (go4 ?_);refine wX I (xB yJ (y5i pH) am) λav aa=>(go2 ?_);refine wX I (xB yJ (y5i pH) ak) λar U=>?_;refine w_c I (aH (cI (vs:=[_,_]) call76 I e2z) I (λw hs=>gC hs aa U oM) ?_);intro J h2 bg D
 change (rpQ (k+l)).Is h2 J (a.y*b.y) at D
 refine go1 ?_;refine yG (A:=[]) I (uB sizeOf26 (y5i pH) aj (D.le (Le.q (l:=k+l+1) oM))) λbc ai=>(go4 ?_);refine gv ((zV (q:=1) I I oM oM).cv (show _=vI (2) from I)) I (go2 ?_);refine xM (go2 ?_);refine gv (OpV.tr dC (yH (q:=3) I I)) I (rT ?_);refine zK 10 _ [] (zai 0 8 [(8,.c),(9,.q),(10,.t)]) yA nX zot nX (λr hr=>hr) (go4 ?_);refine wX I (xB yJ (y5u pH) am) λau Z=>(go2 ?_);refine wX I (xB yJ (y5u pH) ak) λaq O=>?_;refine w_c I (aH (cI (vs:=[_,_]) call76 I e2z) I (λw hs=>gC hs Z O oM) ?_);intro H h3 bf C
 change (rpQ (k+l)).Is h3 H (a.z*b.z) at C
 refine go1 ?_;refine yG (A:=[]) I (uB sizeOf26 (y5u pH) ai (C.le (Le.q (l:=k+l+1) oM))) λbb ah=>(go4 ?_);refine gv ((zV (q:=1) I I oM oM).cv (show _=vI (3) from I)) I (go2 ?_);refine xM (go2 ?_);refine gv (OpV.fa dC (yH (q:=3) I I)) I (jI ?_);refine lX (xB zR pH ah) λap M=>(zU (A:=[_]) (uB sizeOf53 pH az M) λba ae=>(go3 ?_));refine xH (qK (t:=6) zR mh1 I ae) ?_;intro be ab ad;refine yI (λE S=>zS I ab E S) ?_;exact ad
theorem zEN{k l:Nat}{va:Value}{a:Tq}(ra:(tPt k).Is h0 va a){vb:Value}{b:Tq}(rb:(tPt l).Is h0 vb b)(hcd0:k+l<=10000000000):
 Calls prog 71 #[va,vb] w0 (Ret w0 h0 (λh r=>(tPt (k+l+2)).Is h r (T3.mk (a.x+b.x) (a.y+b.y) (a.z+b.z)))):=by
 refine cb2 8 va vb func71 hs ?_;refine go2 ?_;refine nB ra λb2 ad M=>(nB rb λb3 ac J=>(nA (ρ:=(tPt (k+l+2))) (X:=zT) yO (yS (yE oM)) λb4 ab H=>(go4 ?_)));refine lX (xB zR pH M) λv5 r5=>(lX (xB zR pH J) λv6 r6=>(cL (ev3 I I I) call116 (λw hs=>zPI hs r5 r6 oM) λv7 h1 aa O=>?_));replace O:=Rp.Is.le O (Le.t (Le.q (l:=k+l+2) oM));refine zU (A:=[]) (uB sizeOf53 pH H O) λU G=>(go3 ?_);refine xH (qK (t:=4) zR mh0 I G) ?_;intro Z C D;refine yI (λE S=>zS I C E S) ?_;exact D
theorem zQ6{k l:Nat}{va:Value}{a:Tq}(ra:(tPt k).Is h0 va a){vb:Value}{b:Tq}(rb:(tPt l).Is h0 vb b)(hcd0:k+l<=10000000000):
 Calls prog 133 #[va,vb] w0 (Ret w0 h0 (λh r=>(tPt (k+l+2)).Is h r (T3.mk (a.x-b.x) (a.y-b.y) (a.z-b.z)))):=by
 refine cb2 8 va vb func133 hs ?_;refine go2 ?_;refine nB ra λb2 ad M=>(nB rb λb3 ac J=>(nA (ρ:=(tPt (k+l+2))) (X:=zT) yO (yS (yE oM)) λb4 ab H=>(go4 ?_)));refine lX (xB zR pH M) λv5 r5=>(lX (xB zR pH J) λv6 r6=>(cL (ev3 I I I) call116 (λw hs=>zPG hs r5 r6 oM) λv7 h1 aa O=>?_));replace O:=Rp.Is.le O (Le.t (Le.q (l:=k+l+2) oM));refine zU (A:=[]) (uB sizeOf53 pH H O) λU G=>(go3 ?_);refine xH (qK (t:=4) zR mh0 I G) ?_;intro Z C D;refine yI (λE S=>zS I C E S) ?_;exact D
theorem zC4{l k:Nat}{vq:Value}{q:Rat}(rq:(rpQ l).Is h0 vq q){va:Value}{a:Tq}(ra:(tPt k).Is h0 va a)(hcd0:k+l<=1000000000):
 Calls prog 72 #[vq,va] w0 (Ret w0 h0 (λh r=>(tPt (k+l+2)).Is h r (T3.mk (q*a.x) (q*a.y) (q*a.z)))):=by
 refine cb2 11 vq va func72 hs ?_;refine go2 ?_;refine nB rq λb2 ae H=>(nB ra λb3 ad O=>(nA (ρ:=(tPt (k+l+2))) (X:=zT) yO (yS (yE oM)) λb4 ac M=>(go4 ?_)));refine lX (xB yJ pH H) λv5 r5=>(lX (xB yJ pH H) λv6 r6=>(lX (xB yJ pH H) λv7 r7=>(lX (xV (ρ:=(tPt (l+1))) (wI (ps':=[(0,_),(1,_),(2,_)]) underlying53 yO I I sizeOf26 e6z I (yS (yE oM)) (zC I (y4e (y3u _)) (r5.le (Le.q (l:=l+1) oM)) (zC I (y5i (y3u _)) (r6.le (Le.q (l:=l+1) oM)) (zC I (y5u (y3u _)) (r7.le (Le.q (l:=l+1) oM)) zQ))))) λv8 r8=>(lX (xB zR pH O) λv9 r9=>(cL (ev3 I I I) call116 (λw hs=>zPH hs r8 r9 oM) λaa h1 ab J=>?_)))));replace J:=Rp.Is.le J (Le.t (Le.q (l:=k+l+2) oM));refine zU (A:=[]) (uB sizeOf53 pH M J) λU G=>(go3 ?_);refine xH (qK (t:=4) zR mh0 I G) ?_;intro Z C D;refine yI (λE S=>zS I C E S) ?_;exact D
theorem zQ7{k l:Nat}{va:Value}{a:Tq}(ra:(tPt k).Is h0 va a){vb:Value}{b:Tq}(rb:(tPt l).Is h0 vb b)(hcd0:k+l<=1000000000):
 Calls prog 88 #[va,vb] w0 (Ret w0 h0 (λh r=>(rpQ (3*k+3*l+9)).Is h r (xO a b))):=by
 refine cb2 21 va vb func88 hs ?_;refine go2 ?_;refine nB ra λb2 ce bc=>(nB rb λb3 cd bb=>(nA (ρ:=(rpQ (3*k+3*l+9))) (X:=(0:Rat)) yR (yE oM) λb4 cc bo=>(go4 ?_)));refine nA (ρ:=(rpQ 1)) (X:=(0:Rat)) yR (yE dC) λb5 cb bd=>(go9 ?_);refine gN (go2 ?_);refine gv (OpV.tr dC (yH (q:=3) I I)) I (rT ?_);refine zK 9 _ [] (zai 0 7 [(7,.c),(8,.c),(9,.t)]) yA nX zot nX (λr hr=>hr) (wX I (xB yJ pH bd) λbn ar=>(go2 ?_));refine wX I (xB yJ (y4e pH) bc) λbk ao=>(go2 ?_);refine wX I (xB yJ (y4e pH) bb) λbh ak=>?_;refine w_c I (sC (ev2 I I) call76 (λw hs=>gC hs ao ak oM) λae h1 ca M=>?_)
 change (rpQ (k+l)).Is h1 ae (a.x*b.x) at M
 refine w_c I (sC (ev2 I I) call70 (λw hs=>pQ hs ar.up M oM) λab h2 bz G=>?_)
 change (rpQ (1+(k+l)+1)).Is h2 ab ((0:Rat)+(a.x*b.x)) at G
 replace G:=Rp.Is.le G (Le.q (l:=k+l+2) oM);have ax:=(Le.q (l:=k+l+2) oM).R bd;refine yG (A:=[]) I (uB sizeOf26 pH ax G) λbs U=>(go4 ?_);refine gv ((zV (q:=1) I I oM oM).cv (show _=vI (1) from I)) I (go2 ?_);refine xM (go2 ?_);refine gv (OpV.tr dC (yH (q:=3) I I)) I (rT ?_);refine zK 9 _ [] (zai 0 7 [(7,.c),(8,.c),(9,.t)]) yA nX zot nX (λr hr=>hr) (wX I (xB yJ pH U) λbm aq=>(go2 ?_));refine wX I (xB yJ (y5i pH) bc) λbj an=>(go2 ?_);refine wX I (xB yJ (y5i pH) bb) λbg aj=>?_;refine w_c I (sC (ev2 I I) call76 (λw hs=>gC hs an aj oM) λad h3 bx J=>?_)
 change (rpQ (k+l)).Is h3 ad (a.y*b.y) at J
 refine w_c I (sC (ev2 I I) call70 (λw hs=>pQ hs aq.up J oM) λaa h4 bw D=>?_)
 change (rpQ ((k+l+2)+(k+l)+1)).Is h4 aa (((0:Rat)+(a.x*b.x))+(a.y*b.y)) at D
 replace D:=Rp.Is.le D (Le.q (l:=2*k+2*l+3) oM);have aw:=(Le.q (l:=2*k+2*l+3) oM).R U;refine yG (A:=[]) I (uB sizeOf26 pH aw D) λbr O=>(go4 ?_);refine gv ((zV (q:=1) I I oM oM).cv (show _=vI (2) from I)) I (go2 ?_);refine xM (go2 ?_);refine gv (OpV.tr dC (yH (q:=3) I I)) I (rT ?_);refine zK 9 _ [] (zai 0 7 [(7,.c),(8,.c),(9,.t)]) yA nX zot nX (λr hr=>hr) (wX I (xB yJ pH O) λbl ap=>(go2 ?_));refine wX I (xB yJ (y5u pH) bc) λbi am=>(go2 ?_);refine wX I (xB yJ (y5u pH) bb) λbf ai=>?_;refine w_c I (sC (ev2 I I) call76 (λw hs=>gC hs am ai oM) λac h5 bv H=>?_)
 change (rpQ (k+l)).Is h5 ac (a.z*b.z) at H
 refine w_c I (sC (ev2 I I) call70 (λw hs=>pQ hs ap.up H oM) λZ h6 bu C=>?_)
 change (rpQ ((2*k+2*l+3)+(k+l)+1)).Is h6 Z ((((0:Rat)+(a.x*b.x))+(a.y*b.y))+(a.z*b.z)) at C
 replace C:=Rp.Is.le C (Le.q (l:=3*k+3*l+4) oM);have av:=(Le.q (l:=3*k+3*l+4) oM).R O;refine yG (A:=[]) I (uB sizeOf26 pH av C) λbq ba=>(go4 ?_);refine gv ((zV (q:=1) I I oM oM).cv (show _=vI (3) from I)) I (go2 ?_);refine xM (go2 ?_);refine gv (OpV.fa dC (yH (q:=3) I I)) I (jI ?_);refine lX (xB yJ pH ba) λbe ah=>(zU (A:=[_]) (uB sizeOf26 pH bo (ah.le (Le.q (l:=3*k+3*l+9) oM))) λbp az=>(go3 ?_));refine xH (qK (t:=4) yJ mh1 I az) ?_;intro bt au ay;refine yI (λE S=>zS I au E S) ?_;exact(Rp.Is.cast ay (by unfold xO;grind))
theorem zIA{k l:Nat}{va:Value}{a:Tq}(ra:(tPt k).Is h0 va a){vb:Value}{b:Tq}(rb:(tPt l).Is h0 vb b)(hcd0:k+l<=1000000000):
 Calls prog 132 #[va,vb] w0 (Ret w0 h0 (λh r=>(tPt (2*k+2*l+3)).Is h r (xC a b))):=by
 refine cb2 37 va vb func132 hs ?_;refine go2 ?_;refine nB ra λb2 cq ab=>(nB rb λb3 cp aa=>(nA (ρ:=(tPt (2*k+2*l+3))) (X:=zT) yO (yS (yE oM)) λb4 co bx=>(go4 ?_)));refine nA (ρ:=(tPt (2*k+2*l+3))) (X:=zT) yO (yS (yE oM)) λb5 cn bw=>(go9 ?_);refine gN (go2 ?_);refine gv (OpV.tr dC (yH (q:=3) I I)) I (iD ?_);refine gv ((zV (q:=1) I I oM oM).cv (show _=vI (1) from I)) I (gv ((vC (q:=3) I I oM oM).cv (show _=vI (1) from I)) I (go1 ?_));refine gv ((zV (q:=2) I I oM oM).cv (show _=vI (2) from I)) I (gv ((vC (q:=3) I I oM oM).cv (show _=vI (2) from I)) I (go4 ?_));refine zK 17 _ [] (zai 0 7 (zai 8 6 [(7,.c),(14,.c),(15,.c),(16,.q),(17,.t)])) yA nX (wV zot) nX (λr hr=>hr) (go3 ?_);refine wX I (xB yJ (y5i pH) ab) λbv bc=>(go2 ?_);refine wX I (xB yJ (y5u pH) aa) λbs az=>(go2 ?_);refine wX I (xB yJ (y5u pH) ab) λbp aw=>(go2 ?_);refine wX I (xB yJ (y5i pH) aa) λbm ar=>?_;refine w_c I (sC (ev2 I I) call76 (λw hs=>gC hs bc az oM) λan h1 cm Z=>?_)
 change (rpQ (k+l)).Is h1 an (a.y*b.z) at Z
 refine w_c I (sC (ev2 I I) call76 (λw hs=>gC hs aw.up ar.up oM) λaj h2 cl M=>?_)
 change (rpQ (k+l)).Is h2 aj (a.z*b.y) at M
 refine w_c I (sC (ev2 I I) call179 (λw hs=>aR hs Z.up M oM) λae h3 ck G=>?_)
 change (rpQ ((k+l)+(k+l)+1)).Is h3 ae ((a.y*b.z)-(a.z*b.y)) at G
 replace G:=Rp.Is.le G (Le.q (l:=2*k+2*l+1) oM);refine go1 ?_;refine yG (A:=[]) I (uB sizeOf26 (y4e pH) bw (G.le (Le.q (l:=2*k+2*l+3) oM))) λcc bi=>(go4 ?_);refine gv ((zV (q:=1) I I oM oM).cv (show _=vI (1) from I)) I (go2 ?_);refine xM (go2 ?_);refine gv (OpV.tr dC (yH (q:=3) I I)) I (iD ?_);refine gv ((zV (q:=1) I I oM oM).cv (show _=vI (2) from I)) I (gv ((vC (q:=3) I I oM oM).cv (show _=vI (2) from I)) I (go1 ?_));refine gv ((zV (q:=2) I I oM oM).cv (show _=vI (3) from I)) I (gv ((vC (q:=3) I I oM oM).cv (show _=vI (0) from I)) I (go4 ?_));refine zK 17 _ [] (zai 0 7 (zai 8 6 [(7,.c),(14,.c),(15,.c),(16,.q),(17,.t)])) yA nX (wV zot) nX (λr hr=>hr) (go3 ?_);refine wX I (xB yJ (y5u pH) ab) λbu bb=>(go2 ?_);refine wX I (xB yJ (y4e pH) aa) λbr ay=>(go2 ?_);refine wX I (xB yJ (y4e pH) ab) λbo av=>(go2 ?_);refine wX I (xB yJ (y5u pH) aa) λbl aq=>?_;refine w_c I (sC (ev2 I I) call76 (λw hs=>gC hs bb ay oM) λam h4 cj U=>?_)
 change (rpQ (k+l)).Is h4 am (a.z*b.x) at U
 refine w_c I (sC (ev2 I I) call76 (λw hs=>gC hs av.up aq.up oM) λai h5 ci J=>?_)
 change (rpQ (k+l)).Is h5 ai (a.x*b.z) at J
 refine w_c I (sC (ev2 I I) call179 (λw hs=>aR hs U.up J oM) λad h6 ch D=>?_)
 change (rpQ ((k+l)+(k+l)+1)).Is h6 ad ((a.z*b.x)-(a.x*b.z)) at D
 replace D:=Rp.Is.le D (Le.q (l:=2*k+2*l+1) oM);refine go1 ?_;refine yG (A:=[]) I (uB sizeOf26 (y5i pH) bi (D.le (Le.q (l:=2*k+2*l+3) oM))) λcb bh=>(go4 ?_);refine gv ((zV (q:=1) I I oM oM).cv (show _=vI (2) from I)) I (go2 ?_);refine xM (go2 ?_);refine gv (OpV.tr dC (yH (q:=3) I I)) I (iD ?_);refine gv ((zV (q:=1) I I oM oM).cv (show _=vI (3) from I)) I (gv ((vC (q:=3) I I oM oM).cv (show _=vI (0) from I)) I (go1 ?_));refine gv ((zV (q:=2) I I oM oM).cv (show _=vI (4) from I)) I (gv ((vC (q:=3) I I oM oM).cv (show _=vI (1) from I)) I (go4 ?_));refine zK 17 _ [] (zai 0 7 (zai 8 6 [(7,.c),(14,.c),(15,.c),(16,.q),(17,.t)])) yA nX (wV zot) nX (λr hr=>hr) (go3 ?_);refine wX I (xB yJ (y4e pH) ab) λbt ba=>(go2 ?_);refine wX I (xB yJ (y5i pH) aa) λbq ax=>(go2 ?_);refine wX I (xB yJ (y5i pH) ab) λbn au=>(go2 ?_);refine wX I (xB yJ (y4e pH) aa) λbk ap=>?_;refine w_c I (sC (ev2 I I) call76 (λw hs=>gC hs ba ax oM) λak h7 cg O=>?_)
 change (rpQ (k+l)).Is h7 ak (a.x*b.y) at O
 refine w_c I (sC (ev2 I I) call76 (λw hs=>gC hs au.up ap.up oM) λah h8 cf H=>?_)
 change (rpQ (k+l)).Is h8 ah (a.y*b.x) at H
 refine w_c I (sC (ev2 I I) call179 (λw hs=>aR hs O.up H oM) λac h9 ce C=>?_)
 change (rpQ ((k+l)+(k+l)+1)).Is h9 ac ((a.x*b.y)-(a.y*b.x)) at C
 replace C:=Rp.Is.le C (Le.q (l:=2*k+2*l+1) oM);refine go1 ?_;refine yG (A:=[]) I (uB sizeOf26 (y5u pH) bh (C.le (Le.q (l:=2*k+2*l+3) oM))) λca bg=>(go4 ?_);refine gv ((zV (q:=1) I I oM oM).cv (show _=vI (3) from I)) I (go2 ?_);refine xM (go2 ?_);refine gv (OpV.fa dC (yH (q:=3) I I)) I (jI ?_);refine lX (xB zR pH bg) λbj ao=>(zU (A:=[_]) (uB sizeOf53 pH bx ao) λbz bf=>(go3 ?_));refine xH (qK (t:=4) zR mh1 I bf) ?_;intro cd bd be;refine yI (λE S=>zS I bd E S) ?_;exact be
theorem zIB{m l k:Nat}{vs:Value}{s:Pq}(rs:(tPl m l).Is h0 vs s){vp:Value}{p:Tq}(rp:(tPt k).Is h0 vp p)(hcd0:k<=100000000)(hcd1:l<=100000000)(hcd2:m<=100000000):
 Calls prog 153 #[vs,vp] w0 (Ret w0 h0 (λ_ r=>r=vI (sdZ s p))):=by
 refine cb2 13 vs vp func153 hs ?_;refine go2 ?_;refine nB rs λb2 ah D=>(nB rp λb3 ae H=>(go4 ?_));refine zK 9 _ [] [(0,.q),(1,.q),(2,.q),(4,.q),(5,.q),(3,.c),(6,.c),(7,.c),(8,.q)] yA nX zot nX (λr hr=>hr) (go1 ?_);refine wX I (xB zR (y4i pH) D) λv6 r6=>(wX I (xB zR pH H) λv7 r7=>(go1 ?_));refine wX I (xB yJ (y4u pH) D) λaa O=>?_;refine w_c I (sC (ev2 I I) call44 (λw hs=>tU hs r6 r7 oM) λv8 h1 ad J=>?_);replace J:=Rp.Is.le J (Le.q (l:=3*k+3*m+9) oM);refine w_c I (sC (ev2 I I) call16 (λw hs=>tM hs J O.up oM) λZ h2 ac C=>?_);replace C:=Rp.Is.le C (Le.q (l:=3*k+l+3*m+10) oM);refine w_c I (sC (ev1 I) call17 (λw hs=>vX hs C oM) λG h3 ab M=>?_);obtain rfl:G=vI (yU ((xO s.1 p)-s.2)):=M;have U:=xW ((xO s.1 p)-s.2);refine go4 ?_;refine zF I I ?_
 rfl
theorem zBS{k:Nat}{va:Value}{a:Tq}(ra:(tPt k).Is h0 va a){vb:Value}{b:Tq}(rb:(tPt k).Is h0 vb b){vc:Value}{c:Tq}(rc:(tPt k).Is h0 vc c)(hcd0:k<=100000):
 Calls prog 151 #[va,vb,vc] w0 (Ret w0 h0 (λh r=>∃u0,r=.tuple #[u0,vI (thE a b c)]/\(tPl (50*k+200) (200*k+900)).Is h u0 (thZ a b c))):=by
 refine cb3 24 va vb vc func151 hs ?_;refine go2 ?_;refine nB ra λb3 cb M=>(nB rb λb4 ca an=>(nB rc λb5 bz am=>(nA (ρ:=(tPl 1 1)) (X:=(zT,(0:Rat))) sU (yF (yS (yE dC)) (yE dC)) λb6 bx ai=>(go4 ?_))));refine zK 8 _ [(7,(8,53,y5e))] [(0,.q),(1,.q),(3,.q),(4,.q),(2,.c),(5,.c),(6,.c),(7,.a),(8,.t)] yA (jT.cons I I (uX yO I I) jT.nil) zot (qA I I kO) (λr hr=>hr) (wX I (xB zR pH an) λv9 r9=>(wX I (xB zR pH M) λbr az=>(wX I (xB zR pH am) λbp ay=>(wX I (xB zR pH M) λbo ax=>?_))));refine w_c I (sC (ev2 I I) call125 (λw hs=>zBQ hs r9 az oM) λbq h1 bw aa=>?_);replace aa:=Rp.Is.le aa (Le.t (Le.q (l:=2*k+1) oM));refine w_c I (sC (ev2 I I) call125 (λw hs=>zBQ hs ay.up ax.up oM) λbn h2 bv Z=>?_);replace Z:=Rp.Is.le Z (Le.t (Le.q (l:=2*k+1) oM));refine w_c I (sC (ev2 I I) call43 (λw hs=>lF hs aa.up Z oM) λbm h3 bu U=>?_);replace U:=Rp.Is.le U (Le.t (Le.q (l:=8*k+7) oM));refine w_a I I (λb8=>?_);have ak:(tPt 1).R h3 y5e zT:=(yS (yE dC));have ad:=(Le.t (Le.q (l:=8*k+7) oM)).R ak;refine yG (A:=[]) I (uB sizeOf53 pH ad U) λbd D=>(go5 ?_);refine lX (xB zR pH D) λbl aw=>(cL (ev1 I) call42 (λw hs=>zC5 hs aw oM) λaj h4 bt av=>?_);obtain rfl:aj=vB ((xC (T3.mk (b.x-a.x) (b.y-a.y) (b.z-a.z)) (T3.mk (c.x-a.x) (c.y-a.y) (c.z-a.z)))=zT):=av;refine gc2 (λC=>?_) λC=>?_
 ·
  refine go2 ?_;refine lX (xV (ρ:=(tPl 1 1)) (xE (ps':=[]) underlying80 sU I I (sM underlying80) trivial I (yF (yS (yE dC)) (yE dC)) zQ)) λbk au=>(zU (A:=[_]) (uB sizeOf80 pH ai au) λbc ah=>(go5 ?_));refine xH (qK (t:=6) iI mh1 I ah) ?_;intro be ab ae;refine yI (λE S=>vG I ab (qQ I) E S) ?_;refine⟨_,?_,(Rp.Is.cast (Rp.Is.le ae (Le.p (Le.t (Le.q (l:=50*k+200) oM)) (Le.q (l:=200*k+900) oM))) (by obtain⟨e1,e2⟩:=yH8 C;rw[e1]))⟩;obtain⟨e1,e2⟩:=yH8 C;rw[e2]
 refine go3 ?_;refine zK 5 _ [] [(0,.q),(1,.q),(2,.q),(3,.c),(4,.q),(5,.t),(6,.t)] yA nX zot nX (λr hr=>hr) (wX I (xB zR pH D) λbj ar=>(wX I (xB zR pH D) λbi aq=>(wX I (xB zR pH M) λbh ap=>?_)));refine w_c I (sC (ev2 I I) call44 (λw hs=>tU hs aq ap oM) λbg h5 bs O=>?_);replace O:=Rp.Is.le O (Le.q (l:=27*k+30) oM);refine wX I (xV (ρ:=(tPl (8*k+7) (27*k+30))) (xE (ps':=[(0,_),(1,_)]) underlying80 sU I I (sM underlying80) e4z I (yF (yS (yE oM)) (yE oM)) (zC I (y4i (y3u _)) ar.up (zC I (y4u (y3u _)) O zQ)))) λbf ao=>?_;have ac:=(Le.p (Le.t (Le.q (l:=8*k+7) oM)) (Le.q (l:=27*k+30) oM)).R ai;refine yG (A:=[_]) I (uB sizeOf80 pH ac ao) λbb J=>(dT I (tX (v:=vI (0)) I) I (go3 ?_));refine xH (qK (t:=6) iI mh1 I J) ?_;intro ba G H;refine yI (λE S=>vG I G (qQ I) E S) ?_;refine⟨_,?_,(Rp.Is.cast (Rp.Is.le H (Le.p (Le.t (Le.q (l:=50*k+200) oM)) (Le.q (l:=200*k+900) oM))) (by obtain⟨e1,e2⟩:=zUV C;rw[e1];rfl))⟩;obtain⟨e1,e2⟩:=zUV C;rw[e2]
theorem oQ{m l:Nat}{vpl:Value}{pl:Pq}(rpl:(tPl m l).Is h0 vpl pl)(hcd0:m<=1000000)(hcd1:l<=1000000):
 Calls prog 79 #[vpl] w0 (Ret w0 h0 (λh r=>(tPl (3*m+10) (l+1)).Is h r (opP pl))):=by
 refine cb1 11 vpl func79 hs ?_;refine go2 ?_;refine nB rpl λb1 ah J=>(nA (ρ:=(tPl 1 1)) (X:=(zT,(0:Rat))) sU (yF (yS (yE dC)) (yE dC)) λb2 ae M=>(go3 ?_));refine zK 8 _ [] [(1,.q),(2,.q),(4,.q),(5,.q),(0,.c),(3,.c),(6,.c),(7,.q),(8,.t)] yA nX zot nX (λr hr=>hr) (go1 ?_);refine wX I (xB zR (y4i pH) J) λv5 r5=>(go1 ?_);refine wX I (xB yJ (y4u pH) J) λv8 r8=>?_;refine w_c I (sC (vs:=[vI (-1)]) ⟨I,y3i⟩ call39 (λw hs=>qI hs dC dC) λv3 h1 ad r3=>?_);refine w_c I (sC (ev2 I I) call111 (λw hs=>lD hs r3 r5.up oM) λv6 h2 ac r6=>?_);refine w_c I (sC (ev1 I) call31 (λw hs=>lE hs r8.up oM) λv9 h3 ab r9=>(wX I (xV (ρ:=(tPl (m+2) (l+1))) (xE (ps':=[(0,_),(1,_)]) underlying80 sU I I (sM underlying80) e4z I (yF (yS (yE oM)) (yE oM)) (zC I (y4i (y3u _)) r6.up (zC I (y4u (y3u _)) (r9.le (Le.q (l:=l+1) oM)) zQ)))) λaa O=>?_));have D:=(Le.p (Le.t (Le.q (l:=m+2) oM)) (Le.q (l:=l+1) oM)).R M;refine yG (A:=[]) I (uB sizeOf80 pH D O) λU H=>(go3 ?_);refine xH (qK (t:=2) iI mh0 I H) ?_;intro Z C G;refine yI (λE S=>zS I C E S) ?_;exact(Rp.Is.le G (Le.p (Le.t (Le.q (l:=3*m+10) oM)) (Le.refl _)))
end
end Go.Proofs.YtboaboflnckgoaaGreat
namespace Bk
abbrev Mp:=T3 Pt×Pt
def qV(m:Mp)(p:Pt):Pt:=T3.mk (xO m.1.x p) (xO m.1.y p) (xO m.1.z p)
def qT(m:Mp)(p:Pt):Pt:=qF (qV m p) m.2
def qG(m:Mp):Rat:=tB m.1.x m.1.y m.1.z
def yJK(M:T3 Pt):T3 Pt:=T3.mk (T3.mk M.x.x M.y.x M.z.x) (T3.mk M.x.y M.y.y M.z.y) (T3.mk M.x.z M.y.z M.z.z)
def scP(r:Rat)(p:Pt):Pt:=T3.mk (r*p.x) (r*p.y) (r*p.z)
def ivM(m:Mp):T3 Pt:=yJK (T3.mk (scP (1/qG m) (xC m.1.y m.1.z)) (scP (1/qG m) (xC m.1.z m.1.x)) (scP (1/qG m) (xC m.1.x m.1.y)))
def zTW(m:Mp):Mp:=(ivM m,scP ((-1:Int):Rat) (qV (ivM m,zT) m.2))
end Bk
namespace Bk
open Go Go.RowKit
def mpS(m:Mp)(l:List Pt)(i:Nat):List Pt:=uG (λu=>if u<i then qT m (l.getD u zT) else l.getD u zT) l.length
theorem oT(m:Mp)(l:List Pt)(i:Nat):(mpS m l i).length=l.length:=xZ _ _
theorem zKC{m:Mp}{l:List Pt}{i u:Nat}(hu:u<l.length):(mpS m l i).getD u zT=if u<i then qT m (l.getD u zT) else l.getD u zT:=jL _ zT hu
theorem mp_0(m:Mp)(l:List Pt):mpS m l 0=l:=by
 refine rW zT (oT m l 0) λu C=>?_;rw[oT] at C;rw[zKC C,zae (z4u u)]
theorem yFS{m:Mp}{l:List Pt}{i:Nat}(hi:i<l.length):(mpS m l i).set i (qT m (l.getD i zT))=mpS m l (i+1):=by
 refine rW zT (by rw[lS,oT,oT]) λu C=>?_;rw[lS,oT] at C;rw[zKC C]
 by_cases e:u=i
 · subst e
   rw[zau (yte u),zoa,yke (by rw[oT];exact C)];rfl
 · rw[zoa,yee (λh=>e h.symm),<-zoa,zKC C]
   by_cases c:u<i
   · rw[zau c,zau zos]
   · rw[zae c,zae zos]
theorem yFT(m:Mp)(l:List Pt):mpS m l l.length=l.map (qT m):=by
 refine rW zT (by rw[oT,zde]) λu C=>?_;rw[oT] at C;rw[zKC C,zau C,jR (qT m) zT zT C]
def gZ(g:Fc->Pl)(F:List Fc)(vs:List Value)(i:Nat):List FV:=uG (λu=>(if u<i then g (F.getD u zA) else(F.getD u zA).1,(vs.getD u nV,(F.getD u zA).2.2))) F.length
section
variable {g:Fc->Pl}{F:List Fc}{vs:List Value}{i u:Nat}
theorem gz_0(h:vs.length=F.length):fvZ F vs vs.length=gZ g F vs 0:=by
 unfold fvZ gZ;rw[h];exact tE _ λu _=>by rw[zae (z4u u)]
theorem eC:(gZ g F vs i).length=F.length:=xZ _ _
theorem dH(hu:u<F.length):(gZ g F vs i).getD u fv0=(if u<i then g (F.getD u zA) else(F.getD u zA).1,(vs.getD u nV,(F.getD u zA).2.2)):=jL _ fv0 hu
theorem yGO{x:Pl}(hi:i<F.length)(hx:x=g (F.getD i zA)):(gZ g F vs i).set i (x,((gZ g F vs i).getD i fv0).2)=gZ g F vs (i+1):=by
 rw[dH hi,hx];refine rW fv0 (by rw[lS,eC,eC]) λu C=>?_;rw[lS,eC] at C;rw[dH C]
 by_cases e:u=i
 · subst e
   rw[zau (yte u),zoa,yke (by rw[eC];exact C)];rfl
 · rw[zoa,yee (λh=>e h.symm),<-zoa,dH C]
   by_cases c:u<i
   · rw[zau c,zau zos]
   · rw[zae c,zae zos]
theorem yGP{h:Mem}{π:Rp Pl}{cs:List Value}{G:List (List Int)->List (List Int)}(r:RL (rpP π (rpP rpV uP)) h cs (gZ g F vs F.length))(s:zAX h vs (λu=>G (F.getD u zA).2.1) F.length):RL (rpP π (rpP (rpS (rpS rpI)) uP)) h cs (F.map λf=>(g f,(G f.2.1,f.2.2))):=by
 refine zX6 r (by rw[eC,zde]) λu C=>?_;rw[eC] at C;rw[dH C,jR (λf:Fc=>(g f,(G f.2.1,f.2.2))) zA zA C,zau C];exact⟨I,I,s u C⟩
end
def tnN(m:Mp)(n:Pt):Pt:=T3.mk (xO (T3.mk (ivM m).x.x (ivM m).y.x (ivM m).z.x) n) (xO (T3.mk (ivM m).x.y (ivM m).y.y (ivM m).z.y) n) (xO (T3.mk (ivM m).x.z (ivM m).y.z (ivM m).z.z) n)
def zSJ(m:Mp)(n:Pt):Nat->Pt
  |0=>zT
  |q+1=>(zSJ m n q).set q (xO (T3.mk ((zTW m).1.x.at q) ((zTW m).1.y.at q) ((zTW m).1.z.at q)) n)
def mvP(m:Mp)(P:List Pt)(f:Fc):Pl:=scZ (tnN m f.1.1,xO (tnN m f.1.1) (P.getD ((f.2.1.getD 0 []).getD 0 0).toNat zT))
def mvL(m:Mp)(L:List (List Int)):List (List Int):=rvL L (if yU (qG m)<0 then L.length else 0)
def mvF(m:Mp)(P:List Pt)(f:Fc):Fc:=(mvP m P f,(mvL m f.2.1,f.2.2))
def mvS(m:Mp)(s:Sd):Sd:=(s.1.map (qT m),(s.2.1.map (mvF m (s.1.map (qT m))),s.2.2))
def mvR(m:Mp)(s:Sd):Sd:=if qG m=0 then([],([],[])) else mvS m s
end Bk
namespace Bk
open Classical
def zTY(c:Pl)(l:List Pt):Nat->Rat
  |0=>0
  |m+1=>zTY c l m+hgt c (gp l m)
theorem zYL{pl:Pl}{a b c:Pt}(hn:¬pl.1=zT)(ha:sdZ pl a=0)(hb:sdZ pl b=0)(hc:sdZ pl c=0):yU (tB (kZ b a) (kZ c a) pl.1)<=0↔¬0<orZ (pt2 pl a) (pt2 pl b) (pt2 pl c):=by
 rw[<-yG3 hn ha hb hc,yG4];omega
end Bk
namespace Go.Proofs.YtboaboflnckgoaaGreat
open Bk Go Tryz
attribute [local irreducible] GL GC GQ W OpV
section
variable{w0:World}{h0:Mem}(hs:MLe h0 (mem w0))
include hs
theorem zL4{k l m:Nat}{va:Value}{a:Tq}(ra:(tPt k).Is h0 va a){vb:Value}{b:Tq}(rb:(tPt l).Is h0 vb b){vc:Value}{c:Tq}(rc:(tPt m).Is h0 vc c)(hcd0:k<=100000000)(hcd1:l<=100000000)(hcd2:m<=100000000):
 Calls prog 66 #[va,vb,vc] w0 (Ret w0 h0 (λh r=>(rpQ (3*k+6*l+6*m+18)).Is h r (tB a b c))):=by
 refine cb3 12 va vb vc func66 hs ?_;refine go2 ?_;refine nB ra λb3 an Z=>(nB rb λb4 am U=>(nB rc λb5 ak O=>(nA (ρ:=(rpQ 1)) (X:=(0:Rat)) yR (yE dC) λb6 aj M=>(go3 ?_))));refine zK 5 _ [] [(0,.q),(1,.q),(2,.q),(3,.c),(4,.c),(5,.t)] yA nX zot nX (λr hr=>hr) (wX I (xB zR pH Z) λv7 r7=>(wX I (xB zR pH U) λv8 r8=>(wX I (xB zR pH O) λv9 r9=>?_)));refine w_c I (sC (ev2 I I) call43 (λw hs=>lF hs r8 r9 oM) λae h1 ai aa=>?_);refine w_c I (sC (ev2 I I) call44 (λw hs=>tU hs r7.up aa oM) λad h2 ah C=>?_);replace C:=Rp.Is.le C (Le.q (l:=3*k+6*l+6*m+18) oM);have G:=(Le.q (l:=3*k+6*l+6*m+18) oM).R M;refine yG (A:=[]) I (uB sizeOf26 pH G C) λab J=>(go3 ?_);refine xH (qK (t:=6) yJ mh0 I J) ?_;intro ac D H;refine yI (λE S=>zS I D E S) ?_;exact H
theorem zPC{k n m:Nat}{vl:Value}{l:(List Tq)}(rl:(tLs k).Is h0 vl l){vs:Value}{s:Pq}(rs:(tPl n m).Is h0 vs s)(hcd0:k<=10000000)(hcd1:m<=10000000)(hcd2:n<=1000000)(hcd3:l.length<=100000):
 Calls prog 152 #[vl,vs] w0 (Ret w0 h0 (λ_ r=>r=vB (zGZ s l))):=by
 have dd:=zQH s.1;refine cb2 73 vl vs func152 hs ?_;refine go2 ?_;refine nB rs λb3 U ab=>(u5 ?_);refine qM (ι:=Mem) 5 (λm_=>MLe h0 m_) (λ_=>[(20,vB (((↑(l).length:Int)<(3:Int))\/(s.1=zT))),(0,vl),(3,vP b3 0),(5,vI (↑(l).length:Int))]) (λ_=>[.var b3 80 U]) (λm_=>m_) ?_ ?_
 ·
  refine yK ((↑(l).length:Int)<(3:Int)) (λhg=>?_) (λhg=>?_)
  ·
   refine gT hg I (go5 ?_);refine zY h0 (MLe.refl _) ⟨?_,I,I,I,y3i⟩ I I;exact y2e (uL hg)
  refine gF hg I (go3 ?_);refine lX (xB zR (y4i pH) ab) λcu bs=>(go1 ?_);refine cL (ev1 I) call42 (λw hs=>zC5 hs bs oM) λay h1 ah br=>?_;obtain rfl:ay=vB (s.1=zT):=br;refine go2 ?_;refine zY h1 ah ⟨?_,I,I,I,y3i⟩ I I;exact y2e (uM hg)
 intro H am;refine rN ?_;refine gc2 (λD=>?_) λD=>?_
 ·
  refine go7 ?_;refine zF I I ?_;exact(yZ (λe=>D.elim (λh=>by have:=e.1.1;omega) (λh=>e.1.2 h))).symm
 have hN:¬s.1=zT:=λe=>D (.inr e);have h3:3<=l.length:=by have h:=D;omega
 refine go9 ?_;refine gcL (ι:=Nat×Mem) (λ(i,ma)=>(MLe H ma/\(i<=l.length/\∀u,u<i->sdZ s (gp l u)=0),[(0,vl),(3,vP b3 0),(5,vI (↑(l).length:Int)),(6,vI ↑i)],[.var b3 80 U],ma,l.length-i)) (0,H) ?_ ?_
 · exact⟨mle,by omega,λu h=>by omega⟩
 rintro⟨i,ma⟩ ⟨bz,cz,hi2⟩
 refine yW ?_;refine gc8 (λar=>?_) λar=>?_
 ·
  refine go5 ?_;refine zK 7 _ [] (zai 0 5 [(5,.c),(6,.q)]) yA nX zot nX (λr hr=>hr) (wX I (xB iI pH ab) λct bq=>(go2 ?_));refine wX I (xI zT i underlying46 zR rl) λcq bp=>(wX I (xA zR bp) λcp bo=>?_);refine w_c I (sC (ev2 I I) call153 (λw hs=>zIB hs bq bo oM oM oM) λax h1 ah bn=>?_);obtain rfl:ax=vI (sdZ s (l.getD i zT)):=bn;have bu:=zLL s (l.getD i zT);refine gc3 (λM=>?_) λM=>?_
  ·
   refine jI ?_;refine zF I I ?_;exact(yZ (λe=>M (e.2.1 i oM))).symm
  refine go8 ?_;refine gqL ((i+1),h1) ?_ ?_
  · exact⟨mle,by omega,qN (Q:=λu=>sdZ s (gp l u)=0) hi2 (zdi M)⟩
  omega
 have hS:∀u,u<l.length->sdZ s (gp l u)=0:=λu hu=>hi2 u oM;refine jF ?_;refine gcL (ι:=Nat×Mem) (λ(i,mb)=>(MLe ma mb/\(i<=l.length/\∀u,u<i->∀C,2<=C->C<l.length->0<orZ (pt2 s (gp l u)) (pt2 s (nx l u)) (pt2 s (gp l ((u+C)%l.length)))),[(0,vl),(3,vP b3 0),(5,vI (↑(l).length:Int)),(7,vI ↑i)],[.var b3 80 U],mb,l.length-i)) (0,ma) ?_ ?_
 · exact⟨mle,by omega,λu h=>by omega⟩
 rintro⟨i,mb⟩ ⟨bx,cy,ao⟩
 refine yW ?_;refine gc8 (λaq=>?_) λaq=>?_
 ·
  refine go5 ?_;refine zK 15 _ [(11,(8,53,y5e)),(12,(9,53,y5e))] (zai 0 11 [(11,.a),(12,.a),(13,.c),(14,.c)]) yA (jT.cons I I (uX yO I I) (jT.cons I I (uX yO I I) jT.nil)) (wV zot) (qA I I (qA I I kO)) (λr hr=>hr) (go2 ?_);refine wX I (xI zT i underlying46 zR rl) λco bm=>(wX I (xA zR bm) λcn bl=>(go4 ?_));refine xD I (λ_ _=>vC I I oM oM) I (wX I (xI zT ((i+1)%l.length) underlying46 zR rl (hi:=by exact zcu _ oM)) λcm bk=>(wX I (xA zR bk) λcl bj=>?_));refine w_a I I (λb8=>?_);have ba:(tPt (k+1)).R mb y5e zT:=(yS (yE oM));refine w_a I I (λb9=>?_);have az:(tPt (k+1)).R mb y5e zT:=(yS (yE oM));refine w_c I (cD (A:=[_]) (uB sizeOf53 pH ba (bl.le (Le.t (Le.q (l:=k+1) oM)))) (wA zox) λav Z=>?_);refine w_c I (cD (A:=[]) (uB sizeOf53 pH az (bj.le (Le.t (Le.q (l:=k+1) oM)))) (wA zox) λau aj=>(go8 ?_));refine gcL (ι:=Nat×Mem) (λ(q,mq)=>(MLe mb mq/\((2<=q/\q<=l.length)/\∀C,2<=C->C<q->0<orZ (pt2 s (gp l i)) (pt2 s (nx l i)) (pt2 s (gp l ((i+C)%l.length)))),[(0,vl),(3,vP b3 0),(5,vI (↑(l).length:Int)),(7,vI ↑i),(8,vP b8 0),(9,vP b9 0),(10,vI ↑q)],[.var b9 53 au,.var b8 53 av,.var b3 80 U],mq,l.length-q)) (2,mb) ?_ ?_
  · exact⟨mle,⟨by omega,by omega⟩,λC G O=>by omega⟩
  rintro⟨q,mq⟩ ⟨bw,⟨cw,cv⟩,an⟩
  refine yW ?_;refine gc8 (λap=>?_) λap=>?_
  ·
   refine jI ?_;refine gv (vC I I oM oM) I (lX (xI zT ((i+q)%l.length) underlying46 zR rl (hi:=by exact zcu _ oM)) λck bi=>(lX (xA zR bi) λcj bh=>(nA (ρ:=(tPt (k+1))) (X:=zT) yO (yS (yE oM)) λde ca ak=>(zU (A:=[]) (uB sizeOf53 pH ak (bh.le (Le.t (Le.q (l:=k+1) oM)))) λbv aa=>(go3 ?_)))));refine zK 11 _ [] [(0,.q),(1,.q),(3,.q),(4,.q),(6,.q),(7,.q),(2,.c),(5,.c),(8,.c),(9,.c),(10,.q)] yA nX zot nX (λr hr=>hr) (wX I (xB zR pH aj) λci bg=>(wX I (xB zR pH Z) λch bf=>(wX I (xB zR pH aa) λcf be=>(wX I (xB zR pH Z) λce bd=>(go1 ?_)))));refine wX I (xB zR (y4i pH) ab) λcc bc=>?_;refine w_c I (sC (ev2 I I) call125 (λw hs=>zBQ hs bg bf oM) λcg h1 ah ae=>?_);replace ae:=Rp.Is.le ae (Le.t (Le.q (l:=2*k+3) oM));refine w_c I (sC (ev2 I I) call125 (λw hs=>zBQ hs be.up bd.up oM) λcd h2 dc ad=>?_);replace ad:=Rp.Is.le ad (Le.t (Le.q (l:=2*k+3) oM));refine w_c I (sC (ev3 I I I) call66 (λw hs=>zL4 hs ae.up ad bc.up oM oM oM) λcb h3 db ac=>?_);replace ac:=Rp.Is.le ac (Le.q (l:=18*k+6*n+45) oM);refine w_c I (sC (ev1 I) call17 (λw hs=>vX hs ac oM) λaw h4 da bb=>?_);obtain rfl:aw=vI (yU (tB (T3.mk ((l.getD ((i+1)%l.length) zT).x-(l.getD i zT).x) ((l.getD ((i+1)%l.length) zT).y-(l.getD i zT).y) ((l.getD ((i+1)%l.length) zT).z-(l.getD i zT).z)) (T3.mk ((l.getD ((i+q)%l.length) zT).x-(l.getD i zT).x) ((l.getD ((i+q)%l.length) zT).y-(l.getD i zT).y) ((l.getD ((i+q)%l.length) zT).z-(l.getD i zT).z)) s.1)):=bb;have bt:=xW (tB (T3.mk ((l.getD ((i+1)%l.length) zT).x-(l.getD i zT).x) ((l.getD ((i+1)%l.length) zT).y-(l.getD i zT).y) ((l.getD ((i+1)%l.length) zT).z-(l.getD i zT).z)) (T3.mk ((l.getD ((i+q)%l.length) zT).x-(l.getD i zT).x) ((l.getD ((i+q)%l.length) zT).y-(l.getD i zT).y) ((l.getD ((i+q)%l.length) zT).z-(l.getD i zT).z)) s.1);refine gc3 (λJ=>?_) λJ=>?_
   ·
    have ai:¬0<orZ (pt2 s (gp l i)) (pt2 s (nx l i)) (pt2 s (gp l ((i+q)%l.length))):=(zYL hN (hS i oM) (hS ((i+1)%l.length) (zcu _ oM)) (hS ((i+q)%l.length) (zcu _ oM))).1 J;refine u5 ?_;refine zF I I ?_;exact(yZ (λe=>ai (e.2.2 i q oM oM oM))).symm
   have ai:0<orZ (pt2 s (gp l i)) (pt2 s (nx l i)) (pt2 s (gp l ((i+q)%l.length))):=zdi (λe=>J ((zYL hN (hS i oM) (hS ((i+1)%l.length) (zcu _ oM)) (hS ((i+q)%l.length) (zcu _ oM))).2 e));refine go8 ?_;refine uR (A:=[]) ?_;refine gqL ((q+1),h4) ?_ ?_
   · exact⟨mle,⟨by omega,by omega⟩,λC G O=>by rcases znu.1 O with e|e;exact an C G e;subst e;exact ai⟩
   omega
  refine jI ?_;refine uR (A:=[]) (uR (A:=[]) ?_);refine gqL ((i+1),mq) ?_ ?_
  · exact⟨mle,by omega,qN (Q:=λu=>∀C,2<=C->C<l.length->0<orZ (pt2 s (gp l u)) (pt2 s (nx l u)) (pt2 s (gp l ((u+C)%l.length)))) ao (λC G O=>an C G oM)⟩
  omega
 have hE:∀u C,u<l.length->2<=C->C<l.length->0<orZ (pt2 s (gp l u)) (pt2 s (nx l u)) (pt2 s (gp l ((u+C)%l.length))):=λu C hu G O=>ao u oM C G O;refine jI ?_;refine zF I I ?_;exact(wB ⟨⟨h3,hN⟩,hS,hE⟩).symm
theorem zIE{k l j:Nat}{vm:Value}{m:((T3 Tq)×Tq)}(rm:(rpP (rpT (tPt k)) (tPt l)).Is h0 vm m){vp:Value}{p:Tq}(rp:(tPt j).Is h0 vp p)(hcd0:k<=1000000)(hcd1:j<=1000000):
 Calls prog 78 #[vm,vp] w0 (Ret w0 h0 (λh r=>(tPt (3*j+3*k+9)).Is h r (qV m p))):=by
 refine cb2 21 vm vp func78 hs ?_;refine go2 ?_;refine nB rm λb2 ay D=>(nB rp λb3 ax C=>(nA (ρ:=(tPt (3*j+3*k+9))) (X:=zT) yO (yS (yE oM)) λb4 aw U=>(go3 ?_)));refine zK 16 _ [] (zai 0 4 (zai 5 4 (zai 10 4 [(4,.c),(9,.c),(14,.c),(15,.q),(16,.t)]))) yA nX (wV zot) nX (λr hr=>hr) (go2 ?_);refine wX I (xB zR (y4i (y4e pH)) D) λv7 r7=>(wX I (xB zR pH C) λv8 r8=>(go2 ?_));refine wX I (xB zR (y4i (y5i pH)) D) λaq ae=>(wX I (xB zR pH C) λap ad=>(go2 ?_));refine wX I (xB zR (y4i (y5u pH)) D) λan ac=>(wX I (xB zR pH C) λam ab=>?_);refine w_c I (sC (ev2 I I) call44 (λw hs=>tU hs r7 r8 oM) λv9 h1 av Z=>?_);replace Z:=Rp.Is.le Z (Le.q (l:=3*j+3*k+9) oM);refine w_c I (sC (ev2 I I) call44 (λw hs=>tU hs ae.up ad.up oM) λao h2 au H=>?_);replace H:=Rp.Is.le H (Le.q (l:=3*j+3*k+9) oM);refine w_c I (sC (ev2 I I) call44 (λw hs=>tU hs ac.up ab.up oM) λak h3 ar G=>?_);replace G:=Rp.Is.le G (Le.q (l:=3*j+3*k+9) oM);refine wX I (xV (ρ:=(tPt (3*j+3*k+9))) (wI (ps':=[(0,_),(1,_),(2,_)]) underlying53 yO I I sizeOf26 e6z I (yS (yE oM)) (zC I (y4e (y3u _)) Z.up (zC I (y5i (y3u _)) H.up (zC I (y5u (y3u _)) G zQ))))) λaj aa=>(yG (A:=[]) I (uB sizeOf53 pH U aa) λah O=>(go3 ?_));refine xH (qK (t:=4) zR mh0 I O) ?_;intro ai J M;refine yI (λE S=>zS I J E S) ?_;exact M
theorem zF0{k l j:Nat}{vm:Value}{m:((T3 Tq)×Tq)}(rm:(rpP (rpT (tPt k)) (tPt l)).Is h0 vm m){vp:Value}{p:Tq}(rp:(tPt j).Is h0 vp p)(hcd0:k<=1000000)(hcd1:j<=1000000)(hcd2:l<=1000000):
 Calls prog 28 #[vm,vp] w0 (Ret w0 h0 (λh r=>(tPt (3*j+3*k+l+10)).Is h r (qT m p))):=by
 refine cb2 11 vm vp func28 hs ?_;refine go2 ?_;refine nB rm λb2 ah J=>(nB rp λb3 ae O=>(nA (ρ:=(tPt (3*j+3*k+l+10))) (X:=zT) yO (yS (yE oM)) λb4 ad M=>(go3 ?_)));refine zK 6 _ [] [(0,.q),(1,.q),(3,.q),(4,.q),(2,.c),(5,.c),(6,.t)] yA nX zot nX (λr hr=>hr) (wX I (xB zA1 pH J) λv5 r5=>(wX I (xB zR pH O) λv6 r6=>(go1 ?_)));refine wX I (xB zR (y4u pH) J) λv9 r9=>?_;refine w_c I (sC (ev2 I I) call78 (λw hs=>zIE hs r5 r6 oM oM) λv7 h1 ac r7=>?_);refine w_c I (sC (ev2 I I) call34 (λw hs=>zWN hs r7 r9.up oM) λaa h2 ab C=>?_);replace C:=Rp.Is.le C (Le.t (Le.q (l:=3*j+3*k+l+10) oM));refine yG (A:=[]) I (uB sizeOf53 pH M C) λU H=>(go3 ?_);refine xH (qK (t:=4) zR mh0 I H) ?_;intro Z D G;refine yI (λE S=>zS I D E S) ?_;exact G
theorem nC{k l:Nat}{vm:Value}{m:((T3 Tq)×Tq)}(rm:(rpP (rpT (tPt k)) (tPt l)).Is h0 vm m)(hcd0:k<=1000000):
 Calls prog 24 #[vm] w0 (Ret w0 h0 (λh r=>(rpQ (15*k+18)).Is h r (qG m))):=by
 refine cb1 13 vm func24 hs ?_;refine go2 ?_;refine nB rm λb1 ae H=>(nA (ρ:=(rpQ (15*k+18))) (X:=(0:Rat)) yR (yE oM) λb2 ad M=>(go6 ?_));refine lX (xB zR (y4i (y4e pH)) H) λv5 r5=>(go2 ?_);refine lX (xB zR (y4i (y5i pH)) H) λv8 r8=>(go2 ?_);refine lX (xB zR (y4i (y5u pH)) H) λab O=>(cL (ev3 I I I) call66 (λw hs=>zL4 hs r5 r8 O oM oM oM) λaa h1 ac J=>?_);replace J:=Rp.Is.le J (Le.q (l:=15*k+18) oM);refine zU (A:=[]) (uB sizeOf26 pH M J) λZ G=>(go3 ?_);refine xH (qK (t:=2) yJ mh0 I G) ?_;intro U C D;refine yI (λE S=>zS I C E S) ?_;exact D
end
end Go.Proofs.YtboaboflnckgoaaGreat
namespace Go.Proofs.YtboaboflnckgoaaGreat
open Bk Go Tryz
theorem zJ2{w0:World}{h0:Mem}(hs:MLe h0 (mem w0)){k:Nat}{vM:Value}{M:(T3 (T3 Rat))}(rM:(rpT (rpT (rpQ k))).Is h0 vM M)(hcd0:1<=k):
 Calls prog 110 #[vM] w0 (Ret w0 h0 (λh r=>(rpT (rpT (rpQ k))).Is h r (yJK M))):=by
 refine fF (n:=24) (e:=[(0,vM)]) (vs:=[vM]) func110 rfl rfl (bL rfl) hs ⟨rfl,y3i⟩ (zL (zD (zH (zMK (ρ:=(rpT (rpT (rpQ k)))) rfl rM) rfl rfl rfl ?_)));intro v1 q1 bn;obtain⟨D,cc,rfl,rfl,H⟩:=bn;refine zH (zAK (ρ:=(rpT (rpT (rpQ k)))) (X:=(T3.mk zT zT zT)) zGM I I (yS (yS (yE zos)))) I I I ?_;intro v2 q2 bm;obtain⟨b2,cb,rfl,rfl,bk⟩:=bm;refine zO (zG (zL (zD (zH (zAK (ρ:=(rpT (rpT (rpQ k)))) (X:=(T3.mk zT zT zT)) zGM I I (yS (yS (yE zos)))) I I I ?_))));intro v3 q3 bl;obtain⟨C,ca,rfl,rfl,bj⟩:=bl;refine zO (zG (zL (zL (zD (asg (v:=vI (0)) I I (zO (zG (xJ (gN (zL (zL (zD (mv I I ?_)))))))))))));refine gv (OpV.tr zov (yH (q:=3) I I)) I (zO (zG (kS I (wW (zG (zL (xJ (zL (zD (asg (v:=vI (0)) I I (zO (zG (xJ ?_)))))))))))));refine gN (zL (zL (zD (mv I I (gv (OpV.tr zov (yH (q:=3) I I)) I (zO (zG (kS I (wW (zG (zL (xJ ?_))))))))))));refine zK 9 _ [] (zai 0 9 [(9,.t)]) yA nX zot nX (λr O=>O) (wZ I I I (wZ I I I (wZ I I I (wZ I I I (xD I (λ_ _=>(zP (sz:=9) 0 underlying54 sizeOf53 I I I zov).cv (show _=vP D 0 from zbi (vP D) zoz)) I (xD I (λ_ _=>(zP (sz:=3) 0 underlying53 sizeOf26 I I I zov).cv (show _=vP D 0 from zbi (vP D) zoz)) I (tA (F:=λG=>(rpQ k).Is h0 G M.x.x) I (kG yJ (y4e (y4e (y3u _))) I I H I) (kH mh2) I ?_)))))));intro bi au;refine xD I (λ_ _=>(zP (sz:=9) 0 underlying54 sizeOf53 I I I zov).cv (show _=vP C 0 from zbi (vP C) zoz)) I (xD I (λ_ _=>(zP (sz:=3) 0 underlying53 sizeOf26 I I I zov).cv (show _=vP C 0 from zbi (vP C) zoz)) I (yG (A:=[]) (F:=λJ=>(rpT (rpT (rpQ k))).R h0 J (T3.mk (T3.mk M.x.x (0:Rat) (0:Rat)) zT zT)) I (pY sizeOf26 (y4e (y4e (y3u _))) I I I bj au I) ?_));intro bz ay;refine fP (kY (wO (e':=[(1,_),(2,_),(3,_),(4,_),(5,_)]) e5 (zG (zD (mv I I (gv ((zV (q:=1) I I zos zos).cv (show _=vI (1) from I)) I (asg I I (zO (xM (zL (zL (zD (mv I I ?_)))))))))))));refine gv (OpV.tr zov (yH (q:=3) I I)) I (zO (zG (kS I (wW (zG (zL (xJ ?_)))))));refine zK 9 _ [] (zai 0 9 [(9,.t)]) yA nX zot nX (λr O=>O) (wZ I I I (wZ I I I (wZ I I I (wZ I I I (xD I (λ_ _=>(zP (sz:=9) 1 underlying54 sizeOf53 I I I zov).cv (show _=vP D 9 from zbi (vP D) zoz)) I (xD I (λ_ _=>(zP (sz:=3) 0 underlying53 sizeOf26 I I I zov).cv (show _=vP D 9 from zbi (vP D) zoz)) I (tA (F:=λG=>(rpQ k).Is h0 G M.y.x) I (kG yJ (y5i (y4e (y3u _))) I I H I) (kH mh2) I ?_)))))));intro bh ar;refine xD I (λ_ _=>(zP (sz:=9) 0 underlying54 sizeOf53 I I I zov).cv (show _=vP C 0 from zbi (vP C) zoz)) I (xD I (λ_ _=>(zP (sz:=3) 1 underlying53 sizeOf26 I I I zov).cv (show _=vP C 3 from zbi (vP C) zoz)) I (yG (A:=[]) (F:=λJ=>(rpT (rpT (rpQ k))).R h0 J (T3.mk (T3.mk M.x.x M.y.x (0:Rat)) zT zT)) I (pY sizeOf26 (y4e (y5i (y3u _))) I I I ay ar I) ?_));intro bx ax;refine fP (kY (wO (e':=[(1,_),(2,_),(3,_),(4,_),(5,_)]) e5 (zG (zD (mv I I (gv ((zV (q:=1) I I zos zos).cv (show _=vI (2) from I)) I (asg I I (zO (xM (zL (zL (zD (mv I I ?_)))))))))))));refine gv (OpV.tr zov (yH (q:=3) I I)) I (zO (zG (kS I (wW (zG (zL (xJ ?_)))))));refine zK 9 _ [] (zai 0 9 [(9,.t)]) yA nX zot nX (λr O=>O) (wZ I I I (wZ I I I (wZ I I I (wZ I I I (xD I (λ_ _=>(zP (sz:=9) 2 underlying54 sizeOf53 I I I zov).cv (show _=vP D 18 from zbi (vP D) zoz)) I (xD I (λ_ _=>(zP (sz:=3) 0 underlying53 sizeOf26 I I I zov).cv (show _=vP D 18 from zbi (vP D) zoz)) I (tA (F:=λG=>(rpQ k).Is h0 G M.z.x) I (kG yJ (y5u (y4e (y3u _))) I I H I) (kH mh2) I ?_)))))))
 intro bg aq;refine xD I (λ_ _=>(zP (sz:=9) 0 underlying54 sizeOf53 I I I zov).cv (show _=vP C 0 from zbi (vP C) zoz)) I (xD I (λ_ _=>(zP (sz:=3) 2 underlying53 sizeOf26 I I I zov).cv (show _=vP C 6 from zbi (vP C) zoz)) I (yG (A:=[]) (F:=λJ=>(rpT (rpT (rpQ k))).R h0 J (T3.mk (T3.mk M.x.x M.y.x M.z.x) zT zT)) I (pY sizeOf26 (y4e (y5u (y3u _))) I I I ax aq I) ?_));intro bw aw;refine fP (kY (wO (e':=[(1,_),(2,_),(3,_),(4,_),(5,_)]) e5 (zG (zD (mv I I (gv ((zV (q:=1) I I zos zos).cv (show _=vI (3) from I)) I (asg I I (zO (xM (zL (zL (zD (mv I I ?_)))))))))))));refine gv (OpV.fa zov (yH (q:=3) I I)) I (zO (zG (aU I (kR (vQ (vQ (kP (kY (zG (zD (mv I I (gv ((zV (q:=1) I I zos zos).cv (show _=vI (1) from I)) I (asg I I ?_)))))))))))));refine zO (xM (zL (zL (zD (mv I I (gv (OpV.tr zov (yH (q:=3) I I)) I (zO (zG (kS I (wW (zG (zL (xJ ?_)))))))))))));refine zL (zD (asg (v:=vI (0)) I I (zO (zG (xJ (gN (zL (zL (zD (mv I I (gv (OpV.tr zov (yH (q:=3) I I)) I (zO (zG ?_)))))))))))));refine kS I (wW (zG (zL (xJ ?_))));refine zK 9 _ [] (zai 0 9 [(9,.t)]) yA nX zot nX (λr O=>O) (wZ I I I (wZ I I I (wZ I I I (wZ I I I (xD I (λ_ _=>(zP (sz:=9) 0 underlying54 sizeOf53 I I I zov).cv (show _=vP D 0 from zbi (vP D) zoz)) I (xD I (λ_ _=>(zP (sz:=3) 1 underlying53 sizeOf26 I I I zov).cv (show _=vP D 3 from zbi (vP D) zoz)) I (tA (F:=λG=>(rpQ k).Is h0 G M.x.y) I (kG yJ (y4e (y5i (y3u _))) I I H I) (kH mh2) I ?_)))))));intro bf ap;refine xD I (λ_ _=>(zP (sz:=9) 1 underlying54 sizeOf53 I I I zov).cv (show _=vP C 9 from zbi (vP C) zoz)) I (xD I (λ_ _=>(zP (sz:=3) 0 underlying53 sizeOf26 I I I zov).cv (show _=vP C 9 from zbi (vP C) zoz)) I (yG (A:=[]) (F:=λJ=>(rpT (rpT (rpQ k))).R h0 J (T3.mk (T3.mk M.x.x M.y.x M.z.x) (T3.mk M.x.y (0:Rat) (0:Rat)) zT)) I (pY sizeOf26 (y5i (y4e (y3u _))) I I I aw ap I) ?_));intro bv av;refine fP (kY (wO (e':=[(1,_),(2,_),(3,_),(4,_),(5,_)]) e5 (zG (zD (mv I I (gv ((zV (q:=1) I I zos zos).cv (show _=vI (1) from I)) I (asg I I (zO (xM (zL (zL (zD (mv I I ?_)))))))))))));refine gv (OpV.tr zov (yH (q:=3) I I)) I (zO (zG (kS I (wW (zG (zL (xJ ?_)))))));refine zK 9 _ [] (zai 0 9 [(9,.t)]) yA nX zot nX (λr O=>O) (wZ I I I (wZ I I I (wZ I I I (wZ I I I (xD I (λ_ _=>(zP (sz:=9) 1 underlying54 sizeOf53 I I I zov).cv (show _=vP D 9 from zbi (vP D) zoz)) I (xD I (λ_ _=>(zP (sz:=3) 1 underlying53 sizeOf26 I I I zov).cv (show _=vP D 12 from zbi (vP D) zoz)) I (tA (F:=λG=>(rpQ k).Is h0 G M.y.y) I (kG yJ (y5i (y5i (y3u _))) I I H I) (kH mh2) I ?_)))))));intro be ao;refine xD I (λ_ _=>(zP (sz:=9) 1 underlying54 sizeOf53 I I I zov).cv (show _=vP C 9 from zbi (vP C) zoz)) I (xD I (λ_ _=>(zP (sz:=3) 1 underlying53 sizeOf26 I I I zov).cv (show _=vP C 12 from zbi (vP C) zoz)) I (yG (A:=[]) (F:=λJ=>(rpT (rpT (rpQ k))).R h0 J (T3.mk (T3.mk M.x.x M.y.x M.z.x) (T3.mk M.x.y M.y.y (0:Rat)) zT)) I (pY sizeOf26 (y5i (y5i (y3u _))) I I I av ao I) ?_));intro bu am;refine fP (kY (wO (e':=[(1,_),(2,_),(3,_),(4,_),(5,_)]) e5 (zG (zD (mv I I (gv ((zV (q:=1) I I zos zos).cv (show _=vI (2) from I)) I (asg I I (zO (xM (zL (zL (zD (mv I I ?_)))))))))))));refine gv (OpV.tr zov (yH (q:=3) I I)) I (zO (zG (kS I (wW (zG (zL (xJ ?_)))))));refine zK 9 _ [] (zai 0 9 [(9,.t)]) yA nX zot nX (λr O=>O) (wZ I I I (wZ I I I (wZ I I I (wZ I I I (xD I (λ_ _=>(zP (sz:=9) 2 underlying54 sizeOf53 I I I zov).cv (show _=vP D 18 from zbi (vP D) zoz)) I (xD I (λ_ _=>(zP (sz:=3) 1 underlying53 sizeOf26 I I I zov).cv (show _=vP D 21 from zbi (vP D) zoz)) I (tA (F:=λG=>(rpQ k).Is h0 G M.z.y) I (kG yJ (y5u (y5i (y3u _))) I I H I) (kH mh2) I ?_)))))))
 intro bd an;refine xD I (λ_ _=>(zP (sz:=9) 1 underlying54 sizeOf53 I I I zov).cv (show _=vP C 9 from zbi (vP C) zoz)) I (xD I (λ_ _=>(zP (sz:=3) 2 underlying53 sizeOf26 I I I zov).cv (show _=vP C 15 from zbi (vP C) zoz)) I (yG (A:=[]) (F:=λJ=>(rpT (rpT (rpQ k))).R h0 J (T3.mk (T3.mk M.x.x M.y.x M.z.x) (T3.mk M.x.y M.y.y M.z.y) zT)) I (pY sizeOf26 (y5i (y5u (y3u _))) I I I am an I) ?_));intro bs ak;refine fP (kY (wO (e':=[(1,_),(2,_),(3,_),(4,_),(5,_)]) e5 (zG (zD (mv I I (gv ((zV (q:=1) I I zos zos).cv (show _=vI (3) from I)) I (asg I I (zO (xM (zL (zL (zD (mv I I ?_)))))))))))));refine gv (OpV.fa zov (yH (q:=3) I I)) I (zO (zG (aU I (kR (vQ (vQ (kP (kY (zG (zD (mv I I (gv ((zV (q:=1) I I zos zos).cv (show _=vI (2) from I)) I (asg I I ?_)))))))))))));refine zO (xM (zL (zL (zD (mv I I (gv (OpV.tr zov (yH (q:=3) I I)) I (zO (zG (kS I (wW (zG (zL (xJ ?_)))))))))))));refine zL (zD (asg (v:=vI (0)) I I (zO (zG (xJ (gN (zL (zL (zD (mv I I (gv (OpV.tr zov (yH (q:=3) I I)) I (zO (zG ?_)))))))))))));refine kS I (wW (zG (zL (xJ ?_))));refine zK 9 _ [] (zai 0 9 [(9,.t)]) yA nX zot nX (λr O=>O) (wZ I I I (wZ I I I (wZ I I I (wZ I I I (xD I (λ_ _=>(zP (sz:=9) 0 underlying54 sizeOf53 I I I zov).cv (show _=vP D 0 from zbi (vP D) zoz)) I (xD I (λ_ _=>(zP (sz:=3) 2 underlying53 sizeOf26 I I I zov).cv (show _=vP D 6 from zbi (vP D) zoz)) I (tA (F:=λG=>(rpQ k).Is h0 G M.x.z) I (kG yJ (y4e (y5u (y3u _))) I I H I) (kH mh2) I ?_)))))));intro bc ab;refine xD I (λ_ _=>(zP (sz:=9) 2 underlying54 sizeOf53 I I I zov).cv (show _=vP C 18 from zbi (vP C) zoz)) I (xD I (λ_ _=>(zP (sz:=3) 0 underlying53 sizeOf26 I I I zov).cv (show _=vP C 18 from zbi (vP C) zoz)) I (yG (A:=[]) (F:=λJ=>(rpT (rpT (rpQ k))).R h0 J (T3.mk (T3.mk M.x.x M.y.x M.z.x) (T3.mk M.x.y M.y.y M.z.y) (T3.mk M.x.z (0:Rat) (0:Rat)))) I (pY sizeOf26 (y5u (y4e (y3u _))) I I I ak ab I) ?_));intro br aj;refine fP (kY (wO (e':=[(1,_),(2,_),(3,_),(4,_),(5,_)]) e5 (zG (zD (mv I I (gv ((zV (q:=1) I I zos zos).cv (show _=vI (1) from I)) I (asg I I (zO (xM (zL (zL (zD (mv I I ?_)))))))))))));refine gv (OpV.tr zov (yH (q:=3) I I)) I (zO (zG (kS I (wW (zG (zL (xJ ?_)))))));refine zK 9 _ [] (zai 0 9 [(9,.t)]) yA nX zot nX (λr O=>O) (wZ I I I (wZ I I I (wZ I I I (wZ I I I (xD I (λ_ _=>(zP (sz:=9) 1 underlying54 sizeOf53 I I I zov).cv (show _=vP D 9 from zbi (vP D) zoz)) I (xD I (λ_ _=>(zP (sz:=3) 2 underlying53 sizeOf26 I I I zov).cv (show _=vP D 15 from zbi (vP D) zoz)) I (tA (F:=λG=>(rpQ k).Is h0 G M.y.z) I (kG yJ (y5i (y5u (y3u _))) I I H I) (kH mh2) I ?_)))))));intro bb aa;refine xD I (λ_ _=>(zP (sz:=9) 2 underlying54 sizeOf53 I I I zov).cv (show _=vP C 18 from zbi (vP C) zoz)) I (xD I (λ_ _=>(zP (sz:=3) 1 underlying53 sizeOf26 I I I zov).cv (show _=vP C 21 from zbi (vP C) zoz)) I (yG (A:=[]) (F:=λJ=>(rpT (rpT (rpQ k))).R h0 J (T3.mk (T3.mk M.x.x M.y.x M.z.x) (T3.mk M.x.y M.y.y M.z.y) (T3.mk M.x.z M.y.z (0:Rat)))) I (pY sizeOf26 (y5u (y5i (y3u _))) I I I aj aa I) ?_));intro bq ai;refine fP (kY (wO (e':=[(1,_),(2,_),(3,_),(4,_),(5,_)]) e5 (zG (zD (mv I I (gv ((zV (q:=1) I I zos zos).cv (show _=vI (2) from I)) I (asg I I (zO (xM (zL (zL (zD (mv I I ?_)))))))))))));refine gv (OpV.tr zov (yH (q:=3) I I)) I (zO (zG (kS I (wW (zG (zL (xJ ?_)))))))
 refine zK 9 _ [] (zai 0 9 [(9,.t)]) yA nX zot nX (λr O=>O) (wZ I I I (wZ I I I (wZ I I I (wZ I I I (xD I (λ_ _=>(zP (sz:=9) 2 underlying54 sizeOf53 I I I zov).cv (show _=vP D 18 from zbi (vP D) zoz)) I (xD I (λ_ _=>(zP (sz:=3) 2 underlying53 sizeOf26 I I I zov).cv (show _=vP D 24 from zbi (vP D) zoz)) I (tA (F:=λG=>(rpQ k).Is h0 G M.z.z) I (kG yJ (y5u (y5u (y3u _))) I I H I) (kH mh2) I ?_)))))));intro ba Z;refine xD I (λ_ _=>(zP (sz:=9) 2 underlying54 sizeOf53 I I I zov).cv (show _=vP C 18 from zbi (vP C) zoz)) I (xD I (λ_ _=>(zP (sz:=3) 2 underlying53 sizeOf26 I I I zov).cv (show _=vP C 24 from zbi (vP C) zoz)) I (yG (A:=[]) (F:=λJ=>(rpT (rpT (rpQ k))).R h0 J (T3.mk (T3.mk M.x.x M.y.x M.z.x) (T3.mk M.x.y M.y.y M.z.y) (T3.mk M.x.z M.y.z M.z.z))) I (pY sizeOf26 (y5u (y5u (y3u _))) I I I ai Z I) ?_));intro bp ah;refine fP (kY (wO (e':=[(1,_),(2,_),(3,_),(4,_),(5,_)]) e5 (zG (zD (mv I I (gv ((zV (q:=1) I I zos zos).cv (show _=vI (3) from I)) I (asg I I (zO (xM (zL (zL (zD (mv I I ?_)))))))))))));refine gv (OpV.fa zov (yH (q:=3) I I)) I (zO (zG (aU I (kR (vQ (vQ (kP (kY (zG (zD (mv I I (gv ((zV (q:=1) I I zos zos).cv (show _=vI (3) from I)) I (asg I I ?_)))))))))))));refine zO (xM (zL (zL (zD (mv I I (gv (OpV.fa zov (yH (q:=3) I I)) I (zO (zG (aU I (kR (vQ (vQ (kP ?_)))))))))))));refine wO (e':=[(2,_),(3,_)]) e2z (zG (zL (zD (zGQ (F:=λG=>(rpT (rpT (rpQ k))).Is h0 G (T3.mk (T3.mk M.x.x M.y.x M.z.x) (T3.mk M.x.y M.y.y M.z.y) (T3.mk M.x.z M.y.z M.z.z))) (kG yH5 (y3u _) I I ah I) (kH mh0) I ?_))));intro az U;refine zU (A:=[_]) (F:=λJ=>(rpT (rpT (rpQ k))).R h0 J (T3.mk (T3.mk M.x.x M.y.x M.z.x) (T3.mk M.x.y M.y.y M.z.y) (T3.mk M.x.z M.y.z M.z.z))) (pY sizeOf54 (y3u _) I I I bk U I) ?_;intro bo ae;refine zO (zG (aF (xH (qK (t:=2) yH5 mh1 I ae) ?_)));intro bt ac ad;refine yI (λE S=>zS I ac E S) ?_;exact ad
end Go.Proofs.YtboaboflnckgoaaGreat
namespace Go.Proofs.YtboaboflnckgoaaGreat
open Bk Go Tryz
attribute [local irreducible] GL GC GQ W OpV
theorem zJ1{w0:World}{h0:Mem}(hs:MLe h0 (mem w0)){k l:Nat}{vm:Value}{m:((T3 Tq)×Tq)}(rm:(rpP (rpT (tPt k)) (tPt l)).Is h0 vm m)(hcd0:k<=10000)(hcd1:l<=10000):
 Calls prog 63 #[vm] w0 (Ret w0 h0 (λh r=>∃u0,r=.tuple #[u0,vI (if qG m=0 then 9 else 0)]/\(rpP (rpT (tPt (45*k+80))) (tPt (200*k+10*l+400))).Is h u0 (if qG m=0 then(T3.mk zT zT zT,zT) else zTW m))):=by
 refine cb1 54 vm func63 hs ?_;refine go2 ?_;refine nB rm λb1 eg C=>(nA (ρ:=(rpP (rpT (tPt 1)) (tPt 1))) (X:=((T3.mk zT zT zT),zT)) eB (yF (yS (yS (yE dC))) (yS (yE dC))) λb2 ef au=>(go5 ?_));refine lX (xB zA1 pH C) λv7 r7=>(cL (ev1 I) call24 (λw hs=>nC hs r7 oM) λv8 h1 dz r8=>(nA (ρ:=(rpQ (15*k+18))) (X:=(0:Rat)) yR (yE oM) λb4 ee ay=>(zU (A:=[]) (uB sizeOf26 pH ay r8) λch J=>(go5 ?_))));refine lX (xB yJ pH J) λv9 r9=>(cL (ev1 I) call17 (λw hs=>vX hs r9 oM) λav h2 dy bs=>?_);obtain rfl:av=vI (yU (qG m)):=bs;have bt:=xW (qG m);refine gc3 (λM=>?_) λM=>?_
 ·
  have hz:qG m=0:=uJ.1 oM;refine go2 ?_;refine lX (xV (ρ:=(rpP (rpT (tPt 1)) (tPt 1))) (xE (ps':=[]) underlying56 eB I I (zFN underlying56) trivial I (yF (yS (yS (yE dC))) (yS (yE dC))) zQ)) λdp br=>(zU (A:=[_]) (uB sizeOf56 pH au br) λcg ar=>(go5 ?_));refine xH (qK (t:=2) zA1 mh1 I ar) ?_;intro ci ao aq;refine yI (λE S=>vG I ao (qQ I) E S) ?_;refine⟨_,?_,(Rp.Is.cast (Rp.Is.le aq (Le.p (Le.t (Le.t (Le.q (l:=45*k+80) oM))) (Le.t (Le.q (l:=200*k+10*l+400) oM)))) (by exact(zau hz).symm))⟩;rw[zau hz]
 have hz:¬qG m=0:=λe=>M (by rw[uJ.2 e]);refine go3 ?_;refine zK 4 _ [(3,(5,26,[.bool false,.slice none 0 0,.slice none 0 0]))] [(1,.q),(0,.c),(2,.c),(3,.a),(4,.t)] yA (jT.cons I I (uX yR I I) jT.nil) zot (qA I I kO) (λr hr=>hr) (wX I (xB yJ pH J) λdm bp=>?_);refine w_c I (sC (vs:=[vI (1)]) ⟨I,y3i⟩ call39 (λw hs=>qI hs dC dC) λdn h3 dx bq=>?_);refine w_c I (sC (ev2 I I) call109 (λw hs=>zL5 hs bq bp.up oM) λdl h4 dw an=>?_);replace an:=Rp.Is.le an (Le.q (l:=15*k+20) oM);refine w_a I I (λb5=>?_);have ax:(rpQ (15*k+18)).R h4 [.bool false,.slice none 0 0,.slice none 0 0] (0:Rat):=(yE oM);have ap:=(Le.q (l:=15*k+20) oM).R ax;refine yG (A:=[]) I (uB sizeOf26 pH ap an) λcf D=>(go3 ?_);refine zK 31 _ [(30,(6,56,[.bool false,.slice none 0 0,.slice none 0 0,.bool false,.slice none 0 0,.slice none 0 0,.bool false,.slice none 0 0,.slice none 0 0,.bool false,.slice none 0 0,.slice none 0 0,.bool false,.slice none 0 0,.slice none 0 0,.bool false,.slice none 0 0,.slice none 0 0,.bool false,.slice none 0 0,.slice none 0 0,.bool false,.slice none 0 0,.slice none 0 0,.bool false,.slice none 0 0,.slice none 0 0,.bool false,.slice none 0 0,.slice none 0 0,.bool false,.slice none 0 0,.slice none 0 0,.bool false,.slice none 0 0,.slice none 0 0]))] (zai 0 7 (zai 9 7 (zai 18 7 [(7,.c),(8,.c),(16,.c),(17,.c),(25,.c),(26,.c),(27,.q),(28,.c),(29,.q),(30,.a),(31,.t)]))) yA (jT.cons I I (uX eB I I) jT.nil) (wV zot) (qA I I kO) (λr hr=>hr) (wX I (xB yJ pH D) λdk bo=>(go2 ?_));refine wX I (xB zR (y4i (y5i pH)) C) λdj bn=>(go2 ?_);refine wX I (xB zR (y4i (y5u pH)) C) λdi bm=>(wX I (xB yJ pH D) λde bl=>(go2 ?_));refine wX I (xB zR (y4i (y5u pH)) C) λdd bk=>(go2 ?_);refine wX I (xB zR (y4i (y4e pH)) C) λdc bj=>(wX I (xB yJ pH D) λcz bi=>(go2 ?_));refine wX I (xB zR (y4i (y4e pH)) C) λcy bh=>(go2 ?_);refine wX I (xB zR (y4i (y5i pH)) C) λcw bg=>?_;refine w_c I (sC (ev2 I I) call43 (λw hs=>lF hs bn bm oM) λdh h5 dv am=>?_);replace am:=Rp.Is.le am (Le.t (Le.q (l:=4*k+3) oM));refine w_c I (sC (ev2 I I) call111 (λw hs=>lD hs bo.up am oM) λdf h6 du ak=>?_);replace ak:=Rp.Is.le ak (Le.t (Le.q (l:=19*k+23) oM));refine w_c I (sC (ev2 I I) call43 (λw hs=>lF hs bk.up bj.up oM) λdb h7 dt aj=>?_);replace aj:=Rp.Is.le aj (Le.t (Le.q (l:=4*k+3) oM));refine w_c I (sC (ev2 I I) call111 (λw hs=>lD hs bl.up aj oM) λda h8 dr ai=>?_);replace ai:=Rp.Is.le ai (Le.t (Le.q (l:=19*k+23) oM));refine w_c I (sC (ev2 I I) call43 (λw hs=>lF hs bh.up bg.up oM) λcv h9 dq ah=>?_);replace ah:=Rp.Is.le ah (Le.t (Le.q (l:=4*k+3) oM));refine w_c I (sC (ev2 I I) call111 (λw hs=>lD hs bi.up ah oM) λcu ed ce ae=>?_);replace ae:=Rp.Is.le ae (Le.t (Le.q (l:=19*k+23) oM));refine wX I (xV (ρ:=(rpT (tPt (19*k+23)))) (wI (ps':=[(0,_),(1,_),(2,_)]) underlying54 zGM I I sizeOf53 e6z I (yS (yS (yE oM))) (zC I (y4e (y3u _)) ak.up (zC I (y5i (y3u _)) ai.up (zC I (y5u (y3u _)) ae zQ))))) λct bf=>?_;refine w_c I (sC (ev1 I) call110 (λw hs=>zJ2 hs bf oM) λcq bu cd be=>(wX I (xV (ρ:=(rpP (rpT (tPt (19*k+23))) (tPt 1))) (xE (ps':=[(0,_)]) underlying56 eB I I (zFN underlying56) e2z I (yF (yS (yS (yE oM))) (yS (yE dC))) (zC I (y4i (y3u _)) be zQ))) λcp bd=>?_));refine w_a I I (λb6=>?_);have aw:(rpP (rpT (tPt (45*k+80))) (tPt (45*k+80))).R bu [.bool false,.slice none 0 0,.slice none 0 0,.bool false,.slice none 0 0,.slice none 0 0,.bool false,.slice none 0 0,.slice none 0 0,.bool false,.slice none 0 0,.slice none 0 0,.bool false,.slice none 0 0,.slice none 0 0,.bool false,.slice none 0 0,.slice none 0 0,.bool false,.slice none 0 0,.slice none 0 0,.bool false,.slice none 0 0,.slice none 0 0,.bool false,.slice none 0 0,.slice none 0 0,.bool false,.slice none 0 0,.slice none 0 0,.bool false,.slice none 0 0,.slice none 0 0,.bool false,.slice none 0 0,.slice none 0 0] ((T3.mk zT zT zT),zT):=(yF (yS (yS (yE oM))) (yS (yE oM)))
 refine yG (A:=[]) I (uB sizeOf56 pH aw (bd.le (Le.p (Le.t (Le.t (Le.q (l:=45*k+80) oM))) (Le.t (Le.q (l:=45*k+80) oM))))) λbx G=>(go3 ?_);refine zK 7 _ [] [(1,.q),(2,.q),(3,.q),(0,.c),(4,.c),(5,.c),(6,.q),(7,.t)] yA nX zot nX (λr hr=>hr) (wX I (xB zA1 pH G) λcn bb=>(go1 ?_));refine wX I (xB zR (y4u pH) C) λcm ba=>?_;refine w_c I (sC (vs:=[vI (-1)]) ⟨I,y3i⟩ call39 (λw hs=>qI hs dC dC) λco ec cc bc=>?_);refine w_c I (sC (ev2 I I) call78 (λw hs=>zIE hs bb.up ba.up oM oM) λcl eb cb ad=>?_);replace ad:=Rp.Is.le ad (Le.t (Le.q (l:=135*k+3*l+249) oM));refine w_c I (sC (ev2 I I) call111 (λw hs=>lD hs bc.up ad oM) λck ea ca ac=>?_);replace ac:=Rp.Is.le ac (Le.t (Le.q (l:=135*k+3*l+251) oM));refine go1 ?_;have U:=(Le.p (Le.refl _) (Le.t (Le.q (l:=135*k+3*l+251) oM))).R G;refine yG (A:=[]) I (uB sizeOf53 (y4u pH) U ac) λbw ab=>(go4 ?_);refine lX (xB zA1 pH ab) λcj az=>?_;have O:=(Le.p (Le.t (Le.t (Le.q (l:=45*k+80) oM))) (Le.t (Le.q (l:=135*k+3*l+251) oM))).R au;refine zU (A:=[_,_,_]) (uB sizeOf56 pH O az) λbv aa=>(go4 ?_);refine xH (qK (t:=2) zA1 mh3 I aa) ?_;intro bz H Z;refine yI (λE S=>vG I H (qQ I) E S) ?_;refine⟨_,?_,(Rp.Is.cast (Rp.Is.le Z (Le.p (Le.refl _) (Le.t (Le.q (l:=200*k+10*l+400) oM)))) (by simp only[zae hz];rfl))⟩;rw[zae hz]
set_option maxHeartbeats 1000000 in
theorem zWP{w0:World}{h0:Mem}(hs:MLe h0 (mem w0)){k m n j k2 l2:Nat}{vs:Value}{s:Sq}(rs:(tSd k m n j).Is h0 vs s){vmp:Value}{mp:((T3 Tq)×Tq)}(rmp:(rpP (rpT (tPt k2)) (tPt l2)).Is h0 vmp mp)(hcd0:okS s)(hcd1:lT s)(hcd2:1<=m)(hcd3:1<=n)(hcd4:k<=1000)(hcd5:m<=1000)(hcd6:n<=1000)(hcd7:k2<=1000)(hcd8:l2<=1000)(hcd9:1<=k2)(hcd10:1<=l2)(hcd11:1<=k)(hcd12:1<=j):
 Calls prog 23 #[vs,vmp] w0 (Ret w0 h0 (λh r=>∃u0,r=.tuple #[u0,vI (if qG mp=0 then 3 else 0)]/\(tSd (3*k+3*k2+l2+10) (600*k2+20*m+2000) (600*k2+20*m+9*k+3*l2+n+2000) j).Is h u0 (mvR mp s))):=by
 have jb:=hcd0.1.1.1;have ja:=hcd0.1.1.2;have iz:=hcd0.1.2;refine cb2 144 vs vmp func23 hs ?_;refine go2 ?_;refine nB rs λb2 bf az=>(nB rmp λb3 be bs=>(nA (ρ:=(tSd (3*k+3*k2+l2+10) (600*k2+20*m+2000) (600*k2+20*m+9*k+3*l2+n+2000) j)) (X:=([],([],[]))) qC (yF wD (yF wD wD)) λb4 bd co=>(go6 ?_)));refine lX (xB qP pH az) λik fi=>(cL (ev1 I) call61 (λw hs=>zIF hs fi oM oM oM (by first|omega|exact hcd0)) λcf h1 jg fh=>?_);obtain rfl:cf=.bool true:=by rw[show cf=vB (lT s) from fh,wB (by exact hcd1)]
 refine gv (zWB I) I (go7 ?_);refine lX (xB zA1 pH bs) λij fg=>(cL (ev1 I) call24 (λw hs=>nC hs fg oM) λii h2 jf ff=>(cL (ev1 I) call17 (λw hs=>vX hs ff oM) λdv h3 je fe=>?_));obtain rfl:dv=vI (yU (qG mp)):=fe;have fl:=xW (qG mp);refine u6 (λbh=>?_) λbh=>?_
 ·
  have hz:qG mp=0:=uJ.1 oM;refine go2 ?_;refine lX (xV (ρ:=(tSd (3*k+3*k2+l2+10) (600*k2+20*m+2000) (600*k2+20*m+9*k+3*l2+n+2000) j)) (xE (ps':=[]) underlying50 qC I I (sN underlying50) trivial I (yF wD (yF wD wD)) zQ)) λih fd=>(zU (A:=[]) (uB sizeOf50 pH co fd) λgq cn=>(go5 ?_));refine xH (qK (t:=4) qP mh0 I cn) ?_;intro gt bv ck;refine yI (λE S=>vG I bv (qQ I) E S) ?_;refine⟨_,?_,(Rp.Is.cast ck (by exact(zau hz).symm))⟩;rw[zau hz]
 have bx:¬qG mp=0:=λe=>bh (by rw[uJ.2 e]);refine go4 ?_;refine lX (xB qP pH az) λig fc=>?_;refine uH (vs:=[_]) I I I I call62 ⟨I,y3i⟩ (λw hs=>zIL hs fc hcd0 oM oM) ?_;intro ie h4 jl jd bu;obtain⟨wP,fu,U,dt,us,R0,bu,rfl,⟨ir,iv,fj⟩,cl,ay,ar⟩:=bu;refine zM3 (A:=[_,_]) (R:=R0) (B:=[_,_,_]) (nA (ρ:=(rpP rpV (rpP rpV (rpS (rpP rpI (rpP rpI (rpQ j))))))) (X:=((Value.slice none 0 0),((Value.slice none 0 0),[]))) qC (yF fG (yF fG wD)) λb7 jj dy=>(zU (A:=[]) (uB sizeOf50 pH dy bu) λO M=>(go5 ?_)));rw[show s.1=(mpS mp s.1 0) by exact(mp_0 mp s.1).symm] at cl ⊢;refine go4 ?_;refine gcL (ι:=Nat×List Value×Mem) (λ(p,au,ba)=>(MLe h4 ba/\(RL (tPt (3*k+3*k2+l2+10)) ba au (mpS mp s.1 p)/\p<=s.1.length),[(2,vP b2 0),(3,vP b3 0),(4,vP b4 0),(6,vI (yU (qG mp))),(7,vP b7 0),(8,vI ↑p)],(.var b7 50 O::.gs 53 9 wP (mpS mp s.1 p).length au::.gs 83 14 U (fvZ s.2.1 us us.length).length dt::.var b4 50 bd::.var b3 56 be::.var b2 50 bf::R0),ba,s.1.length-p)) (0,fu,h4) ?_ ?_
 · exact⟨mle,((Le.t (Le.q (l:=3*k+3*k2+l2+10) oM)).rl cl),oM⟩
 rintro⟨p,au,ba⟩ ⟨ah,J,aq⟩
 refine yW ?_;have iq:=aq;have ip:(mpS mp s.1 p).length=s.1.length:=oT _ _ _;refine go5 ?_;replace M:=M.mono ah;refine lX (fN (xB qD (y4i pH) M)) λid fb=>?_;subst fb;refine gv (jU mh1 underlying46 I) I (gc3 (λdp=>?_) λdp=>?_)
 ·
  refine go4 ?_;refine zK 11 _ [] (zai 0 9 [(9,.c),(10,.q),(11,.t)]) yA nX (wV zot) nX (λr hr=>hr) (go1 ?_);refine wX I (fN (xB qD (y4i pH) M)) λic fa=>?_;subst fa;refine go1 ?_;refine wX I (xB zA1 pH bs) λib ez=>(go1 ?_);refine wX I (xB qD (y4i pH) az) λia ey=>(go1 ?_);refine wX I (xI zT p underlying46 zR ey) λhw ew=>(wX I (xA zR ew) λhv ev=>?_);refine w_c I (sC (ev2 I I) call28 (λw hs=>zF0 hs ez ev oM oM oM) λht h5 ak eu=>(w_q I (λh' L' hh hR=>(yP p (hR _ mh1) underlying46 sizeOf53 I I I bO nP).cv (show _=zI 1 wP ((p*9+0)) from zbi (zI 1 wP) zoz)) I ?_));replace J:=J.mono ak;refine nW (A:=[_]) (F:=λc_=>RL (tPt (3*k+3*k2+l2+10)) h5 c_ ((mpS mp s.1 p).set p (qT mp (s.1.getD p zT)))) I (sD sizeOf53 (y3e (y3u _) zT p bO) I nP I I J eu I) ?_;intro cd an;rw[show((mpS mp s.1 p).set p (qT mp (s.1.getD p zT)))=(mpS mp s.1 (p+1)) by exact yFS oM] at an ⊢;refine go8 ?_;refine gqL ((p+1),cd,h5) ?_ ?_
  · exact⟨mle,an,oM⟩
  omega
 have ep:p=s.1.length:=by omega
 refine go7 ?_;rw[show(mpS mp s.1 p)=(s.1.map (qT mp)) by rw[ep];exact yFT mp s.1] at J ⊢;refine lX (xB zA1 pH bs) λhq es=>(cL (ev1 I) call63 (λw hs=>zJ1 hs es oM oM) λhp h5 ak er=>?_);obtain⟨bi,rfl,Z⟩:=er
 change (rpP (rpT (tPt (45*k2+80))) (tPt (200*k2+10*l2+400))).Is h5 bi (if qG mp=0 then(T3.mk zT zT zT,zT) else zTW mp) at Z
 replace Z:=Rp.Is.cast (y:=zTW mp) Z (by rw[zae bx]);refine go3 ?_;refine nA (ρ:=(rpP (rpT (tPt (45*k2+80))) (tPt (200*k2+10*l2+400)))) (X:=((T3.mk zT zT zT),zT)) eB (yF (yS (yS (yE oM))) (yS (yE oM))) λb9 ji dx=>(zU (A:=[]) (uB sizeOf56 pH dx Z) λaj ae=>(go6 ?_));replace ay:=ay.mono (ah.trans ak);rw[show(fvZ s.2.1 us us.length)=(gZ (mvP mp (s.1.map (qT mp))) s.2.1 us 0) by exact gz_0 fj] at ay ⊢;replace ar:=ar.mono (ah.trans ak);replace J:=J.mono ak;refine zX (A:=[_,_]) (ρ:=(tPt (3*k+3*k2+l2+10))) J ?_;intro h6 fq bl;replace M:=M.mono (ak.trans fq);have H:(rpP (tLs (3*k+3*k2+l2+10)) (rpP rpV (rpS (rpP rpI (rpP rpI (rpQ j)))))).R h6 O ((s.1.map (qT mp)),(U,s.2.2)):=zZS M bl;refine go4 ?_;refine gcL (ι:=Nat×List Res×List Value×Mem) (λ(i,R1,ab,ma)=>(MLe h6 ma/\(RL (rpP (tPl (600*k2+20*m+2000) (600*k2+20*m+9*k+3*l2+n+2000)) (rpP rpV uP)) ma ab (gZ (mvP mp (s.1.map (qT mp))) s.2.1 us i)/\i<=s.2.1.length/\lQ 32 (rpS rpI) ma (us.drop i) ((lpS s.2.1).drop i) R1/\zAX ma us (λu=>mvL mp (s.2.1.getD u zA).2.1) i),[(2,vP b2 0),(4,vP b4 0),(6,vI (yU (qG mp))),(7,vP b7 0),(9,vP b9 0),(11,vI ↑i)],(.var b9 56 aj::.var b7 50 O::.gs 83 14 U (gZ (mvP mp (s.1.map (qT mp))) s.2.1 us i).length ab::.var b4 50 bd::.var b3 56 be::.var b2 50 bf::R1),ma,s.2.1.length-i)) (0,R0,dt,h6) ?_ ?_
 · exact⟨mle,((Le.p (Le.p (Le.t (Le.q (l:=600*k2+20*m+2000) oM)) (Le.q (l:=600*k2+20*m+9*k+3*l2+n+2000) oM)) (Le.refl _)).rl ay.up),by omega,ar.up,λu hu=>absurd hu (z4u u)⟩
 rintro⟨i,R1,ab,ma⟩ ⟨dl,C,jc,ar,ca⟩
 refine yW ?_;have jh:(gZ (mvP mp (s.1.map (qT mp))) s.2.1 us i).length=s.2.1.length:=eC;have go:(gZ (mvP mp (s.1.map (qT mp))) s.2.1 us (i+1)).length=s.2.1.length:=eC;refine go5 ?_;replace H:=H.mono dl;refine lX (fN (xB gG (y4u (y4i pH)) H)) λho eq=>?_;subst eq;refine gv (jU mh2 underlying47 I) I (gc3 (λdn=>?_) λdn=>?_)
 ·
  obtain⟨dr,R2,rfl,iu,cm,dq⟩:=lQ.flip ar oM oM;have bw:=yEL hcd1 (f:=i) oM;have gm:=bw.1.1.1;have gk:=(bw.1.2 0 oM).1.1;have gj:=bw.2 0 oM 0 oM;have il:(rvL (s.2.1.getD i zA).2.1 0).length=(s.2.1.getD i zA).2.1.length:=oH _ _;refine go7 ?_;refine lX (fN (xB gG (y4u (y4i pH)) H)) λhn eo=>?_;subst eo;refine go1 ?_;refine gv ((yP i mh2 underlying47 sizeOf83 I I I bO nP).cv (show _=zI 1 U ((i*14+0)) from zbi (zI 1 U) zoz)) I (go6 ?_);refine lX (xB gG (y4u (y4i pH)) az) λhm en=>(go1 ?_);refine lX (xI zA i underlying47 sJ en) λhl em=>(lX (xF underlying83 sizeOf80 (y4i pH) em) λhk el=>(lX (xF underlying80 sizeOf53 (y4i pH) el) λhj ej=>(lX (xA zR ej) λhf eh=>(nA (ρ:=(tPt m)) (X:=zT) yO (yS (yE oM)) λce gr ct=>(zU (A:=[]) (uB sizeOf53 pH ct eh) λaw br=>(go4 ?_))))));refine nA (ρ:=(tPt (135*k2+3*m+300))) (X:=zT) yO (yS (yE oM)) λax du cq=>(go9 ?_);refine gcL (ι:=Nat×List Value×Mem) (λ(q,aa,mq)=>(MLe ma mq/\((tPt (135*k2+3*m+300)).R mq aa (zSJ mp (s.2.1.getD i zA).1.1 q)/\q<=3),[(2,vP b2 0),(4,vP b4 0),(6,vI (yU (qG mp))),(7,vP b7 0),(9,vP b9 0),(11,vI ↑i),(12,zI 1 U ((i*14+0))),(13,vP ce 0),(14,vP ax 0),(15,vI ↑q)],(.var ax 53 aa::.var ce 53 aw::.var b9 56 aj::.var b7 50 O::.gs 83 14 U (gZ (mvP mp (s.1.map (qT mp))) s.2.1 us i).length ab::.var b4 50 bd::.var b3 56 be::.var b2 50 bf::.gs 32 1 (us.getD i nV) (rvL (s.2.1.getD i zA).2.1 0).length dr::R2),mq,3-q)) (0,du,ma) ?_ ?_
  · exact⟨mle,cq,oM⟩
  rintro⟨q,aa,mq⟩ ⟨bg,ad,aq⟩
  refine yW ?_;have io:=aq;refine gc7 (λdm=>?_) λdm=>?_
  ·
   refine go5 ?_;refine zK 17 _ [(16,(16,53,y5e))] (zai 0 16 [(16,.a),(17,.t)]) yA (jT.cons I I (uX yO I I) jT.nil) (wV zot) (qA I I kO) (λr hr=>hr) (go3 ?_);refine xD I (λ_ _=>(zP (sz:=3) q underlying53 sizeOf26 I I oM oM).cv (show _=vP b9 ((q*3+0)) from zbi (vP b9) oM)) I (wX I (xB yJ (y4i (y4e (Pc.ta pH q oM))) ae) λhe eg=>(go3 ?_));refine xD I (λ_ _=>(zP (sz:=3) q underlying53 sizeOf26 I I oM oM).cv (show _=vP b9 ((9+(q*3+0))) from zbi (vP b9) (by show 9+q*3=(9+(q*3+0));omega))) I (wX I (xB yJ (y4i (y5i (Pc.ta pH q oM))) ae) λhd ef=>(go3 ?_));refine xD I (λ_ _=>(zP (sz:=3) q underlying53 sizeOf26 I I oM oM).cv (show _=vP b9 ((9+(9+(q*3+0)))) from zbi (vP b9) (by show 18+q*3=(9+(9+(q*3+0)));omega))) I (wX I (xB yJ (y4i (y5u (Pc.ta pH q oM))) ae) λhc ee=>(wX I (xV (ρ:=(tPt (45*k2+80))) (wI (ps':=[(0,_),(1,_),(2,_)]) underlying53 yO I I sizeOf26 e6z I (yS (yE oM)) (zC I (y4e (y3u _)) eg (zC I (y5i (y3u _)) ef (zC I (y5u (y3u _)) ee zQ))))) λha ed=>?_));refine w_a I I (λjk=>?_);have cp:(tPt (45*k2+80)).R mq y5e zT:=(yS (yE oM));refine yG (A:=[]) I (uB sizeOf53 pH cp ed) λft bq=>(go4 ?_);refine lX (xB zR pH bq) λgz ec=>(lX (xB zR pH br) λgy eb=>(cL (ev2 I I) call44 (λw hs=>tU hs ec eb oM) λgx h7 bc bt=>?_));replace bt:=Rp.Is.le bt (Le.q (l:=135*k2+3*m+249) oM);refine gv ((zP (sz:=3) q underlying53 sizeOf26 I I oM oM).cv (show _=vP ax ((q*3+0)) from zbi (vP ax) oM)) I (zU (A:=[_]) (uB sizeOf26 (Pc.ta pH q oM) ad (bt.le (Le.q (l:=135*k2+3*m+300) oM))) λcc bp=>(go8 ?_));refine uR (A:=[]) ?_;refine gqL ((q+1),cc,h7) ?_ ?_
   · exact⟨mle,bp,oM⟩
   omega
  have fr:q=3:=by omega
  refine go6 ?_;refine zK 20 _ [] (zai 0 15 [(15,.c),(16,.q),(17,.c),(18,.q),(19,.q),(20,.t)]) yA nX (wV zot) nX (λr hr=>hr) (go1 ?_);refine wX I (xB zR pH ad) λgw ea=>(wX I (xB zR pH ad) λgu dz=>(go1 ?_));replace H:=H.mono bg;refine wX I (xB qD (y4i pH) H) λgi dk=>(go1 ?_);replace C:=C.mono bg;refine w_q I (λh' L' hh hR=>kU (y3e (y3u _) fv0 i bO) I nP (C.mono hh) (hR _ mh4) I) I (w_q I (λh' L' hh hR=>(vW (y3e (y3u _) fv0 i bO) I nP (C.mono hh) (hR _ mh4) underlying83 I sizeOf81 I).cv (show _=zI 1 U ((i*14+12)) from zbi (zI 1 U) (by show(i*14+0)+12=(i*14+12);omega))) I (tA (F:=λv_=>((((gZ (mvP mp (s.1.map (qT mp))) s.2.1 us i).getD i fv0).2).1)=v_) I (fN (xP rQ (y3e (y4u (y4i (y3u _))) fv0 i bO) I nP I C I)) (kH mh4) I ?_));intro cj dj;obtain rfl:cj=(us.getD i nV):=dj.symm.trans (by rw[dH oM]);refine w_q I (λh' L' hh hR=>(yP (q:=0) 0 (hR _ (.tail _ mh7)) underlying81 sizeOf32 I I I bO nP).cv (show _=zI 1 (us.getD i nV) 0 from zbi (zI 1 (us.getD i nV)) zoz)) I (tA (F:=λv_=>(rpS rpI).Is mq v_ ((rvL (s.2.1.getD i zA).2.1 0).getD 0 [])) I (xP fR (y3e (y3u _) [] 0 bO) I nP I cm.up I) (kH (.tail _ mh7)) I ?_);intro gh di;refine tA (F:=λv_=>AtP rpI mq v_ (((rvL (s.2.1.getD i zA).2.1 0).getD 0 []).getD 0 (0:Int))) I (sO (q:=0) (0:Int) 0 underlying32 ty3 I I di I (by rw[yAJ];omega) nP) zAL I ?_;intro gg dh;refine wX I (xA ty3 dh) λgf df=>?_;obtain⟨rfl,fm,fk⟩:=gJ df;refine tA (F:=λv_=>AtP (tPt (3*k+3*k2+l2+10)) mq v_ ((s.1.map (qT mp)).getD ((((s.2.1.getD i zA).2.1.getD 0 []).getD 0 0).toNat) zT)) I (sO zT ((((s.2.1.getD i zA).2.1.getD 0 []).getD 0 0).toNat) underlying46 zR I I dk (by rw[yAJ];omega) (by rw[zde];omega) nP) zAL I ?_;intro ge de;refine wX I (xA zR de) λgc dd=>?_;refine w_c I (sC (ev2 I I) call44 (λw hs=>tU hs dz dd oM) λgb h7 bc ap=>?_);replace ap:=Rp.Is.le ap (Le.q (l:=9*k+414*k2+3*l2+9*m+939) oM);refine wX I (xV (ρ:=(tPl (135*k2+3*m+300) (9*k+414*k2+3*l2+9*m+939))) (xE (ps':=[(0,_),(1,_)]) underlying80 sU I I (sM underlying80) e4z I (yF (yS (yE oM)) (yE oM)) (zC I (y4i (y3u _)) ea.up (zC I (y4u (y3u _)) ap zQ)))) λga dc=>?_;refine w_c I (sC (ev1 I) call64 (λw hs=>zIG hs dc oM oM) λfz h8 fp ao=>?_);replace ao:=Rp.Is.le ao (Le.p (Le.t (Le.q (l:=540*k2+12*m+1210) oM)) (Le.q (l:=9*k+549*k2+3*l2+12*m+1249) oM));replace C:=C.mono (bc.trans fp);refine w_q I (λh' L' hh hR=>kU (y3e (y3u _) fv0 i bO) I nP (C.mono hh) (hR _ mh4) I) I (w_q I (λh' L' hh hR=>(vW (y3e (y3u _) fv0 i bO) I nP (C.mono hh) (hR _ mh4) underlying83 I sizeOf80 I).cv (show _=zI 1 U ((i*14+0)) from zbi (zI 1 U) (by show(i*14+0)+0=(i*14+0);omega))) I (nW (A:=[_,_,_,_]) (F:=λc_=>RL (rpP (tPl (600*k2+20*m+2000) (600*k2+20*m+9*k+3*l2+n+2000)) (rpP rpV uP)) h8 c_ ((gZ (mvP mp (s.1.map (qT mp))) s.2.1 us i).set i (scZ ((zSJ mp (s.2.1.getD i zA).1.1 q),xO (zSJ mp (s.2.1.getD i zA).1.1 q) ((s.1.map (qT mp)).getD ((((s.2.1.getD i zA).2.1.getD 0 []).getD 0 0).toNat) zT)),((gZ (mvP mp (s.1.map (qT mp))) s.2.1 us i).getD i fv0).2))) I (sD sizeOf80 (y3e (y4i (y3u _)) fv0 i bO) I nP I I C (ao.le (Le.p (Le.t (Le.q (l:=600*k2+20*m+2000) oM)) (Le.q (l:=600*k2+20*m+9*k+3*l2+n+2000) oM))) I) ?_));intro av D;rw[show((gZ (mvP mp (s.1.map (qT mp))) s.2.1 us i).set i (scZ ((zSJ mp (s.2.1.getD i zA).1.1 q),xO (zSJ mp (s.2.1.getD i zA).1.1 q) ((s.1.map (qT mp)).getD ((((s.2.1.getD i zA).2.1.getD 0 []).getD 0 0).toNat) zT)),((gZ (mvP mp (s.1.map (qT mp))) s.2.1 us i).getD i fv0).2))=(gZ (mvP mp (s.1.map (qT mp))) s.2.1 us (i+1)) by exact yGO oM (by rw[fr];rfl)] at D ⊢;refine go8 ?_;refine gcL (ι:=Nat×List Value×Mem) (λ(k,ai,mb)=>(MLe h8 mb/\(RL (rpS rpI) mb ai (rvL (s.2.1.getD i zA).2.1 k)/\k<=(s.2.1.getD i zA).2.1.length/\(¬yU (qG mp)<0->k=0)),[(2,vP b2 0),(4,vP b4 0),(6,vI (yU (qG mp))),(7,vP b7 0),(9,vP b9 0),(11,vI ↑i),(12,zI 1 U ((i*14+0))),(17,vI ↑k)],(.var ax 53 aa::.var ce 53 aw::.var b9 56 aj::.var b7 50 O::.gs 83 14 U (gZ (mvP mp (s.1.map (qT mp))) s.2.1 us (i+1)).length av::.var b4 50 bd::.var b3 56 be::.var b2 50 bf::.gs 32 1 (us.getD i nV) (rvL (s.2.1.getD i zA).2.1 k).length ai::R2),mb,(s.2.1.getD i zA).2.1.length-k)) (0,dr,h8) ?_ ?_
  · exact⟨mle,cm.up,by omega,λ_=>I⟩
  rintro⟨k,ai,mb⟩ ⟨gn,ac,iy,iw⟩
  refine yW ?_;have ix:=(hcd0.2.1 i oM).1;have im:(rvL (s.2.1.getD i zA).2.1 k).length=(s.2.1.getD i zA).2.1.length:=oH _ _;refine go5 ?_;refine gv (kU (y3e (y3u _) fv0 i bO) I nP D.up mh4 I) I (gv ((vW (y3e (y3u _) fv0 i bO) I nP D.up mh4 underlying83 I sizeOf81 I).cv (show _=zI 1 U ((i*14+12)) from zbi (zI 1 U) (by show(i*14+0)+12=(i*14+12);omega))) I (zGQ (F:=λv_=>((((gZ (mvP mp (s.1.map (qT mp))) s.2.1 us (i+1)).getD i fv0).2).1)=v_) (fN (xP rQ (y3e (y4u (y4i (y3u _))) fv0 i bO) I nP I D.up I)) (kH mh4) I ?_));intro ci db;obtain rfl:ci=(us.getD i nV):=db.symm.trans (by rw[dH oM]);refine gv (jU (.tail _ mh7) underlying81 I) I (go1 ?_);refine gU 4 126 (vB (((↑k:Int)<(↑(rvL (s.2.1.getD i zA).2.1 k).length:Int))/\((yU (qG mp))<(0:Int)))) ?_ ?_
  ·
   refine yK ((↑k:Int)<(↑(rvL (s.2.1.getD i zA).2.1 k).length:Int)) (λhg=>?_) (λhg=>?_)
   ·
    refine gT hg I (go6 ?_);refine gqU ?_;exact y2e (wE hg)
   refine gF hg I (go4 ?_);refine gqU ?_;exact y2e (wG hg)
  refine gc2 (λbz=>?_) λbz=>?_
  ·
   refine go4 ?_;refine zK 14 _ [] (zai 0 12 [(12,.c),(13,.q),(14,.t)]) yA nX (wV zot) nX (λr hr=>hr) (go1 ?_);refine w_q I (λh' L' hh hR=>kU (y3e (y3u _) fv0 i bO) I nP (D.up.mono hh) (hR _ mh4) I) I (w_q I (λh' L' hh hR=>(vW (y3e (y3u _) fv0 i bO) I nP (D.up.mono hh) (hR _ mh4) underlying83 I sizeOf81 I).cv (show _=zI 1 U ((i*14+12)) from zbi (zI 1 U) (by show(i*14+0)+12=(i*14+12);omega))) I (tA (F:=λv_=>((((gZ (mvP mp (s.1.map (qT mp))) s.2.1 us (i+1)).getD i fv0).2).1)=v_) I (fN (xP rQ (y3e (y4u (y4i (y3u _))) fv0 i bO) I nP I D.up I)) (kH mh4) I ?_));intro ch da;obtain rfl:ch=(us.getD i nV):=da.symm.trans (by rw[dH oM]);refine go2 ?_;refine w_q I (λh' L' hh hR=>kU (y3e (y3u _) fv0 i bO) I nP (D.up.mono hh) (hR _ mh4) I) I (w_q I (λh' L' hh hR=>(vW (y3e (y3u _) fv0 i bO) I nP (D.up.mono hh) (hR _ mh4) underlying83 I sizeOf81 I).cv (show _=zI 1 U ((i*14+12)) from zbi (zI 1 U) (by show(i*14+0)+12=(i*14+12);omega))) I (tA (F:=λv_=>((((gZ (mvP mp (s.1.map (qT mp))) s.2.1 us (i+1)).getD i fv0).2).1)=v_) I (fN (xP rQ (y3e (y4u (y4i (y3u _))) fv0 i bO) I nP I D.up I)) (kH mh4) I ?_));intro cg cz;obtain rfl:cg=(us.getD i nV):=cz.symm.trans (by rw[dH oM]);refine go1 ?_;refine w_q I (λh' L' hh hR=>(yP k (hR _ (.tail _ mh7)) underlying81 sizeOf32 I I I bO nP).cv (show _=zI 1 (us.getD i nV) ((k*1+0)) from zbi (zI 1 (us.getD i nV)) zoz)) I (tA (F:=λv_=>(rpS rpI).Is mb v_ ((rvL (s.2.1.getD i zA).2.1 k).getD k [])) I (xP fR (y3e (y3u _) [] k bO) I nP I ac I) (kH (.tail _ mh7)) I ?_);intro fy cy;refine w_c I (sC (ev1 I) call65 (λw hs=>iX hs cy (by rw[zCT oM,zae (yii _)];exact zci ((hcd0.2.1 i oM).2 k oM) dC)) λfx h9 fo cw=>(w_q I (λh' L' hh hR=>(yP k (hR _ (.tail _ mh7)) underlying81 sizeOf32 I I I bO nP).cv (show _=zI 1 (us.getD i nV) ((k*1+0)) from zbi (zI 1 (us.getD i nV)) zoz)) I (nW (A:=[_,_,_,_,_,_,_,_]) (F:=λc_=>RL (rpS rpI) h9 c_ ((rvL (s.2.1.getD i zA).2.1 k).set k (zAA ((rvL (s.2.1.getD i zA).2.1 k).getD k []) ((rvL (s.2.1.getD i zA).2.1 k).getD k []).length))) I (sD sizeOf32 (y3e (y3u _) [] k bO) I nP I I ac.up cw I) ?_)));intro cb am;rw[show((rvL (s.2.1.getD i zA).2.1 k).set k (zAA ((rvL (s.2.1.getD i zA).2.1 k).getD k []) ((rvL (s.2.1.getD i zA).2.1 k).getD k []).length))=(rvL (s.2.1.getD i zA).2.1 (k+1)) by exact zVJ oM] at am ⊢;refine go8 ?_;refine gqL ((k+1),cb,h9) ?_ ?_
   · exact⟨mle,am,by omega,λe=>absurd e oM⟩
   omega
  have ek:k=(if yU (qG mp)<0 then(s.2.1.getD i zA).2.1.length else 0):=by split<;>omega
  refine go7 ?_;refine zX (A:=[_,_,_,_,_,_,_,_]) (ρ:=(rpS rpI)) ac.up ?_;intro h9 fo bk;refine go4 ?_;refine uR (A:=[]) (uR (A:=[]) ?_);refine gqL ((i+1),R2,av,h9) ?_ ?_
  · exact⟨mle,D.up,by omega,dq.up,zAX.next (MLe.refl _) ca.up (by have h:=bk;rw[ek] at h;exact h)⟩
  omega
 have ei:i=s.2.1.length:=by omega
 refine go7 ?_;rw[ei] at ca;rw[ei] at C;have dw:=yGP (G:=mvL mp) C ca;rw[show(gZ (mvP mp (s.1.map (qT mp))) s.2.1 us i).length=(s.2.1.map (mvF mp (s.1.map (qT mp)))).length by rw[eC,zde]];refine zX (A:=[_,_]) (ρ:=(tFc (600*k2+20*m+2000) (600*k2+20*m+9*k+3*l2+n+2000))) dw ?_;intro h7 bc bj;replace H:=H.mono bc;have bo:(tSd (3*k+3*k2+l2+10) (600*k2+20*m+2000) (600*k2+20*m+9*k+3*l2+n+2000) j).R h7 O ((s.1.map (qT mp)),((s.2.1.map (mvF mp (s.1.map (qT mp)))),s.2.2)):=zD8 H bj;refine lX (xB qP pH bo) λfw cu=>(zU (A:=[_,_]) (uB sizeOf50 pH co cu) λfs bn=>(go4 ?_));refine xH (qK (t:=4) qP mh2 I bn) ?_;intro fv bb bm;refine yI (λE S=>vG I bb (qQ I) E S) ?_;refine⟨_,?_,(Rp.Is.cast bm (by exact(zae bx).symm))⟩;rw[zae bx]
set_option maxHeartbeats 1000000 in
section
variable{w0:World}{h0:Mem}(hs:MLe h0 (mem w0))
include hs
theorem zWR{k m n j:Nat}{vs:Value}{s:Sq}(rs:(tSd k m n j).Is h0 vs s)(hcd0:okS s)(hcd1:1<=m)(hcd2:1<=n)(hcd3:m<=1000000)(hcd4:n<=1000000):
 Calls prog 30 #[vs] w0 (Ret w0 h0 (λh r=>(tSd k m n j).Is h r (flS s))):=by
 have dd:=hcd0.1.1.1;have dc:=hcd0.1.1.2;have db:=hcd0.1.2;refine cb1 57 vs func30 hs ?_;refine go2 ?_;refine nB rs λb1 bb bl=>(nA (ρ:=(tSd k m n j)) (X:=([],([],[]))) qC (yF wD (yF wD wD)) λb2 ba bk=>(go4 ?_));refine lX (xB qP pH bl) λv6 r6=>?_;refine uH (vs:=[_]) I I I I call62 ⟨I,y3i⟩ (λw hs=>zIL hs r6 hcd0 hcd1 hcd2) ?_;intro v7 h1 L7 df r7;obtain⟨wP,di,H,ce,us,R0,r7,rfl,⟨cu,cy,bz⟩,bg,ar,an⟩:=r7;refine zM3 (A:=[_,_]) (R:=R0) (B:=[_,_]) (nA (ρ:=(rpP rpV (rpP rpV (rpS (rpP rpI (rpP rpI (rpQ j))))))) (X:=((Value.slice none 0 0),((Value.slice none 0 0),[]))) qC (yF fG (yF fG wD)) λb3 dj bj=>(zU (A:=[]) (uB sizeOf50 pH bj r7) λO Z=>(go5 ?_)));rw[show(fvZ s.2.1 us us.length)=(flZ s.2.1 us 0) by exact fl_0 bz] at ar ⊢;refine zX (A:=[_]) (ρ:=(tPt k)) bg ?_;intro h2 cb aq;replace Z:=Z.mono cb;have C:(rpP (tLs k) (rpP rpV (rpS (rpP rpI (rpP rpI (rpQ j)))))).R h2 O (s.1,(H,s.2.2)):=zZS Z aq;refine go4 ?_;refine gcL (ι:=Nat×List Res×List Value×Mem) (λ(i,R1,aa,ma)=>(MLe h2 ma/\(RL (rpP (tPl m n) (rpP rpV uP)) ma aa (flZ s.2.1 us i)/\i<=s.2.1.length/\lQ 32 (rpS rpI) ma (us.drop i) ((lpS s.2.1).drop i) R1/\zAX ma us (λu=>rvL (s.2.1.getD u zA).2.1 (s.2.1.getD u zA).2.1.length) i),[(2,vP b2 0),(3,vP b3 0),(4,vI ↑i)],(.var b3 50 O::.gs 83 14 H (flZ s.2.1 us i).length aa::.var b2 50 ba::.var b1 50 bb::R1),ma,s.2.1.length-i)) (0,R0,ce,h2) ?_ ?_
 · exact⟨mle,ar.up,by omega,an.up,λu hu=>absurd hu (z4u u)⟩
 rintro⟨i,R1,aa,ma⟩ ⟨aw,G,de,an,ao⟩
 refine yW ?_;have dh:(flZ s.2.1 us i).length=s.2.1.length:=eG _ _ _;have cg:(flZ s.2.1 us (i+1)).length=s.2.1.length:=eG _ _ _;refine go5 ?_;replace C:=C.mono aw;refine lX (fN (xB gG (y4u (y4i pH)) C)) λcq bx=>?_;subst bx;refine gv (jU mh1 underlying47 I) I (gc3 (λay=>?_) λay=>?_)
 ·
  obtain⟨cd,R2,rfl,cw,bh,az⟩:=lQ.flip an oM oM;refine go5 ?_;refine zK 12 _ [] (zai 0 9 [(9,.c),(10,.q),(11,.q),(12,.t)]) yA nX (wV zot) nX (λr hr=>hr) (go1 ?_);refine wX I (fN (xB gG (y4u (y4i pH)) C)) λcp bw=>?_;subst bw;refine go2 ?_;refine wX I (fN (xB gG (y4u (y4i pH)) C)) λco bv=>?_;subst bv;refine go1 ?_;refine w_q I (λh' L' hh hR=>(yP i (hR _ mh1) underlying47 sizeOf83 I I I bO nP).cv (show _=zI 1 H ((i*14+0)) from zbi (zI 1 H) zoz)) I (w_q I (λh' L' hh hR=>(vW (y3e (y3u _) fv0 i bO) I nP (G.mono hh) (hR _ mh1) underlying83 I sizeOf80 I).cv (show _=zI 1 H ((i*14+0)) from zbi (zI 1 H) (by show(i*14+0)+0=(i*14+0);omega))) I (tA (F:=λv_=>(tPl m n).Is ma v_ (((flZ s.2.1 us i).getD i fv0).1)) I (xP iI (y3e (y4i (y3u _)) fv0 i bO) I nP I G I) (kH mh1) I ?_));intro cn au;refine w_c I (sC (ev1 I) call79 (λw hs=>oQ hs au oM oM) λbf h3 ac am=>?_);replace am:(tPl m n).Is h3 bf (opP (((flZ s.2.1 us i).getD i fv0).1)):=zWJ am au;refine w_q I (λh' L' hh hR=>(yP i (hR _ mh1) underlying47 sizeOf83 I I I bO nP).cv (show _=zI 1 H ((i*14+0)) from zbi (zI 1 H) zoz)) I ?_;replace G:=G.mono ac;refine w_q I (λh' L' hh hR=>(vW (y3e (y3u _) fv0 i bO) I nP (G.mono hh) (hR _ mh1) underlying83 I sizeOf80 I).cv (show _=zI 1 H ((i*14+0)) from zbi (zI 1 H) (by show(i*14+0)+0=(i*14+0);omega))) I (nW (A:=[_]) (F:=λc_=>RL (rpP (tPl m n) (rpP rpV uP)) h3 c_ ((flZ s.2.1 us i).set i (opP (((flZ s.2.1 us i).getD i fv0).1),((flZ s.2.1 us i).getD i fv0).2))) I (sD sizeOf80 (y3e (y4i (y3u _)) fv0 i bO) I nP I I G am I) ?_);intro ad D;rw[show((flZ s.2.1 us i).set i (opP (((flZ s.2.1 us i).getD i fv0).1),((flZ s.2.1 us i).getD i fv0).2))=(flZ s.2.1 us (i+1)) by exact yGW oM] at D ⊢;refine go8 ?_;refine gcL (ι:=Nat×List Value×Mem) (λ(k,M,mb)=>(MLe h3 mb/\(RL (rpS rpI) mb M (rvL (s.2.1.getD i zA).2.1 k)/\k<=(s.2.1.getD i zA).2.1.length),[(2,vP b2 0),(3,vP b3 0),(4,vI ↑i),(5,vI ↑k)],(.var b3 50 O::.gs 83 14 H (flZ s.2.1 us (i+1)).length ad::.var b2 50 ba::.var b1 50 bb::.gs 32 1 (us.getD i nV) (rvL (s.2.1.getD i zA).2.1 k).length M::R2),mb,(s.2.1.getD i zA).2.1.length-k)) (0,cd,h3) ?_ ?_
  · exact⟨mle,bh.up,oM⟩
  rintro⟨k,M,mb⟩ ⟨av,J,da⟩
  refine yW ?_;have cz:=(hcd0.2.1 i oM).1;have ct:(rvL (s.2.1.getD i zA).2.1 k).length=(s.2.1.getD i zA).2.1.length:=oH _ _;refine go5 ?_;replace C:=C.mono (ac.trans av);refine lX (fN (xB gG (y4u (y4i pH)) C)) λcm bu=>?_;subst bu;refine go1 ?_;refine gv ((yP i mh1 underlying47 sizeOf83 I I I bO nP).cv (show _=zI 1 H ((i*14+0)) from zbi (zI 1 H) zoz)) I (gv ((vW (y3e (y3u _) fv0 i bO) I nP D.up mh1 underlying83 I sizeOf81 I).cv (show _=zI 1 H ((i*14+12)) from zbi (zI 1 H) (by show(i*14+0)+12=(i*14+12);omega))) I (zGQ (F:=λv_=>((((flZ s.2.1 us (i+1)).getD i fv0).2).1)=v_) (fN (xP rQ (y3e (y4u (y4i (y3u _))) fv0 i bO) I nP I D.up I)) (kH mh1) I ?_));intro be bt;obtain rfl:be=(us.getD i nV):=bt.symm.trans (by rw[zAT oM]);refine gv (jU mh4 underlying81 I) I (gc3 (λax=>?_) λax=>?_)
  ·
   refine go4 ?_;refine zK 18 _ [] (zai 0 16 [(16,.c),(17,.q),(18,.t)]) yA nX (wV zot) nX (λr hr=>hr) (go1 ?_);refine wX I (fN (xB gG (y4u (y4i pH)) C)) λcl bs=>?_;subst bs;refine go1 ?_;refine w_q I (λh' L' hh hR=>(yP i (hR _ mh1) underlying47 sizeOf83 I I I bO nP).cv (show _=zI 1 H ((i*14+0)) from zbi (zI 1 H) zoz)) I (w_q I (λh' L' hh hR=>(vW (y3e (y3u _) fv0 i bO) I nP (D.up.mono hh) (hR _ mh1) underlying83 I sizeOf81 I).cv (show _=zI 1 H ((i*14+12)) from zbi (zI 1 H) (by show(i*14+0)+12=(i*14+12);omega))) I (tA (F:=λv_=>((((flZ s.2.1 us (i+1)).getD i fv0).2).1)=v_) I (fN (xP rQ (y3e (y4u (y4i (y3u _))) fv0 i bO) I nP I D.up I)) (kH mh1) I ?_));intro bd br;obtain rfl:bd=(us.getD i nV):=br.symm.trans (by rw[zAT oM]);refine go2 ?_;refine wX I (fN (xB gG (y4u (y4i pH)) C)) λck bq=>?_;subst bq;refine go1 ?_;refine w_q I (λh' L' hh hR=>(yP i (hR _ mh1) underlying47 sizeOf83 I I I bO nP).cv (show _=zI 1 H ((i*14+0)) from zbi (zI 1 H) zoz)) I (w_q I (λh' L' hh hR=>(vW (y3e (y3u _) fv0 i bO) I nP (D.up.mono hh) (hR _ mh1) underlying83 I sizeOf81 I).cv (show _=zI 1 H ((i*14+12)) from zbi (zI 1 H) (by show(i*14+0)+12=(i*14+12);omega))) I (tA (F:=λv_=>((((flZ s.2.1 us (i+1)).getD i fv0).2).1)=v_) I (fN (xP rQ (y3e (y4u (y4i (y3u _))) fv0 i bO) I nP I D.up I)) (kH mh1) I ?_));intro bc bp;obtain rfl:bc=(us.getD i nV):=bp.symm.trans (by rw[zAT oM]);refine go1 ?_;refine w_q I (λh' L' hh hR=>(yP k (hR _ mh4) underlying81 sizeOf32 I I I bO nP).cv (show _=zI 1 (us.getD i nV) ((k*1+0)) from zbi (zI 1 (us.getD i nV)) zoz)) I (tA (F:=λv_=>(rpS rpI).Is mb v_ ((rvL (s.2.1.getD i zA).2.1 k).getD k [])) I (xP fR (y3e (y3u _) [] k bO) I nP I J I) (kH mh4) I ?_);intro cj bo;refine w_c I (sC (ev1 I) call65 (λw hs=>iX hs bo (by rw[zCT oM,zae (yii _)];exact zci ((hcd0.2.1 i oM).2 k oM) dC)) λci h4 ca bn=>(w_q I (λh' L' hh hR=>(yP k (hR _ mh4) underlying81 sizeOf32 I I I bO nP).cv (show _=zI 1 (us.getD i nV) ((k*1+0)) from zbi (zI 1 (us.getD i nV)) zoz)) I (nW (A:=[_,_,_,_]) (F:=λc_=>RL (rpS rpI) h4 c_ ((rvL (s.2.1.getD i zA).2.1 k).set k (zAA ((rvL (s.2.1.getD i zA).2.1 k).getD k []) ((rvL (s.2.1.getD i zA).2.1 k).getD k []).length))) I (sD sizeOf32 (y3e (y3u _) [] k bO) I nP I I J.up bn I) ?_)));intro ap U;rw[show((rvL (s.2.1.getD i zA).2.1 k).set k (zAA ((rvL (s.2.1.getD i zA).2.1 k).getD k []) ((rvL (s.2.1.getD i zA).2.1 k).getD k []).length))=(rvL (s.2.1.getD i zA).2.1 (k+1)) by exact zVJ oM] at U ⊢;refine go8 ?_;refine gqL ((k+1),ap,h4) ?_ ?_
   · exact⟨mle,U,oM⟩
   omega
  have ek:k=(s.2.1.getD i zA).2.1.length:=by omega
  refine go7 ?_;refine zX (A:=[_,_,_,_]) (ρ:=(rpS rpI)) J.up ?_;intro h4 ca ah;refine go4 ?_;refine gqL ((i+1),R2,ad,h4) ?_ ?_
  · exact⟨mle,D.up,by omega,az.up,zAX.next (MLe.refl _) ao.up (by have h:=ah;rw[ek] at h;exact h)⟩
  omega
 have ei:i=s.2.1.length:=by omega
 refine go7 ?_;rw[ei] at ao;rw[ei] at G;have bi:=yGX G ao;rw[show(flZ s.2.1 us i).length=(s.2.1.map fcS).length by rw[eG,zde]];refine zX (A:=[_]) (ρ:=(tFc m n)) bi ?_;intro h3 ac ae;replace C:=C.mono ac;have ak:(tSd k m n j).R h3 O (s.1,((s.2.1.map fcS),s.2.2)):=zD8 C ae;refine lX (xB qP pH ak) λch bm=>(zU (A:=[_]) (uB sizeOf50 pH bk bm) λcc aj=>(go3 ?_));refine xH (qK (t:=2) qP mh1 I aj) ?_;intro cf ab ai;refine yI (λE S=>zS I ab E S) ?_;exact ai
theorem zHY{v:Value}{X:Nat}(hv:Us .u32 h0 v (zB X))(hl:(zB X).length<=1000):
 Calls prog 97 #[v] w0 (Ret w0 h0 (λh r=>Us .u32 h r (zB (sqN X)))):=by
 have bp:=zB5;have br:=zG4 X;have av:=zSP hl;refine cb1 42 v func97 hs ?_;refine go9 ?_;refine cL (ev1 I) call94 (λw hs=>bU hs hv oM) λbl h1 bd Z=>?_
 try simp only[zE] at Z
 subst Z;refine gc3 (λJ=>?_) λJ=>?_
 ·
  refine go7 ?_;refine zF I I ?_;rw[zVQ J];exact Us.nil _ _
 have hX:X≠0:=λe=>J (by rw[e,zG5];rfl);refine go4 ?_;refine zH (fI (kd:=.u32) (p:=1) underlying22 vN I I I) I I I ?_;intro bk bn ae;obtain rfl:=ae;refine yN (by intro z hz;simp only[zpe] at hz;subst hz;decide) ?_;intro h2 bc D;rw[cX] at D;refine go1 ?_;replace hv:=hv.mono (bd.trans bc);refine cL (ev1 I) call94 (λw hs=>bU hs hv oM) λbj h3 ao U=>?_
 try simp only[zE] at U
 subst U;refine go1 ?_;refine gv (mH (q:=2) I I oM oM oM) I ?_;replace D:=D.mono ao;refine cL (ev2 I I) call95 (λw hs=>mO hs D oM oM oM) λbi h4 bb ad=>?_;obtain⟨ar,rfl,G⟩:=ad
 try simp only[zE] at G
 rw[zLF hl] at G;refine go8 ?_;refine kQ (ι:=Nat×Value×Mem) (λ(x,vx,m)=>MLe h4 m/\(Us .u32 m vx (zB x)/\sqN X<=x/\0<x/\(zB x).length<=1001)) (λ(x,vx,m)=>[(0,v),(3,vx)]) (λ(x,vx,m)=>[]) (λ(x,vx,m)=>m) (λ(x,vx,m)=>x) ((2^((wU X+1)/2)),ar,h4) ?_ e2z I I ?_
 ·
  refine⟨MLe.refl _,?_⟩;exact⟨G,zKA X,zqu oM,av⟩
 rintro⟨x,vx,m⟩ ⟨ah,hx,aj,hi2,ba⟩
 refine yW ?_;refine go5 ?_;replace hv:=hv.mono ((ao.trans bb).trans ah);refine cL (ev2 I I) call147 (λw hs=>w4 hs hv hx oM oM) λbh h5 an H=>?_;obtain⟨bo,bm,rfl,aa,H⟩:=H
 try simp only[zE] at aa H ⊢
 have az:=zW (zki ((X)) ((x)));refine pV ?_;replace hx:=hx.mono an;refine cL (ev2 I I) call100 (λw hs=>nD hs hx aa oM oM) λbg h6 am O=>?_
 try simp only[zE] at O
 have ay:=uW ((x)) (((((X))/((x)))));have bq:=zW (zki X x);have bs:=uW x (X/x);refine cL (vs:=[_,vI (-1)]) e2z call95 (λw hs=>mO hs O oM oM oM) λbf h7 ak ac=>?_;obtain⟨aq,rfl,C⟩:=ac
 try simp only[zE] at C
 rw[zOA] at C;refine jF ?_;replace hx:=hx.mono (am.trans ak);refine cL (ev2 I I) call98 (λw hs=>w5 hs C hx) λbe h8 ab M=>?_
 try simp only[zE] at M
 subst M;refine gc3 (λap=>?_) λap=>?_
 ·
  have au:=zMJ hi2 aj (by have:=fZ (m:=(x+X/x)/2) (n:=x);omega);refine jI ?_;refine zF I I ?_;replace hx:=hx.mono ab;rw[<-au];exact hx
 refine go7 ?_;have ai:=fZ.1 (show sZ ((x+X/x)/2) x<0 by omega);have ax:=zW (ydu ai);have aw:=zTL (n:=X) hi2;refine jM (((x+X/x)/2),aq,h8) ?_ ?_ e2z I I
 ·
  refine⟨((((ah.trans an).trans am).trans ak).trans ab),?_⟩;replace C:=C.mono ab;refine⟨C,aw,?_,zci ax ba⟩;refine zfe λe=>?_;have:=zMI hi2 aj e;omega
 dsimp only;exact ai
theorem zDV{q:Rat}{vn vd:Value}(hn:Us .u32 h0 vn (zB q.num.natAbs))(hd:Us .u32 h0 vd (zB (wM q.den))){K:Nat}(hK:K<=4096)(hl:lq q<=500):
 Calls prog 96 #[.agg #[vB (q.num<0),vn,vd],vI ↑K] w0 (Ret w0 h0 (λh r=>∃u,r=.tuple #[u,vB (zGB q K)]/\Us .u32 h u (zB (flN q K)))):=by
 obtain⟨ar,aq,ap⟩:=s9 hl hK;have aw:=wT q;have ax:=wQ q;have au:=zVS (q.num.natAbs*2^K*2^K) q.den;have av:=zW (zki (q.num.natAbs*2^K*2^K) (wM q.den));refine cb2 38 (.agg #[vB (q.num<0),vn,vd]) (vI ↑K) func96 hs ?_;refine go2 ?_;refine zH (xS (cs:=[_,_,_]) I I) I I I ?_;intro v2 r2 ak;obtain⟨b2,rfl,rfl⟩:=ak;refine zX3 ?_;refine gN (go2 ?_);refine gv (OpV.tr dC (yH (q:=2) I I)) I (jI ?_);refine cL (ev2 I I) call95 (λw hs=>mO hs hn oM oM oM) λad h1 ao U=>?_;obtain⟨ah,rfl,H⟩:=U
 try simp only[zE] at H
 rw[zJJ _ _ hK] at H;refine go8 ?_;refine gv ((zV (q:=1) I I oM oM).cv (show _=vI (1) from I)) I (go2 ?_);refine xM (go2 ?_);refine gv (OpV.tr dC (yH (q:=2) I I)) I (jI ?_);refine cL (ev2 I I) call95 (λw hs=>mO hs H oM oM oM) λac h2 an O=>?_;obtain⟨ae,rfl,D⟩:=O
 try simp only[zE] at D
 rw[zJJ _ _ hK] at D;refine go8 ?_;refine gv ((zV (q:=1) I I oM oM).cv (show _=vI (2) from I)) I (go2 ?_);refine xM (go2 ?_);refine gv (OpV.fa dC (yH (q:=2) I I)) I ?_;replace hd:=hd.mono (ao.trans an);refine zX3 ?_;refine cnd (λM=>?_) λM=>?_
 ·
  refine go9 ?_;refine uQ I I I ?_;have e:=(eH q.den_nz).1 (zGK.1 M);rw[yZ (λh=>h (by rw[e,Nat.mod_one])),show flN q K=q.num.natAbs*2^K*2^K by unfold flN;rw[e,z2e]];exact⟨_,I,D⟩
 refine go7 ?_;refine cL (ev2 I I) call147 (λw hs=>w4 hs D hd oM oM) λab h3 ay G=>?_;obtain⟨aj,ai,rfl,C,G⟩:=G
 try simp only[zE] at C G ⊢
 have Z:=zW (zki ((((((((q.num.natAbs))*2^K)))*2^K))) (((wM q.den))));refine pV ?_;refine cL (ev1 I) call94 (λw hs=>bU hs G oM) λaa h4 am J=>?_
 try simp only[zE] at J
 subst J;refine go6 ?_;refine uQ I I I ?_;replace C:=C.mono am;have e:wM q.den=q.den:=aN (λh=>M (by rw[h,bZ,yY];rfl));rw[show wM q.den=q.den from e] at C;refine⟨_,zbi (λz=>Value.tuple #[_,z]) (tZ ?_),C⟩;rw[e,zae q.den_nz];unfold zGB;have:=fM (n:=q.num.natAbs*2^K*2^K%q.den);omega
theorem zN7{k:Nat}{vs:Value}{s:(Rat×Rat)}(rs:(rpP (rpQ k) (rpQ k)).Is h0 vs s){n:Int}(hn1:-9223372036854775808<=n)(hn2:n<9223372036854775808)(hcd0:k<=500):
 Calls prog 52 #[vs,vI n] w0 (Ret w0 h0 (λh r=>∃u0,r=.tuple #[u0,vI (rtE s.2)]/\(rpP (rpQ (k+140)) (rpQ (k+140))).Is h u0 (zSV s.1 s.2 n,zCU s.2 n))):=by
 have fl:=zB5;have ba:kN n<=4096:=by unfold kN;omega
 have fm:=zJQ ba;obtain⟨bk,bj⟩:=zZ7 rs;obtain⟨ed,ec⟩:=yF6 bk n;obtain⟨ef,ee⟩:=zXM bj n;obtain⟨eb,ea,dz⟩:=s9 bk ba;obtain⟨dy,dx,dw⟩:=s9 bj ba;have fj:=zW (zE9 (flN s.2 (kN n)));have fk:=zW (zE9 (flN s.1 (kN n)));refine cb2 83 vs (vI n) func52 hs ?_;refine go2 ?_;refine nB rs λb2 bw O=>(nA (ρ:=(rpP (rpQ (k+140)) (rpQ (k+140)))) (X:=((0:Rat),(0:Rat))) tP (yF (yE oM) (yE oM)) λb4 bv ad=>(go7 ?_));refine lX (xB yJ (y4u pH) O) λfe dj=>(cL (ev1 I) call51 (λw hs=>zAF hs dj oM) λcy h1 bb di=>?_);obtain rfl:cy=vI (yU s.2):=di;have dl:=xW s.2;refine gc3 (λaq=>?_) λaq=>?_
 ·
  have J:=qX.1 aq;refine go2 ?_;refine lX (xV (ρ:=(rpP (rpQ 1) (rpQ 1))) (xE (ps':=[]) underlying34 tP I I (mF underlying34) trivial I (yF (yE dC) (yE dC)) zQ)) λfd dh=>?_;replace ad:=ad.mono bb;refine zU (A:=[]) (uB sizeOf34 pH ad (dh.le (Le.p (Le.q (l:=k+140) oM) (Le.q (l:=k+140) oM)))) λei ca=>(go5 ?_);refine xH (qK (t:=4) zK6 mh0 I ca) ?_;intro el bq bz;refine yI (λE S=>vG I bq (qQ I) E S) ?_;refine⟨_,?_,(Rp.Is.cast bz (by unfold zSV zCU;rw[zau J,zau J]))⟩;unfold rtE;rw[zau J]
 have J:¬s.2<0:=λe=>aq (qX.2 e);refine go5 ?_;refine gv (zLY (q:=0) I I) I (gv (zWE (q:=4096) I I) I ?_);rw[show min (max n 0) 4096=(↑(kN n):Int) by unfold kN;omega];refine go5 ?_;refine zH (fI (kd:=.u32) (p:=1) underlying22 vN I I I) I I I ?_;intro fc fi cl;obtain rfl:=cl;refine yN (by intro z hz;simp only[zpe] at hz;subst hz;decide) ?_;intro h2 bu ak;rw[cX] at ak;refine go1 ?_;refine cL (ev2 I I) call95 (λw hs=>mO hs ak oM oM oM) λfb h3 bt ck=>?_;obtain⟨ai,rfl,G⟩:=ck
 try simp only[zE] at G
 rw[zJJ _ _ ba,yfi] at G;refine jF ?_;refine jC (ι:=Value×Mem) (λ(v8,m1)=>MLe h3 m1/\(Us .u32 m1 v8 (zB (loN s.1 (kN n))))) (λ(v8,m1)=>[(1,vI ↑(kN n)),(2,vP b2 0),(4,vP b4 0),(6,ai),(8,v8)]) (λ(v8,m1)=>[.var b4 34 bv,.var b2 34 bw]) (λ(v8,m1)=>m1) ?_ ?_
 ·
  refine go3 ?_;replace O:=O.mono ((bb.trans bu).trans bt);refine lX (xB yJ (y4i pH) O) λfa df=>(cL (ev1 I) call51 (λw hs=>zAF hs df oM) λcw h4 Z de=>?_);obtain rfl:cw=vI (yU s.1):=de;have dk:=xW s.1;refine gc3 (λap=>?_) λap=>?_
  ·
   refine go3 ?_;replace O:=O.mono Z;refine lX (xB yJ (y4i pH) O) λez dd=>(go1 ?_);obtain⟨cp,ct,ax,az,bd,cn⟩:=qR dd;subst ax;refine cL (ev2 I I) call96 (λw hs=>zDV hs az bd oM oM) λey h5 ah cj=>?_;obtain⟨fg,rfl,cd⟩:=cj;refine go9 ?_;refine cL (ev1 I) call97 (λw hs=>zHY hs cd oM) λcv h6 M ci=>(go2 ?_);refine zY (cv,h6) ?_ e5 I I;refine⟨((Z.trans ah).trans M),?_⟩;have e:loN s.1 (kN n)=sqN (flN s.1 (kN n)):=zau ap;rw[e];exact ci
  refine go1 ?_;refine zY ((.slice none 0 0),h4) ?_ e5 I I;refine⟨Z,?_⟩;have e:loN s.1 (kN n)=0:=zae ap;rw[e,yY];exact Us.nil _ _
 rintro⟨v8,m1⟩ ⟨an,av⟩
 refine yW ?_;refine go3 ?_;replace O:=O.mono (((bb.trans bu).trans bt).trans an);refine lX (xB yJ (y4u pH) O) λew dc=>(go1 ?_);obtain⟨co,cq,aw,ay,bc,cm⟩:=qR dc;subst aw;refine cL (ev2 I I) call96 (λw hs=>zDV hs ay bc oM oM) λev h4 Z ch=>?_;obtain⟨ff,rfl,ab⟩:=ch;refine qE ?_;refine cL (ev1 I) call97 (λw hs=>zHY hs ab oM) λbx h5 ah H=>(go3 ?_);refine jC (ι:=Value×Mem) (λ(U,m2)=>MLe h5 m2/\(Us .u32 m2 U (zB (hiN s.2 (kN n))))) (λ(U,m2)=>[(4,vP b4 0),(6,ai),(8,v8),(13,U)]) (λ(U,m2)=>[.var b4 34 bv,.var b2 34 bw]) (λ(U,m2)=>m2) ?_ ?_
 ·
  refine go3 ?_;refine qM (ι:=Mem) 8 (λm_=>MLe h5 m_) (λ_=>[(62,vB ((zGB s.2 (kN n))\/((sZ ((((((sqN ((flN s.2 (kN n))))))*(((sqN ((flN s.2 (kN n))))))))) (((flN s.2 (kN n)))))<(0:Int)))),(4,vP b4 0),(6,ai),(8,v8),(13,bx)]) (λ_=>[.var b4 34 bv,.var b2 34 bw]) (λm_=>m_) ?_ ?_
  ·
   refine yK (zGB s.2 (kN n)) (λhg=>?_) (λhg=>?_)
   ·
    refine gT hg I (go8 ?_);refine zY h5 (MLe.refl _) ⟨?_,I,I,I,I,y3i⟩ I I;exact y2e (uL hg)
   refine gF hg I (go5 ?_);refine cL (ev2 I I) call99 (λw hs=>sH hs H H oM oM) λeu h6 M bg=>?_
   try simp only[zE] at bg
   have dn:=yM (((sqN ((flN s.2 (kN n)))))) (((sqN ((flN s.2 (kN n))))));refine go3 ?_;replace ab:=ab.mono (ah.trans M);refine cL (ev2 I I) call98 (λw hs=>w5 hs bg ab) λes h7 ae bf=>?_
   try simp only[zE] at bf
   subst bf;refine go4 ?_;refine zY h7 (M.trans ae) ⟨?_,I,I,I,I,y3i⟩ I I;exact y2e (uM hg)
  intro ar D;refine rN ?_;refine gc2 (λao=>?_) λao=>?_
  ·
   refine go2 ?_;refine zH (fI (kd:=.u32) (p:=1) underlying22 vN I I I) I I I ?_;intro er fh cg;obtain rfl:=cg;refine yN (by intro z hz;simp only[zpe] at hz;subst hz;decide) ?_;intro h6 M ac;rw[cX] at ac;replace H:=H.mono (D.trans M);refine cL (ev2 I I) call100 (λw hs=>nD hs H ac oM oM) λcu h7 ae be=>?_
   try simp only[zE] at be
   have dm:=uW (((sqN ((flN s.2 (kN n)))))) ((1));refine go2 ?_;refine zY (cu,h7) ?_ e4z I I;refine⟨((D.trans M).trans ae),?_⟩;have e:hiN s.2 (kN n)=sqN (flN s.2 (kN n))+1:=zau ao;rw[e];exact be
  refine go1 ?_;refine zY (bx,ar) ?_ e4z I I;refine⟨D,?_⟩;replace H:=H.mono D;have e:hiN s.2 (kN n)=sqN (flN s.2 (kN n)):=zae ao;rw[e];exact H
 rintro⟨U,m2⟩ ⟨am,aa⟩
 refine yW ?_;refine go4 ?_;replace G:=G.mono (((an.trans Z).trans ah).trans am);replace av:=av.mono ((Z.trans ah).trans am);refine gv (yV (ps':=[(1,_),(2,_)]) (vs:=[.bool false,v8,ai]) underlying26 yR I (uE underlying26) e4z (xN (A:=[_]) (B:=[_]) (C:=[_]) (cs:=[_]) (off:=1) (size:=1) I I I I av.cells (xN (A:=[_,_]) (B:=[_]) (C:=[]) (cs:=[_]) (off:=2) (size:=1) I I I I G.cells uT))) I (cL (ev1 I) call101 (λw hs=>zLT hs (yZ (p:=False) id).symm av G oM oM) λeq h6 M cf=>?_);obtain⟨_,rfl,dt,dv,rfl,bi,bm⟩:=cf;have bs:=zRL (False) (zB (loN s.1 (kN n))) (zB (2^kN n));rw[zQ8] at bi bm bs ⊢;refine go3 ?_;refine nA (ρ:=(rpQ (k+140))) (X:=(0:Rat)) yR (yE oM) λfp ek cc=>(zU (A:=[]) (uB sizeOf26 pH cc (mS ⟨_,_,I,bi,bm⟩ oM)) λeh aj=>(go7 ?_));replace G:=G.mono M;replace aa:=aa.mono M;refine gv (yV (ps':=[(1,_),(2,_)]) (vs:=[.bool false,U,ai]) underlying26 yR I (uE underlying26) e4z (xN (A:=[_]) (B:=[_]) (C:=[_]) (cs:=[_]) (off:=1) (size:=1) I I I I aa.cells (xN (A:=[_,_]) (B:=[_]) (C:=[]) (cs:=[_]) (off:=2) (size:=1) I I I I G.cells uT))) I (cL (ev1 I) call101 (λw hs=>zLT hs (yZ (p:=False) id).symm aa G oM oM) λep h7 ae ce=>?_);obtain⟨_,rfl,dr,du,rfl,bh,bl⟩:=ce;have br:=zRL (False) (zB (hiN s.2 (kN n))) (zB (2^kN n));rw[zQ8] at bh bl br ⊢;refine go3 ?_;refine nA (ρ:=(rpQ (k+140))) (X:=(0:Rat)) yR (yE oM) λfo ej cb=>(zU (A:=[]) (uB sizeOf26 pH cb (mS ⟨_,_,I,bh,bl⟩ oM)) λeg bp=>(go5 ?_));replace aj:=aj.mono ae;refine lX (xB yJ pH aj) λeo db=>(lX (xB yJ pH bp) λen da=>(lX (xV (ρ:=(rpP (rpQ (k+140)) (rpQ (k+140)))) (xE (ps':=[(0,_),(1,_)]) underlying34 tP I I (mF underlying34) e4z I (yF (yE oM) (yE oM)) (zC I (y4i (y3u _)) db (zC I (y4u (y3u _)) da zQ)))) λem cz=>?_));replace ad:=ad.mono ((((((((bb.trans bu).trans bt).trans an).trans Z).trans ah).trans am).trans M).trans ae);refine zU (A:=[_,_]) (uB sizeOf34 pH ad cz) λdp bo=>(go4 ?_);refine xH (qK (t:=4) zK6 mh2 I bo) ?_;intro dq au bn;refine yI (λE S=>vG I au (qQ I) E S) ?_;refine⟨_,?_,(Rp.Is.cast bn (by unfold zSV;rw[zae J,<-yI8,yC0 J]))⟩;unfold rtE;rw[zae J]
theorem zJY{k:Nat}{va:Value}{a:Rat}(ra:(rpQ k).Is h0 va a)(hcd0:k<=4000000000):
 Calls prog 53 #[va] w0 (Ret w0 h0 (λh r=>(rpP (rpQ k) (rpQ k)).Is h r (a,a))):=by
 obtain⟨G,H,rfl,C,D,J⟩:=qR ra;exact(zN8 hs C D oM).mono (kC λh r x=>yCX x oM oM)
theorem zO9{k l:Nat}{va:Value}{a:(Rat×Rat)}(ra:(rpP (rpQ k) (rpQ k)).Is h0 va a){vb:Value}{b:(Rat×Rat)}(rb:(rpP (rpQ l) (rpQ l)).Is h0 vb b)(hcd0:k+l<=4000000000):
 Calls prog 89 #[va,vb] w0 (Ret w0 h0 (λh r=>(rpP (rpQ (k+l+1)) (rpQ (k+l+1))).Is h r (addS a b))):=by
 obtain⟨ac,ai,ab,ah,rfl,H,U,G,O,an,am⟩:=zQ4 ra;obtain⟨aa,ae,Z,ad,rfl,D,M,C,J,ak,aj⟩:=zQ4 rb;exact(zU2 hs H U G O D M C J oM oM oM oM).mono (kC λh r x=>yCX x (by have:=kW a.1 b.1;have:=kW a.2 b.2;omega) (by have:=kW a.1 b.1;have:=kW a.2 b.2;omega))
theorem iY{k:Nat}{va:Value}{a:Rat}(ra:(rpQ k).Is h0 va a){n:Int}(hn1:-9223372036854775808<=n)(hn2:n<9223372036854775808)(hcd0:k<=400):
 Calls prog 13 #[va,vI n] w0 (Ret w0 h0 (λh r=>∃u0,r=.tuple #[u0,vB (zMP a n)]/\(rpP (rpQ (k+140)) (rpQ (k+140))).Is h u0 (dB a n,dD a n))):=by
 refine cb2 37 va (vI n) func13 hs ?_;refine go2 ?_;refine nB ra λb2 bs ae=>(nA (ρ:=(rpP (rpQ (k+140)) (rpQ (k+140)))) (X:=((0:Rat),(0:Rat))) tP (yF (yE oM) (yE oM)) λb4 br ad=>(go6 ?_));refine lX (xB yJ pH ae) λv8 r8=>(cL (ev1 I) call51 (λw hs=>zAF hs r8 oM) λv9 h1 bp r9=>?_);obtain rfl:v9=vI (yU a):=r9;have az:=xW a;refine go1 ?_;refine gU 4 14 (vB (((yU a)<(0:Int))\/(n<(0:Int)))) ?_ ?_
 ·
  refine yK ((yU a)<(0:Int)) (λH=>?_) (λH=>?_)
  ·
   refine gT H I (go4 ?_);refine gqU ?_;exact y2e (uL H)
  refine gF H I (go6 ?_);refine gqU ?_;exact y2e (uM H)
 refine gU 4 18 (vB ((((yU a)<(0:Int))\/(n<(0:Int)))\/((64:Int)<n))) ?_ ?_
 ·
  refine yK (((yU a)<(0:Int))\/(n<(0:Int))) (λH=>?_) (λH=>?_)
  ·
   refine gT H I (go4 ?_);refine gqU ?_;exact y2e (uL H)
  refine gF H I (go6 ?_);refine gqU ?_;exact y2e (uM H)
 refine gc2 (λC=>?_) λC=>?_
 ·
  refine go2 ?_;refine lX (xV (ρ:=(rpP (rpQ 1) (rpQ 1))) (xE (ps':=[]) underlying34 tP I I (mF underlying34) trivial I (yF (yE dC) (yE dC)) zQ)) λbi ar=>(zU (A:=[]) (uB sizeOf34 pH ad (ar.le (Le.p (Le.q (l:=k+140) oM) (Le.q (l:=k+140) oM)))) λaw ac=>(go5 ?_));refine xH (qK (t:=4) zK6 mh0 I ac) ?_;intro ay M aa;refine yI (λE S=>vG I M (qQ I) E S) ?_;refine⟨_,?_,(Rp.Is.cast aa (by rw[(zW4 C).1,(zW4 C).2.1]))⟩;rw[yZ (zW4 C).2.2]
 obtain⟨y1,y2,y3,y4⟩:=zGA C;obtain⟨bj,bk⟩:=yI9 C;refine go4 ?_;refine lX (xB yJ pH ae) λbh aq=>(cL (ev1 I) call53 (λw hs=>zJY hs aq oM) λbg h2 bo ap=>(go1 ?_));refine cL (ev2 I I) call52 (λw hs=>zN7 hs ap oM oM oM) λbf h3 bn ao=>?_;obtain⟨U,rfl,G⟩:=ao
 change (rpP (rpQ (k+140)) (rpQ (k+140))).Is h3 U (zSV (a,a).1 (a,a).2 n,zCU (a,a).2 n) at G
 refine go3 ?_;refine nA (ρ:=(rpP (rpQ (k+140)) (rpQ (k+140)))) (X:=((0:Rat),(0:Rat))) tP (yF (yE oM) (yE oM)) λb6 bq ah=>(zU (A:=[]) (uB sizeOf34 pH ah G) λav D=>(u6 (λO=>?_) λO=>?_))
 · exact absurd (zae y3) O
 refine go3 ?_;refine zK 7 _ [] [(0,.q),(1,.q),(3,.q),(4,.q),(2,.c),(5,.c),(6,.q),(7,.t),(8,.t)] yA nX zot nX (λr hr=>hr) (go1 ?_);refine wX I (xB yJ (y4i pH) D) λbe an=>(go1 ?_);refine wX I (xB yJ (y4u pH) D) λbc ak=>?_;refine w_c I (sC (ev1 I) call54 (λw hs=>zIN hs an oM) λbd h4 bm am=>?_);refine w_c I (sC (ev1 I) call54 (λw hs=>zIN hs ak.up oM) λbb h5 bl aj=>(wX I (xV (ρ:=(rpP (rpQ (k+140)) (rpQ (k+140)))) (xE (ps':=[(0,_),(1,_)]) underlying34 tP I I (mF underlying34) e4z I (yF (yE oM) (yE oM)) (zC I (y4i (y3u _)) am.up (zC I (y4u (y3u _)) aj zQ)))) λba ai=>(yG (A:=[_]) I (uB sizeOf34 pH ad ai) λau ab=>(dT I (tX I) I (go3 ?_)))));refine xH (qK (t:=4) zK6 mh1 I ab) ?_;intro ax J Z;refine yI (λE S=>vG I J (qQ I) E S) ?_;refine⟨_,?_,(Rp.Is.cast Z (by rw[y1,y2];exact zbi (λz=>(z,zCU a n)) (yIW n y3)))⟩;rw[wB y4]
theorem zF2{k m n j:Nat}{vs:Value}{s:Sq}(rs:(tSd k m n j).Is h0 vs s){vlz:Value}{lz:(List Int)}(rlz:(rpS rpI).Is h0 vlz lz)(hcd0:lz.length=3)(hcd1:∀u,u<3->inR s (lz.getD u 0)):
 Calls prog 113 #[vs,vlz] w0 (Ret w0 h0 (λh r=>∃u0,r=.tuple #[u0,vB (True)]/\(rpT (tPt (k+1))).Is h u0 (cnT s lz))):=by
 refine cb2 35 vs vlz func113 hs ?_;refine go2 ?_;refine nB rs λb2 aq U=>(nA (ρ:=(rpT (tPt (k+1)))) (X:=(T3.mk zT zT zT)) aL (yS (yS (yE oM))) λb4 ap ae=>(go5 ?_));refine nA (ρ:=(rpT (tPt (k+1)))) (X:=(T3.mk zT zT zT)) aL (yS (yS (yE oM))) λb6 ao ad=>(jI ?_);refine gcL (ι:=Nat×List Value×Mem) (λ(i,C,Z)=>(MLe h0 Z/\((rpT (tPt (k+1))).R Z C (yJM s lz i)/\i<=3),[(2,vP b2 0),(4,vP b4 0),(6,vP b6 0),(9,vlz),(10,vI (↑(lz).length:Int)),(11,vI ↑i)],[.var b6 108 C,.var b4 108 ap,.var b2 50 aq],Z,3-i)) (0,ao,h0) ?_ ?_
 · exact⟨mle,ad,oM⟩
 rintro⟨i,C,Z⟩ ⟨au,D,aa⟩
 refine yW ?_;have bi:=aa;refine gc6 (λab=>?_) λab=>?_
 ·
  obtain⟨bh,bg⟩:=hcd1 i oM;refine go7 ?_;refine lX (xI (0:Int) i underlying32 ty3 rlz) λbe an=>(lX (xA ty3 an) λbd am=>?_);obtain⟨rfl,av,ar⟩:=gJ am;refine go9 ?_;refine gU 7 24 (vB (((lz.getD i (0:Int))<(0:Int))\/((↑(s.1).length:Int)<=(lz.getD i (0:Int))))) ?_ ?_
  ·
   refine yK ((lz.getD i (0:Int))<(0:Int)) (λhg=>?_) (λhg=>?_)
   ·
    refine gT hg I (go7 ?_);refine gqU ?_;exact y2e (uL hg)
   refine gF hg I (go5 ?_);refine lX (xB qD (y4i pH) U) λbc bf=>(go6 ?_);refine gqU ?_;exact y2e (uM hg)
  refine gc2 (λG=>?_) λG=>?_
  · exact absurd G oM
  refine go5 ?_;refine lX (xB qD (y4i pH) U) λbb ak=>(go1 ?_);refine lX (xI zT ((lz.getD i 0).toNat) underlying46 zR ak) λba aj=>(lX (xA zR aj) λaz ai=>(gv ((zP (sz:=9) i underlying108 sizeOf53 I I oM oM).cv (show _=vP b6 ((i*9+0)) from zbi (vP b6) oM)) I (zU (A:=[]) (uB sizeOf53 (Pc.ta pH i oM) D (ai.le (Le.t (Le.q (l:=k+1) oM)))) λac O=>(go7 ?_))));refine gqL ((i+1),ac,Z) ?_ ?_
  · exact⟨mle,O,oM⟩
  omega
 have ei:i=3:=by omega
 refine go7 ?_;refine lX (xB eV pH D) λay ah=>(zU (A:=[_]) (uB sizeOf108 pH ae ah) λaw M=>(go4 ?_));refine xH (qK (t:=4) eV mh1 I M) ?_;intro ax H J;refine yI (λE S=>vG I H (qQ I) E S) ?_;refine⟨_,?_,(Rp.Is.cast J (by rw[ei];rfl))⟩;rw[wB trivial]
theorem cZ{k m n j:Nat}{vs:Value}{s:Sq}(rs:(tSd k m n j).Is h0 vs s){vf:Value}{f:(Pq×((List (List Int))×(List Nat)))}(rf:(tFc m n).Is h0 vf f)(hcd0:∀u v,u<f.2.1.length->v<(f.2.1.getD u []).length->inR s ((f.2.1.getD u []).getD v 0))(hcd1:∀u,u<f.2.1.length->(f.2.1.getD u []).length<=1000)(hcd2:f.2.1.length<=1000):
 Calls prog 68 #[vs,vf] w0 (Ret w0 h0 (λh r=>(rpS (rpT (tPt (k+1)))).Is h r (fO s f.2.1 f.2.1.length))):=by
 refine cb2 49 vs vf func68 hs ?_;refine go2 ?_;refine nB rs λb2 az be=>(nB rf λb3 ay bd=>(jF ?_));refine lX (xB rQ (y4u (y4i pH)) bd) λaj bp=>(go5 ?_);refine xK 108 27 ?_;have ak:=RL.nil (ρ:=rpT (tPt (k+1))) (h:=h0);refine gcL (ι:=Nat×List Tri×Value×List Value×Mem) (λ(i,OU,G,J,ma)=>(MLe h0 ma/\(RL (rpT (tPt (k+1))) ma J OU/\i<=f.2.1.length/\OU=fO s f.2.1 i),[(2,vP b2 0),(5,G),(12,aj),(13,vI (↑(f.2.1).length:Int)),(14,vI ↑i)],[.gs 108 27 G OU.length J,.var b3 83 ay,.var b2 50 az],ma,f.2.1.length-i)) (0,[],(.slice none 0 0),[],h0) ?_ ?_
 · exact⟨mle,ak,by omega,I⟩
 rintro⟨i,OU,G,J,ma⟩ ⟨ca,O,bs,aw⟩
 refine yW ?_;refine gc6 (λav=>?_) λav=>?_
 ·
  refine go6 ?_;refine lX (xI [] i underlying81 fR bp) λcu bo=>(lX (xA fR bo) λbb ah=>(go9 ?_));refine gcL (ι:=Nat×List Tri×Value×List Value×Mem) (λ(C,OV,D,H,mb)=>(MLe ma mb/\(RL (rpT (tPt (k+1))) mb H OV/\(2<=C/\(C<=(f.2.1.getD i []).length\/C=2))/\OV=fO s f.2.1 i++zKU s (f.2.1.getD i []) (C-2)),[(2,vP b2 0),(5,D),(7,bb),(8,vI ↑C),(12,aj),(13,vI (↑(f.2.1).length:Int)),(14,vI ↑i)],[.gs 108 27 D OV.length H,.var b3 83 ay,.var b2 50 az],mb,(f.2.1.getD i []).length-C)) (2,OU,G,J,ma) ?_ ?_
  · exact⟨mle,O,by omega,by rw[aw];exact(zli _).symm⟩
  rintro⟨C,OV,D,H,mb⟩ ⟨bz,M,br,ai⟩
  refine yW ?_;have db:=hcd1 i oM;have ce:OV.length<=1000*i+1000:=by rw[ai,lAz];have h8:=zRX (s:=s) hcd1 i bs;have h9:(zKU s (f.2.1.getD i []) (C-2)).length=C-2:=xZ _ _;omega
  refine gc9 (λau=>?_) λau=>?_
  ·
   have ar:=hcd0 i 0 oM oM;have aq:=hcd0 i (C-1) oM oM;have ap:=hcd0 i C oM oM;refine go5 ?_;refine zK 21 _ [(18,(9,108,[.bool false,.slice none 0 0,.slice none 0 0,.bool false,.slice none 0 0,.slice none 0 0,.bool false,.slice none 0 0,.slice none 0 0,.bool false,.slice none 0 0,.slice none 0 0,.bool false,.slice none 0 0,.slice none 0 0,.bool false,.slice none 0 0,.slice none 0 0,.bool false,.slice none 0 0,.slice none 0 0,.bool false,.slice none 0 0,.slice none 0 0,.bool false,.slice none 0 0,.slice none 0 0]))] (zai 0 13 [(13,.c),(14,.c),(15,.q),(16,.q),(17,.q),(18,.a),(19,.c),(20,.q)]) yA (jT.cons I I (uX aL I I) jT.nil) (wV zot) (qA I I kO) (λr hr=>hr) (wX I (xB qP pH be) λct bn=>(go1 ?_));refine tA (F:=λv_=>AtP rpI mb v_ ((f.2.1.getD i []).getD 0 (0:Int))) I (sO (q:=0) (0:Int) 0 underlying32 ty3 I I ah.up I oM nP) zAL I ?_;intro cq bm;refine wX I (xA ty3 bm) λcp bl=>?_;obtain⟨rfl,cd,bx⟩:=gJ bl;refine go3 ?_;refine wX I (xI (0:Int) (C-1) underlying32 ty3 ah) λco bk=>(wX I (xA ty3 bk) λcn bj=>?_);obtain⟨rfl,cc,bw⟩:=gJ bj;refine go2 ?_;refine wX I (xI (0:Int) C underlying32 ty3 ah) λcm bi=>(wX I (xA ty3 bi) λcl bh=>?_);obtain⟨rfl,cb,bv⟩:=gJ bh;refine w_c I (jN (λX=>zN (ρ:=rpI) (m:=3) (xs:=[((f.2.1.getD i []).getD 0 (0:Int)),((f.2.1.getD i []).getD (C-1) (0:Int)),((f.2.1.getD i []).getD C (0:Int))]) (ps':=[(0,_),(1,_),(2,_)]) underlying32 jV I I I wY e6z (zC I (y3e (y3u _) (0:Int) 0 dC) (wL oM oM) (zC I (y3e (y3u _) (0:Int) 1 dC) (wL oM oM) (zC I (y3e (y3u _) (0:Int) 2 dC) (wL oM oM) zQ))) zoo nP) I ?_)
   rintro ck cy ⟨cg,rfl,ao⟩
   refine w_c I (xT (A:=[]) (ρ:=rpI) ao dK ?_);intro h1 bt ad;refine sC (ev2 I I) call113 (λw hs=>zF2 hs bn.up ad (by first|rfl|omega|exactλu hu=>by match u,hu with|0,_=>exact ar|1,_=>exact aq|2,_=>exact ap) (by first|rfl|omega|exactλu hu=>by match u,hu with|0,_=>exact ar|1,_=>exact aq|2,_=>exact ap)) λcj h2 da bg=>?_;obtain⟨aa,rfl,U⟩:=bg
   change (rpT (tPt (k+1))).Is h2 aa (cnT s [((f.2.1.getD i []).getD 0 (0:Int)),((f.2.1.getD i []).getD (C-1) (0:Int)),((f.2.1.getD i []).getD C (0:Int))]) at U
   refine go3 ?_;refine w_a I I (λb9=>?_);have bc:(rpT (tPt (k+1))).R h2 [.bool false,.slice none 0 0,.slice none 0 0,.bool false,.slice none 0 0,.slice none 0 0,.bool false,.slice none 0 0,.slice none 0 0,.bool false,.slice none 0 0,.slice none 0 0,.bool false,.slice none 0 0,.slice none 0 0,.bool false,.slice none 0 0,.slice none 0 0,.bool false,.slice none 0 0,.slice none 0 0,.bool false,.slice none 0 0,.slice none 0 0,.bool false,.slice none 0 0,.slice none 0 0] (T3.mk zT zT zT):=(yS (yS (yE oM)));refine w_c I (cD (A:=[]) (uB sizeOf108 pH bc U) (wA zox) λbu ae=>(gc8 (λZ=>?_) λZ=>?_))
   ·
    refine go2 ?_;refine lX (xB eV pH ae) λci bf=>(zH (zN (ρ:=(rpT (tPt (k+1)))) (m:=1) (xs:=[cnT s [((f.2.1.getD i []).getD 0 (0:Int)),((f.2.1.getD i []).getD (C-1) (0:Int)),((f.2.1.getD i []).getD C (0:Int))]]) (ps':=[(0,_)]) underlying106 aL I I I (yS (yS (yE oM))) e2z (zC I (y3e (y3u _) (T3.mk zT zT zT) 0 dC) bf zQ) (show 1*27<=16777216 from by decide) nP) I I I ?_)
    rintro ch cw ⟨cf,rfl,an⟩
    refine zX (A:=[]) (ρ:=(rpT (tPt (k+1)))) an ?_;intro h3 cz ac;refine xU (A:=[_]) (yB (ρ:=(rpT (tPt (k+1)))) (bytes:=504) underlying106 aL I I I I nP I I M.up ac bO bO) I I I ?_
    rintro ba cv ⟨ax,rfl,am⟩
    refine go9 ?_;refine uR (A:=[]) ?_;refine gqL ((C+1),(OV++[cnT s [((f.2.1.getD i []).getD 0 (0:Int)),((f.2.1.getD i []).getD (C-1) (0:Int)),((f.2.1.getD i []).getD C (0:Int))]]),ba,ax,h3) ?_ ?_
    · exact⟨mle,am,by omega,by rw[ai,zhu,zYD br.1]⟩
    omega
   exact absurd trivial Z
  have bq:C-2=(f.2.1.getD i []).length-2:=by omega
  refine qE ?_;refine gqL ((i+1),OV,D,H,mb) ?_ ?_
  · exact⟨mle,M.up,by omega,by rw[ai];exact zYE bq⟩
  omega
 have ei:i=f.2.1.length:=by omega
 refine jF ?_;refine wR (A:=[]) (ρ:=(rpT (tPt (k+1)))) O ?_;intro h1 bt ab;refine zF I I ?_;exact(Rp.Is.cast ab (by rw[aw,ei]))
theorem oS{k m n j:Nat}{vs:Value}{s:Sq}(rs:(tSd k m n j).Is h0 vs s)(hcd0:nmA s)(hcd1:∀f,f<s.2.1.length->(s.2.1.getD f zA).2.1.length<=10000/\∀l,l<(s.2.1.getD f zA).2.1.length->((s.2.1.getD f zA).2.1.getD l []).length<=10000)(hcd2:s.2.1.length<=1000):
 Calls prog 67 #[vs] w0 (Ret w0 h0 (λh r=>(rpS (tFc (m+1) (n+1))).Is h r s.2.1)):=by
 refine cb1 52 vs func67 hs ?_;refine go2 ?_;refine nB rs λb1 ad aj=>(jF ?_);refine lX (xB gG (y4u (y4i pH)) aj) λO bd=>(go5 ?_);refine xK 83 14 ?_;have ab:=RL.nil (ρ:=rpP (tPl (m+1) (n+1)) (rpP tII uP)) (h:=h0);refine gcL (ι:=Nat×List Fc×Value×List Value×Mem) (λ(i,M,C,D,ma)=>(MLe h0 ma/\(RL (tFc (m+1) (n+1)) ma D M/\i<=s.2.1.length/\M=s.2.1.take i),[(1,vP b1 0),(3,C),(12,O),(13,vI (↑(s.2.1).length:Int)),(14,vI ↑i)],[.gs 83 14 C M.length D,.var b1 50 ad],ma,s.2.1.length-i)) (0,[],(.slice none 0 0),[],h0) ?_ ?_
 · exact⟨mle,ab,by omega,I⟩
 rintro⟨i,M,C,D,ma⟩ ⟨bj,G,cc,ac⟩
 refine yW ?_;have ce:M.length=i:=by rw[ac,zei];omega
 refine gc6 (λao=>?_) λao=>?_
 ·
  refine go6 ?_;refine lX (xI zA i underlying47 sJ bd) λbt bc=>(lX (xA sJ bc) λbs bb=>(nA (ρ:=(tFc 1 1)) (X:=((zT,(0:Rat)),([],([]:List Nat)))) qJ (yF (yF (yS (yE dC)) (yE dC)) (yF wD kE)) λb5 cf au=>?_));have U:=(Le.p (Le.p (Le.t (Le.q (l:=m+1) oM)) (Le.q (l:=n+1) oM)) (Le.refl _)).R au;refine zU (A:=[]) (uB sizeOf83 pH U (bb.le (Le.p (Le.p (Le.t (Le.q (l:=m+1) oM)) (Le.q (l:=n+1) oM)) (Le.refl _)))) λJ H=>(jI ?_);refine lX (xB rQ (y4u (y4i pH)) H) λae ba=>(go5 ?_);refine gcL (ι:=Nat×Mem) (λ(l,mb)=>(MLe ma mb/\(l<=(s.2.1.getD i zA).2.1.length),[(1,vP b1 0),(3,C),(5,vP b5 0),(6,.bool true),(12,O),(13,vI (↑(s.2.1).length:Int)),(14,vI ↑i),(19,ae),(20,vI (↑(((s.2.1.getD i zA).2).1).length:Int)),(21,vI ↑l)],[.var b5 83 J,.gs 83 14 C M.length D,.var b1 50 ad],mb,(s.2.1.getD i zA).2.1.length-l)) (0,ma) ?_ ?_
  · exact⟨mle,oM⟩
  rintro⟨l,mb⟩ ⟨bi,ak⟩
  refine yW ?_;have cb:=ak;have bf:=hcd1 i oM;refine gc6 (λan=>?_) λan=>?_
  ·
   refine go6 ?_;refine lX (xI [] l underlying81 fR ba) λbr az=>(lX (xA fR az) λar ay=>(jI ?_));refine gcL (ι:=Nat×Mem) (λ(u,mc)=>(MLe mb mc/\(u<=((s.2.1.getD i zA).2.1.getD l []).length),[(1,vP b1 0),(3,C),(5,vP b5 0),(6,.bool true),(12,O),(13,vI (↑(s.2.1).length:Int)),(14,vI ↑i),(19,ae),(20,vI (↑(((s.2.1.getD i zA).2).1).length:Int)),(21,vI ↑l),(25,ar),(26,vI (↑(((((s.2.1.getD i zA).2).1).getD l [])).length:Int)),(27,vI ↑u)],[.var b5 83 J,.gs 83 14 C M.length D,.var b1 50 ad],mc,((s.2.1.getD i zA).2.1.getD l []).length-u)) (0,mb) ?_ ?_
   · exact⟨mle,oM⟩
   rintro⟨u,mc⟩ ⟨bh,bx⟩
   refine yW ?_;have cd:=bf.2 l oM;refine gc6 (λam=>?_) λam=>?_
   ·
    obtain⟨ca,bz⟩:=hcd0 i oM l oM u oM;refine go6 ?_;refine lX (xI (0:Int) u underlying32 ty3 ay) λbq ax=>(lX (xA ty3 ax) λbp aw=>?_);obtain⟨rfl,bk,bg⟩:=gJ aw;refine go9 ?_;refine gv (OpV.tr oM (aZ (q:=0) I I)) I (go7 ?_);refine lX (xB qD (y4i pH) aj) λbo bu=>(go3 ?_);refine gv (OpV.tr oM (yH I I)) I (go9 ?_);refine gqL ((u+1),mc) ?_ ?_
    · exact⟨mle,oM⟩
    omega
   refine qE ?_;refine gqL ((l+1),mc) ?_ ?_
   · exact⟨mle,oM⟩
   omega
  refine pV ?_;refine lX (xB sJ pH H) λbn av=>(zH (zN (ρ:=(tFc (m+1) (n+1))) (m:=1) (xs:=[(s.2.1.getD i zA)]) (ps':=[(0,_)]) underlying47 qJ I I I (yF (yF (yS (yE oM)) (yE oM)) (yF wD kE)) e2z (zC I (y3e (y3u _) zA 0 dC) av zQ) zom nP) I I I ?_)
  rintro bm bw ⟨bl,rfl,ai⟩
  refine zX (A:=[]) (ρ:=(tFc (m+1) (n+1))) ai ?_;intro h1 be aa;refine xU (A:=[_]) (yB (ρ:=(tFc (m+1) (n+1))) (bytes:=264) underlying47 qJ I I I I nP I I G.up aa bO bO) I I I ?_
  rintro aq bv ⟨ap,rfl,ah⟩
  refine go8 ?_;refine uR (A:=[]) ?_;refine gqL ((i+1),(M++[(s.2.1.getD i zA)]),aq,ap,h1) ?_ ?_
  · exact⟨mle,ah,by omega,by rw[ac];exact nY zA oM⟩
  omega
 have ei:i=s.2.1.length:=by omega
 refine jF ?_;refine wR (A:=[]) (ρ:=(tFc (m+1) (n+1))) G.up ?_;intro h1 be Z;refine zF I I ?_;exact(Rp.Is.cast Z (by rw[ac,ei,zue]))
theorem yA6{k:Nat}{va:Value}{a:Tq}(ra:(tPt k).Is h0 va a){vb:Value}{b:Tq}(rb:(tPt k).Is h0 vb b){vc:Value}{c:Tq}(rc:(tPt k).Is h0 vc c)(hcd0:k<=1000000):
 Calls prog 114 #[va,vb,vc] w0 (Ret w0 h0 (λh r=>(rpQ (20*k+40)).Is h r (tB a b c))):=by
 refine cb3 12 va vb vc func114 hs ?_;refine go2 ?_;refine nB ra λb3 am Z=>(nB rb λb4 ak U=>(nB rc λb5 aj O=>(nA (ρ:=(rpQ (20*k+40))) (X:=(0:Rat)) yR (yE oM) λb6 ai M=>(go3 ?_))));refine zK 5 _ [] [(0,.q),(1,.q),(2,.q),(3,.c),(4,.c),(5,.t)] yA nX zot nX (λr hr=>hr) (wX I (xB zR pH Z) λv7 r7=>(wX I (xB zR pH U) λv8 r8=>(wX I (xB zR pH O) λv9 r9=>?_)));refine w_c I (sC (ev2 I I) call132 (λw hs=>zIA hs r8 r9 oM) λad h1 ah J=>?_);replace J:=Rp.Is.le J (Le.t (Le.q (l:=4*k+3) oM));refine w_c I (sC (ev2 I I) call88 (λw hs=>zQ7 hs r7.up J oM) λac h2 ae H=>?_);replace H:=Rp.Is.le H (Le.q (l:=15*k+18) oM);refine yG (A:=[]) I (uB sizeOf26 pH M (H.le (Le.q (l:=20*k+40) oM))) λaa G=>(go3 ?_);refine xH (qK (t:=6) yJ mh0 I G) ?_;intro ab C D;refine yI (λE S=>zS I C E S) ?_;exact D
theorem j7{k:Nat}{vt:Value}{t:(T3 Tq)}(rt:(rpT (tPt k)).Is h0 vt t)(hcd0:k<=1000000):
 Calls prog 69 #[vt] w0 (Ret w0 h0 (λh r=>(rpQ (20*k+40)).Is h r (tB t.x t.y t.z))):=by
 refine cb1 10 vt func69 hs ?_;refine go2 ?_;refine nB rt λb1 ac H=>(nA (ρ:=(rpQ (20*k+40))) (X:=(0:Rat)) yR (yE oM) λb2 ab J=>(go5 ?_));refine lX (xB zR (y4e pH) H) λv4 r4=>(go1 ?_);refine lX (xB zR (y5i pH) H) λv6 r6=>(go1 ?_);refine lX (xB zR (y5u pH) H) λv8 Z=>(cL (ev3 I I I) call114 (λw hs=>yA6 hs r4 r6 Z oM) λv9 h1 aa U=>(zU (A:=[]) (uB sizeOf26 pH J U) λM G=>(go3 ?_)));refine xH (qK (t:=2) yJ mh0 I G) ?_;intro O C D;refine yI (λE S=>zS I C E S) ?_;exact D
theorem zPF{k:Nat}{vt:Value}{t:(T3 Tq)}(rt:(rpT (tPt k)).Is h0 vt t)(hcd0:k<=1000000):
 Calls prog 73 #[vt] w0 (Ret w0 h0 (λh r=>(tPt (4*k+10)).Is h r (smT t))):=by
 refine cb1 11 vt func73 hs ?_;refine go2 ?_;refine nB rt λb1 ae H=>(nA (ρ:=(tPt (4*k+10))) (X:=zT) yO (yS (yE oM)) λb2 ad M=>(go3 ?_));refine zK 8 _ [] (zai 0 4 [(5,.q),(6,.q),(4,.c),(7,.c),(8,.t)]) yA nX zot nX (λr hr=>hr) (go1 ?_);refine wX I (xB zR (y4e pH) H) λv4 r4=>(go1 ?_);refine wX I (xB zR (y5i pH) H) λv6 r6=>(go1 ?_);refine wX I (xB zR (y5u pH) H) λv9 r9=>?_;refine w_c I (sC (ev2 I I) call71 (λw hs=>zEN hs r4 r6 oM) λv7 h1 ac O=>?_);replace O:=Rp.Is.le O (Le.t (Le.q (l:=2*k+2) oM));refine w_c I (sC (ev2 I I) call71 (λw hs=>zEN hs O r9.up oM) λaa h2 ab J=>?_);replace J:=Rp.Is.le J (Le.t (Le.q (l:=3*k+4) oM));refine yG (A:=[]) I (uB sizeOf53 pH M (J.le (Le.t (Le.q (l:=4*k+10) oM)))) λU G=>(go3 ?_);refine xH (qK (t:=2) zR mh0 I G) ?_;intro Z C D;refine yI (λE S=>zS I C E S) ?_;exact D
theorem zBT{k:Nat}{va:Value}{a:Rat}(ra:(rpQ k).Is h0 va a){b:Int}(hb1:-9223372036854775808<=b)(hb2:b<9223372036854775808)(hcd0:k<=1000000000)(hcd1:0<b):
 Calls prog 83 #[va,vI b] w0 (Ret w0 h0 (λh r=>(rpQ (k+4)).Is h r (a/(b:Rat)))):=by
 refine cb2 15 va (vI b) func83 hs ?_;refine go2 ?_;refine nB ra λb2 ap Z=>(nA (ρ:=(rpQ (k+4))) (X:=(0:Rat)) yR (yE oM) λb4 ao U=>(go3 ?_));refine zK 10 _ [(7,(5,26,[.bool false,.slice none 0 0,.slice none 0 0]))] [(0,.q),(1,.q),(2,.c),(3,.c),(4,.q),(5,.q),(6,.q),(7,.a),(8,.c),(9,.q)] yA (jT.cons I I (uX yR I I) jT.nil) zot (qA I I kO) (λr hr=>hr) (wX I (xB yJ pH Z) λv8 r8=>(go1 ?_));refine w_c I (sC (ev1 I) call75 (λw hs=>y9 hs oM oM) λak h1 an ac=>?_);refine w_c I (sC (ev2 I I) call74 (λw hs=>zIC hs r8.up ac oM) λaj h2 am ab=>?_);obtain⟨G,rfl,C⟩:=ab
 change (rpQ (k+2)).Is h2 G (if((b:Int):Rat)=0 then 0 else a/((b:Int):Rat)) at C
 refine go3 ?_;refine w_a I I (λb5=>?_);have O:(rpQ (k+4)).R h2 [.bool false,.slice none 0 0,.slice none 0 0] (0:Rat):=(yE oM);refine w_c I (cD (A:=[]) (uB sizeOf26 pH O (C.le (Le.q (l:=k+4) oM))) (wA zox) λae M=>(go5 ?_));refine lX (xB yJ pH M) λai aa=>(zU (A:=[_]) (uB sizeOf26 pH U aa) λad J=>(go3 ?_));refine xH (qK (t:=4) yJ mh1 I J) ?_;intro ah D H;refine yI (λE S=>zS I D E S) ?_;exact(Rp.Is.cast H (by exact zae (λe=>by have:=Rat.intCast_eq_zero_iff.1 e;omega)))
theorem zHI{k m n j l1 l2:Nat}{vs:Value}{s:Sq}(rs:(tSd k m n j).Is h0 vs s){vfs:Value}{fs:(List (Pq×((List (List Int))×(List Nat))))}(rfs:(rpS (tFc l1 l2)).Is h0 vfs fs)(hcd0:k<=10000)(hcd1:zM7 s fs):
 Calls prog 77 #[vs,vfs] w0 (Ret w0 h0 (λh r=>(rpQ (20000*k+100004)).Is h r (u4 (rX s fs fs.length)/((6:Int):Rat)))):=by
 have bj:=zVI rs;have cj:=hcd1.2.1;refine cb2 32 vs vfs func77 hs ?_;refine go2 ?_;refine nB rs λb2 aq ay=>(nA (ρ:=(rpQ (20000*k+100004))) (X:=(0:Rat)) yR (yE oM) λb4 ap ax=>(go4 ?_));refine nA (ρ:=(rpQ (20000*k+100000))) (X:=(0:Rat)) yR (yE oM) λb5 bn aw=>(jI ?_);refine gcL (ι:=Nat×List Value×Mem) (λ(i,G,ma)=>(MLe h0 ma/\((rpQ (20000*k+100000)).R ma G (u4 (rX s fs i))/\i<=fs.length),[(2,vP b2 0),(4,vP b4 0),(5,vP b5 0),(10,vfs),(11,vI (↑(fs).length:Int)),(12,vI ↑i)],[.var b5 26 G,.var b4 26 ap,.var b2 50 aq],ma,fs.length-i)) (0,bn,h0) ?_ ?_
 · exact⟨mle,aw,oM⟩
 rintro⟨i,G,ma⟩ ⟨bq,O,J⟩
 refine yW ?_;have cg:=J;refine gc6 (λan=>?_) λan=>?_
 ·
  have C:=hcd1.1 i oM;have ck:=zGV hcd1 (i:=i) oM;refine go6 ?_;refine lX (xI zA i underlying47 sJ rfs) λce bi=>(lX (xA sJ bi) λcd bh=>(nA (ρ:=(tFc 1 1)) (X:=((zT,(0:Rat)),([],([]:List Nat)))) qJ (yF (yF (yS (yE dC)) (yE dC)) (yF wD kE)) λb7 cm av=>?_));have ai:=(Le.p (Le.p (Le.t (Le.q (l:=l1+1) oM)) (Le.q (l:=l2+1) oM)) (Le.refl _)).R av;refine zU (A:=[]) (uB sizeOf83 pH ai (bh.le (Le.p (Le.p (Le.t (Le.q (l:=l1+1) oM)) (Le.q (l:=l2+1) oM)) (Le.refl _)))) λao ak=>(go4 ?_);refine lX (xB qP pH ay) λcc bg=>(lX (xB sJ pH ak) λcb bf=>(cL (ev2 I I) call68 (λw hs=>cZ hs (bg.le (Le.p (Le.refl _) (Le.p (Le.s (Le.p (Le.p (Le.t (Le.q (l:=l1+m+1) oM)) (Le.q (l:=l2+n+1) oM)) (Le.refl _))) (Le.refl _)))) (bf.le (Le.p (Le.p (Le.t (Le.q (l:=l1+m+1) oM)) (Le.q (l:=l2+n+1) oM)) (Le.refl _))) (by first|omega|exact C.1|exact C.2.1|exact C.2.2) (by first|omega|exact C.1|exact C.2.1|exact C.2.2) (by first|omega|exact C.1|exact C.2.1|exact C.2.2)) λar h1 bk be=>(go5 ?_)));refine gcL (ι:=Nat×List Value×Mem) (λ(q,D,mb)=>(MLe h1 mb/\((rpQ (20000*k+100000)).R mb D (u4 (rX s fs i++(fO s (fs.getD i zA).2.1 (fs.getD i zA).2.1.length).take q))/\q<=(fO s (fs.getD i zA).2.1 (fs.getD i zA).2.1.length).length),[(2,vP b2 0),(4,vP b4 0),(5,vP b5 0),(10,vfs),(11,vI (↑(fs).length:Int)),(12,vI ↑i),(18,ar),(19,vI (↑(fO s (fs.getD i zA).2.1 (fs.getD i zA).2.1.length).length:Int)),(20,vI ↑q)],[.var b7 83 ao,.var b5 26 D,.var b4 26 ap,.var b2 50 aq],mb,(fO s (fs.getD i zA).2.1 (fs.getD i zA).2.1.length).length-q)) (0,G,h1) ?_ ?_
  · exact⟨mle,(Rp.castR O.up (by rw[ymu,zli])),oM⟩
  rintro⟨q,D,mb⟩ ⟨bp,H,J⟩
  refine yW ?_;have cf:=J;refine gc6 (λam=>?_) λam=>?_
  ·
   refine go6 ?_;refine lX (xI (T3.mk zT zT zT) q underlying106 eV be) λca bd=>(lX (xA eV bd) λbz bc=>(nA (ρ:=(rpT (tPt (k+1)))) (X:=(T3.mk zT zT zT)) aL (yS (yS (yE oM))) λb9 cl au=>(zU (A:=[]) (uB sizeOf108 pH au bc) λbr aj=>(go2 ?_))));refine zK 4 _ [] [(0,.q),(1,.q),(2,.c),(3,.c),(4,.t)] yA nX zot nX (λr hr=>hr) (wX I (xB yJ pH H) λbx bb=>(wX I (xB eV pH aj) λbw ba=>?_));refine w_c I (sC (ev1 I) call69 (λw hs=>j7 hs ba oM) λbv h2 ci ae=>?_);replace ae:=Rp.Is.le ae (Le.q (l:=20*k+60) oM);refine w_c I (sC (ev2 I I) call70 (λw hs=>pQ hs bb.up ae oM) λbu h3 ch ad=>?_);replace ad:=Rp.Is.le ad (Le.q (l:=20020*k+100061) oM);have U:=(Le.q (l:=20020*k+100061) oM).R H;refine yG (A:=[_,_]) I (uB sizeOf26 pH U ad) λah ab=>(go7 ?_);refine uR (A:=[]) ?_;refine gqL ((q+1),ah,h3) ?_ ?_
   · exact⟨mle,(zVX ab (by rw[zHW,zhu,nY (T3.mk zT zT zT) oM]) (yI7 (zG8 hcd1 bj oM))),oM⟩
   omega
  have bl:q=(fO s (fs.getD i zA).2.1 (fs.getD i zA).2.1.length).length:=by omega
  refine qE ?_;refine uR (A:=[]) ?_;refine gqL ((i+1),D,mb) ?_ ?_
  · exact⟨mle,(Rp.castR H.up (by rw[bl,zue];rfl)),oM⟩
  omega
 have ei:i=fs.length:=by omega
 refine go7 ?_;refine lX (xB yJ pH O) λbt az=>(cL (vs:=[_,vI (6)]) e2z call83 (λw hs=>zBT hs az dC dC oM oM) λbs h1 bk ac=>?_);replace ac:=Rp.Is.le ac (Le.q (l:=20000*k+100004) oM);refine zU (A:=[_]) (uB sizeOf26 pH ax ac) λbm aa=>(go3 ?_);refine xH (qK (t:=4) yJ mh1 I aa) ?_;intro bo M Z;refine yI (λE S=>zS I M E S) ?_;exact(Rp.Is.cast Z (by rw[ei]))
theorem oR{k m n j:Nat}{vs:Value}{s:Sq}(rs:(tSd k m n j).Is h0 vs s)(hcd0:k<=10000)(hcd1:nmA s)(hcd2:∀f,f<s.2.1.length->(s.2.1.getD f zA).2.1.length<=10000/\∀l,l<(s.2.1.getD f zA).2.1.length->((s.2.1.getD f zA).2.1.getD l []).length<=10000)(hcd3:zM7 s s.2.1):
 Calls prog 26 #[vs] w0 (Ret w0 h0 (λh r=>(rpQ (20000*k+100004)).Is h r (pX s/((6:Int):Rat)))):=by
 refine cb1 7 vs func26 hs ?_;refine go2 ?_;refine nB rs λb1 ad H=>(nA (ρ:=(rpQ (20000*k+100004))) (X:=(0:Rat)) yR (yE oM) λb2 ac J=>(go3 ?_));refine zK 4 _ [] [(0,.q),(1,.q),(2,.c),(3,.c),(4,.t)] yA nX zot nX (λr hr=>hr) (wX I (xB qP pH H) λv3 r3=>(wX I (xB qP pH H) λv4 r4=>?_));refine w_c I (sC (ev1 I) call67 (λw hs=>oS hs r4 (by first|omega|exact hcd1|exact hcd2|exact hcd3.2.1) (by first|omega|exact hcd1|exact hcd2|exact hcd3.2.1) (by first|omega|exact hcd1|exact hcd2|exact hcd3.2.1)) λv5 h1 ab Z=>?_);refine w_c I (sC (ev2 I I) call77 (λw hs=>zHI hs r3.up Z oM (by first|omega|exact hcd3)) λv6 h2 aa U=>(yG (A:=[]) I (uB sizeOf26 pH J U) λM G=>(go3 ?_)));refine xH (qK (t:=2) yJ mh0 I G) ?_;intro O C D;refine yI (λE S=>zS I C E S) ?_;exact D
theorem zAI{k m n j:Nat}{vs:Value}{s:Sq}(rs:(tSd k m n j).Is h0 vs s)(hcd0:k<=10000)(hcd1:nmA s)(hcd2:∀f,f<s.2.1.length->(s.2.1.getD f zA).2.1.length<=10000/\∀l,l<(s.2.1.getD f zA).2.1.length->((s.2.1.getD f zA).2.1.getD l []).length<=10000)(hcd3:zM7 s s.2.1):
 Calls prog 25 #[vs] w0 (Ret w0 h0 (λh r=>∃u0,r=.tuple #[u0,vB (cnO s)]/\(tPt (50000*k+300000)).Is h u0 (cnS s))):=by
 have bp:=zVI rs;have fc:=hcd3.2.1;refine cb1 55 vs func25 hs ?_;refine go2 ?_;refine nB rs λb1 bu bo=>(nA (ρ:=(tPt (50000*k+300000))) (X:=zT) yO (yS (yE oM)) λb2 bt bl=>(go5 ?_));refine nA (ρ:=(tPt (20000*k+100000))) (X:=zT) yO (yS (yE oM)) λb4 dm ca=>(go4 ?_);refine nA (ρ:=(rpQ (20000*k+100000))) (X:=(0:Rat)) yR (yE oM) λb5 dl bz=>(go5 ?_);refine lX (xB qP pH bo) λew cz=>(cL (ev1 I) call67 (λw hs=>oS hs cz (by first|omega|exact hcd1|exact hcd2|exact hcd3.2.1) (by first|omega|exact hcd1|exact hcd2|exact hcd3.2.1) (by first|omega|exact hcd1|exact hcd2|exact hcd3.2.1)) λbk h1 fb cy=>(go5 ?_));refine gcL (ι:=Nat×List Value×List Value×Mem) (λ(i,M,J,ma)=>(MLe h1 ma/\((tPt (20000*k+100000)).R ma M (zHD (rX s s.2.1 i))/\(rpQ (20000*k+100000)).R ma J (u4 (rX s s.2.1 i))/\i<=s.2.1.length),[(1,vP b1 0),(2,vP b2 0),(4,vP b4 0),(5,vP b5 0),(14,bk),(15,vI (↑(s.2.1).length:Int)),(16,vI ↑i)],[.var b5 26 J,.var b4 53 M,.var b2 53 bt,.var b1 50 bu],ma,s.2.1.length-i)) (0,dm,dl,h1) ?_ ?_
 · exact⟨mle,ca.up,bz.up,oM⟩
 rintro⟨i,M,J,ma⟩ ⟨dr,ad,ac,ae⟩
 refine yW ?_;have ez:=ae;refine gc6 (λbr=>?_) λbr=>?_
 ·
  have D:=hcd3.1 i oM;have fd:=zGV hcd3 (i:=i) oM;refine go6 ?_;refine lX (xI zA i underlying47 sJ cy) λev cw=>(lX (xA sJ cw) λeu cv=>(nA (ρ:=(tFc 1 1)) (X:=((zT,(0:Rat)),([],([]:List Nat)))) qJ (yF (yF (yS (yE dC)) (yE dC)) (yF wD kE)) λb7 ff bx=>?_));have ao:=(Le.p (Le.p (Le.t (Le.q (l:=m+1) oM)) (Le.q (l:=n+1) oM)) (Le.refl _)).R bx;refine zU (A:=[]) (uB sizeOf83 pH ao cv) λbj ay=>(go4 ?_);refine lX (xB qP pH bo) λes cu=>(lX (xB sJ pH ay) λer ct=>(cL (ev2 I I) call68 (λw hs=>cZ hs (cu.le (Le.p (Le.refl _) (Le.p (Le.s (Le.p (Le.p (Le.t (Le.q (l:=m+1) oM)) (Le.q (l:=n+1) oM)) (Le.refl _))) (Le.refl _)))) ct (by first|omega|exact D.1|exact D.2.1|exact D.2.2) (by first|omega|exact D.1|exact D.2.1|exact D.2.2) (by first|omega|exact D.1|exact D.2.1|exact D.2.2)) λbv h2 de cq=>(go5 ?_)));refine gcL (ι:=Nat×List Value×List Value×Mem) (λ(q,H,G,mb)=>(MLe h2 mb/\((tPt (20000*k+100000)).R mb H (zHD (rX s s.2.1 i++(fO s (s.2.1.getD i zA).2.1 (s.2.1.getD i zA).2.1.length).take q))/\(rpQ (20000*k+100000)).R mb G (u4 (rX s s.2.1 i++(fO s (s.2.1.getD i zA).2.1 (s.2.1.getD i zA).2.1.length).take q))/\q<=(fO s (s.2.1.getD i zA).2.1 (s.2.1.getD i zA).2.1.length).length),[(1,vP b1 0),(2,vP b2 0),(4,vP b4 0),(5,vP b5 0),(14,bk),(15,vI (↑(s.2.1).length:Int)),(16,vI ↑i),(22,bv),(23,vI (↑(fO s (s.2.1.getD i zA).2.1 (s.2.1.getD i zA).2.1.length).length:Int)),(24,vI ↑q)],[.var b7 83 bj,.var b5 26 G,.var b4 53 H,.var b2 53 bt,.var b1 50 bu],mb,(fO s (s.2.1.getD i zA).2.1 (s.2.1.getD i zA).2.1.length).length-q)) (0,M,J,h2) ?_ ?_
  · exact⟨mle,(Rp.castR ad.up (by rw[ymu,zli])),(Rp.castR ac.up (by rw[ymu,zli])),oM⟩
  rintro⟨q,H,G,mb⟩ ⟨dq,U,O,ae⟩
  refine yW ?_;have ey:=ae;refine gc6 (λbq=>?_) λbq=>?_
  ·
   refine go6 ?_;refine lX (xI (T3.mk zT zT zT) q underlying106 eV cq) λeq cp=>(lX (xA eV cp) λep co=>(nA (ρ:=(rpT (tPt (k+1)))) (X:=(T3.mk zT zT zT)) aL (yS (yS (yE oM))) λb9 fe bw=>(zU (A:=[]) (uB sizeOf108 pH bw co) λdk ab=>(go4 ?_))));refine lX (xB eV pH ab) λeo cn=>(cL (ev1 I) call69 (λw hs=>j7 hs cn oM) λen h3 dd bf=>?_);replace bf:=Rp.Is.le bf (Le.q (l:=20*k+60) oM);refine nA (ρ:=(rpQ (20*k+40))) (X:=(0:Rat)) yR (yE oM) λfh dt bn=>?_;have an:=(Le.q (l:=20*k+60) oM).R bn;refine zU (A:=[]) (uB sizeOf26 pH an bf) λdj aa=>(go4 ?_);refine lX (xB yJ pH O) λem cm=>(lX (xB yJ pH aa) λel cl=>(cL (ev2 I I) call70 (λw hs=>pQ hs cm cl oM) λek h4 dc be=>?_));replace be:=Rp.Is.le be (Le.q (l:=20020*k+100061) oM);have am:=(Le.q (l:=20020*k+100061) oM).R O;refine zU (A:=[_,_,_]) (uB sizeOf26 pH am be) λbi ax=>(go2 ?_);refine zK 6 _ [] [(0,.q),(1,.q),(2,.q),(3,.c),(4,.c),(5,.c),(6,.t)] yA nX zot nX (λr hr=>hr) (wX I (xB zR pH U) λej ck=>(wX I (xB yJ pH aa) λeh cj=>(wX I (xB eV pH ab) λeg ci=>?_)));refine w_c I (sC (ev1 I) call73 (λw hs=>zPF hs ci oM) λef h5 db bd=>?_);replace bd:=Rp.Is.le bd (Le.t (Le.q (l:=4*k+14) oM));refine w_c I (sC (ev2 I I) call72 (λw hs=>zC4 hs cj.up bd oM) λee h6 da bc=>?_);replace bc:=Rp.Is.le bc (Le.t (Le.q (l:=24*k+76) oM));refine w_c I (sC (ev2 I I) call71 (λw hs=>zEN hs ck.up bc oM) λed h7 fa bb=>?_);replace bb:=Rp.Is.le bb (Le.t (Le.q (l:=20024*k+100078) oM));have ak:=(Le.t (Le.q (l:=20024*k+100078) oM)).R U;refine yG (A:=[_,_,_,_]) I (uB sizeOf53 pH ak bb) λbh aw=>(go7 ?_);refine uR (A:=[]) (uR (A:=[]) ?_);refine gqL ((q+1),bh,bi,h7) ?_ ?_
   · exact⟨mle,(zVW aw (by refine Eq.trans (zSN _ _) ?_;rw[zhu,nY (T3.mk zT zT zT) oM]) (lq_C (zG8 hcd3 bp oM))),(zVX ax.up (by rw[zHW,zhu,nY (T3.mk zT zT zT) oM]) (yI7 (zG8 hcd3 bp oM))),oM⟩
   omega
  have bs:q=(fO s (s.2.1.getD i zA).2.1 (s.2.1.getD i zA).2.1.length).length:=by omega
  refine qE ?_;refine uR (A:=[]) ?_;refine gqL ((i+1),H,G,mb) ?_ ?_
  · exact⟨mle,(Rp.castR U.up (by rw[bs,zue];rfl)),(Rp.castR O.up (by rw[bs,zue];rfl)),oM⟩
  omega
 have ei:i=s.2.1.length:=by omega
 refine go6 ?_;refine zK 11 _ [(8,(11,26,[.bool false,.slice none 0 0,.slice none 0 0]))] [(2,.q),(0,.c),(1,.c),(3,.c),(4,.c),(5,.q),(6,.q),(7,.q),(8,.a),(9,.c),(10,.q)] yA (jT.cons I I (uX yR I I) jT.nil) zot (qA I I kO) (λr hr=>hr) (wX I (xB yJ pH ac) λea cf=>?_);refine w_c I (sC (vs:=[vI (1)]) ⟨I,y3i⟩ call75 (λw hs=>y9 hs dC dC) λec h2 de ch=>?_);refine w_c I (sC (vs:=[vI (4)]) ⟨I,y3i⟩ call75 (λw hs=>y9 hs dC dC) λeb h3 dd cg=>?_);refine w_c I (sC (ev2 I I) call76 (λw hs=>gC hs cg cf.up oM) λdz h4 dc ba=>?_);replace ba:=Rp.Is.le ba (Le.q (l:=20000*k+100002) oM);refine w_c I (sC (ev2 I I) call74 (λw hs=>zIC hs ch.up ba oM) λdy h5 db ce=>?_);obtain⟨aj,rfl,C⟩:=ce
 change (rpQ (2+(20000*k+100002))).Is h5 aj (if((((4:Int):Int):Rat)*(u4 (rX s s.2.1 i)))=0 then 0 else(((1:Int):Int):Rat)/((((4:Int):Int):Rat)*(u4 (rX s s.2.1 i)))) at C
 replace C:=Rp.Is.le C (Le.q (l:=20000*k+100004) oM);refine go3 ?_;refine w_a I I (λfg=>?_);have bm:(rpQ (20000*k+100010)).R h5 [.bool false,.slice none 0 0,.slice none 0 0] (0:Rat):=(yE oM);refine w_c I (cD (A:=[]) (uB sizeOf26 pH bm (C.le (Le.q (l:=20000*k+100010) oM))) (wA zox) λdi av=>(u6 (λZ=>?_) λZ=>?_))
 ·
  have hz:((4:Int):Rat)*pX s=0:=by rw[ei] at Z;exact zdi (λe=>Z (zae e))
  refine go2 ?_;refine lX (xV (ρ:=(tPt 1)) (wI (ps':=[]) underlying53 yO I I sizeOf26 trivial I (yS (yE dC)) zQ)) λdx cd=>(zU (A:=[_,_,_]) (uB sizeOf53 pH bl (cd.le (Le.t (Le.q (l:=50000*k+300000) oM)))) λdh au=>(go5 ?_));refine xH (qK (t:=2) zR mh3 I au) ?_;intro dp ai aq;refine yI (λE S=>vG I ai (qQ I) E S) ?_;refine⟨_,?_,(Rp.Is.cast aq (by exact(zau hz).symm))⟩;rw[yZ (λe=>e hz)]
 have bg:¬((4:Int):Rat)*pX s=0:=λe=>Z (by rw[ei];refine(zbi (· ≠(0:Int)) (zau e)).mpr ?_;decide);refine go4 ?_;refine lX (xB yJ pH av) λdw cc=>(lX (xB zR pH ad) λdv cb=>(cL (ev2 I I) call72 (λw hs=>zC4 hs cc cb oM) λdu h6 da az=>?_));replace az:=Rp.Is.le az (Le.t (Le.q (l:=40000*k+200012) oM));refine zU (A:=[_,_,_]) (uB sizeOf53 pH bl (az.le (Le.t (Le.q (l:=50000*k+300000) oM)))) λdf ar=>(go4 ?_);refine xH (qK (t:=2) zR mh3 I ar) ?_;intro dn ah ap;refine yI (λE S=>vG I ah (qQ I) E S) ?_;refine⟨_,?_,(Rp.Is.cast ap (by rw[ei];unfold cnS pX at *;rw[zae bg,zae bg];rfl))⟩;rw[wB (show cnO s from bg)]
theorem zMG{k m n j:Nat}{vs:Value}{s:Sq}(rs:(tSd k m n j).Is h0 vs s){vf:Value}{f:(Pq×((List (List Int))×(List Nat)))}(rf:(tFc m n).Is h0 vf f)(hcd0:k<=10000)(hcd1:yB1 s f)(hcd2:(fO s f.2.1 f.2.1.length).length<=1000):
 Calls prog 87 #[vs,vf] w0 (Ret w0 h0 (λh r=>(tPt (20000*k+100010)).Is h r (arV s f))):=by
 have be:=zVI rs;have C:=hcd1;have bi:=zP6 be C;refine cb2 34 vs vf func87 hs ?_;refine go2 ?_;refine nB rs λb2 bp ar=>(nB rf λb3 bo aq=>(nA (ρ:=(tPt (20000*k+100010))) (X:=zT) yO (yS (yE oM)) λb4 bn ap=>(go4 ?_)));refine nA (ρ:=(tPt (20000*k+100000))) (X:=zT) yO (yS (yE oM)) λb5 bm ao=>(go5 ?_);refine lX (xB qP pH ar) λv8 r8=>(lX (xB sJ pH aq) λv9 r9=>(cL (ev2 I I) call68 (λw hs=>cZ hs r8 r9 (by first|omega|exact C.1|exact C.2.1|exact C.2.2) (by first|omega|exact C.1|exact C.2.1|exact C.2.2) (by first|omega|exact C.1|exact C.2.1|exact C.2.2)) λam h1 ck bd=>(go5 ?_)));refine gcL (ι:=Nat×List Value×Mem) (λ(q,H,ma)=>(MLe h1 ma/\((tPt (20000*k+100000)).R ma H (zA7 ((fO s f.2.1 f.2.1.length).take q))/\q<=(fO s f.2.1 f.2.1.length).length),[(4,vP b4 0),(5,vP b5 0),(10,am),(11,vI (↑(fO s f.2.1 f.2.1.length).length:Int)),(12,vI ↑q)],[.var b5 53 H,.var b4 53 bn,.var b3 83 bo,.var b2 50 bp],ma,(fO s f.2.1 f.2.1.length).length-q)) (0,bm,h1) ?_ ?_
 · exact⟨mle,ao.up,oM⟩
 rintro⟨q,H,ma⟩ ⟨br,G,aj⟩
 refine yW ?_;have ci:=aj;refine gc6 (λak=>?_) λak=>?_
 ·
  refine go6 ?_;refine lX (xI (T3.mk zT zT zT) q underlying106 eV bd) λch bc=>(lX (xA eV bc) λcg bb=>(nA (ρ:=(rpT (tPt (k+1)))) (X:=(T3.mk zT zT zT)) aL (yS (yS (yE oM))) λb7 cl an=>(zU (A:=[]) (uB sizeOf108 pH an bb) λbl D=>(go2 ?_))));refine zK 13 _ [] (zai 0 5 (zai 6 4 [(5,.c),(10,.c),(11,.c),(12,.c),(13,.t)])) yA nX (wV zot) nX (λr hr=>hr) (wX I (xB zR pH G) λcf ba=>(go1 ?_));refine wX I (xB zR (y5i pH) D) λce az=>(go1 ?_);refine wX I (xB zR (y4e pH) D) λcd ay=>(go1 ?_);refine wX I (xB zR (y5u pH) D) λcb ax=>(go1 ?_);refine wX I (xB zR (y4e pH) D) λca aw=>?_;refine w_c I (sC (ev2 I I) call133 (λw hs=>zQ6 hs az ay oM) λcc h2 bh ah=>?_);replace ah:=Rp.Is.le ah (Le.t (Le.q (l:=2*k+4) oM));refine w_c I (sC (ev2 I I) call133 (λw hs=>zQ6 hs ax.up aw.up oM) λbz h3 bg ae=>?_);replace ae:=Rp.Is.le ae (Le.t (Le.q (l:=2*k+4) oM));refine w_c I (sC (ev2 I I) call132 (λw hs=>zIA hs ah.up ae oM) λbx h4 bf ad=>?_);replace ad:=Rp.Is.le ad (Le.t (Le.q (l:=8*k+19) oM));refine w_c I (sC (ev2 I I) call71 (λw hs=>zEN hs ba.up ad oM) λbw h5 cj ac=>?_);replace ac:=Rp.Is.le ac (Le.t (Le.q (l:=20008*k+100021) oM));have M:=(Le.t (Le.q (l:=20008*k+100021) oM)).R G;refine yG (A:=[_]) I (uB sizeOf53 pH M ac) λai Z=>(go7 ?_);refine uR (A:=[]) ?_;refine gqL ((q+1),ai,h5) ?_ ?_
  · exact⟨mle,(zVW Z (by refine Eq.trans (zSM _ _) ?_;rw[nY (T3.mk zT zT zT) oM]) (lq_V ⟨by rw[zei];omega,λt ht=>bi t (zwe ht)⟩)),oM⟩
  omega
 have bj:q=(fO s f.2.1 f.2.1.length).length:=by omega
 refine go6 ?_;refine zK 4 _ [] [(2,.q),(0,.c),(1,.c),(3,.c),(4,.t)] yA nX zot nX (λr hr=>hr) (wX I (xB zR pH G) λbt au=>?_);refine w_c I (sC (vs:=[vI (1)]) ⟨I,y3i⟩ call75 (λw hs=>y9 hs dC dC) λbv h2 bh av=>?_);refine w_c I (sC (vs:=[_,vI (2)]) e2z call83 (λw hs=>zBT hs av dC dC dC oM) λbu h3 bg ab=>?_);replace ab:=Rp.Is.le ab (Le.q (l:=6) oM);refine w_c I (sC (ev2 I I) call72 (λw hs=>zC4 hs ab au.up oM) λbs h4 bf aa=>?_);replace aa:=Rp.Is.le aa (Le.t (Le.q (l:=20000*k+100008) oM));refine yG (A:=[_]) I (uB sizeOf53 pH ap (aa.le (Le.t (Le.q (l:=20000*k+100010) oM)))) λbk U=>(go3 ?_);refine xH (qK (t:=4) zR mh1 I U) ?_;intro bq J O;refine yI (λE S=>zS I J E S) ?_;exact(Rp.Is.cast O (by rw[bj,zue];rfl))
theorem zJ4{k m n j:Nat}{vs:Value}{s:Sq}(rs:(tSd k m n j).Is h0 vs s){d:Int}(hd1:-9223372036854775808<=d)(hd2:d<9223372036854775808)(hcd0:k<=10000)(hcd1:nmA s)(hcd2:∀f,f<s.2.1.length->(s.2.1.getD f zA).2.1.length<=10000/\∀l,l<(s.2.1.getD f zA).2.1.length->((s.2.1.getD f zA).2.1.getD l []).length<=10000)(hcd3:zM7 s s.2.1)(hcd4:yHV s)(hcd5:0<=d)(hcd6:d<=64):
 Calls prog 40 #[vs,vI d] w0 (Ret w0 h0 (λh r=>∃u0,r=.tuple #[u0,vB (True)]/\(rpP (rpQ 400000) (rpQ 400000)).Is h u0 (arS s d s.2.1.length))):=by
 have cp:=hcd3.2.1;refine cb2 42 vs (vI d) func40 hs ?_;refine go2 ?_;refine nB rs λb2 br ak=>(nA (ρ:=(rpP (rpQ 400000) (rpQ 400000))) (X:=((0:Rat),(0:Rat))) tP (yF (yE dC) (yE dC)) λb4 bq ax=>(go8 ?_));refine gU 4 17 (vB ((d<(0:Int))\/((64:Int)<d))) ?_ ?_
 ·
  refine yK (d<(0:Int)) (λhg=>?_) (λhg=>?_)
  ·
   refine gT hg I (go4 ?_);refine gqU ?_;exact y2e (uL hg)
  refine gF hg I (go6 ?_);refine gqU ?_;exact y2e (uM hg)
 refine gc2 (λO=>?_) λO=>?_
 · exact absurd O oM
 refine go4 ?_;refine nA (ρ:=(rpP (rpQ 400000) (rpQ 400000))) (X:=((0:Rat),(0:Rat))) tP (yF (yE dC) (yE dC)) λb6 bp aw=>(go5 ?_);refine lX (xB qP pH ak) λci bk=>(cL (ev1 I) call67 (λw hs=>oS hs bk (by first|omega|exact hcd1|exact hcd2|exact hcd3.2.1) (by first|omega|exact hcd1|exact hcd2|exact hcd3.2.1) (by first|omega|exact hcd1|exact hcd2|exact hcd3.2.1)) λar h1 co bj=>(go5 ?_));refine gcL (ι:=Nat×List Value×Mem) (λ(i,G,ma)=>(MLe h1 ma/\((rpP (rpQ 400000) (rpQ 400000)).R ma G (arS s d i)/\i<=s.2.1.length),[(1,vI d),(2,vP b2 0),(4,vP b4 0),(6,vP b6 0),(20,ar),(21,vI (↑(s.2.1).length:Int)),(22,vI ↑i)],[.var b6 34 G,.var b4 34 bq,.var b2 50 br],ma,s.2.1.length-i)) (0,bp,h1) ?_ ?_
 · exact⟨mle,aw.up,oM⟩
 rintro⟨i,G,ma⟩ ⟨bt,D,cj⟩
 refine yW ?_;refine gc6 (λap=>?_) λap=>?_
 ·
  have an:=hcd3.1 i oM;have ao:=zGV hcd3 (i:=i) oM;refine go6 ?_;refine lX (xI zA i underlying47 sJ bj) λch bi=>(lX (xA sJ bi) λcg bh=>(nA (ρ:=(tFc 1 1)) (X:=((zT,(0:Rat)),([],([]:List Nat)))) qJ (yF (yF (yS (yE dC)) (yE dC)) (yF wD kE)) λb8 ct av=>?_));have aa:=(Le.p (Le.p (Le.t (Le.q (l:=m+1) oM)) (Le.q (l:=n+1) oM)) (Le.refl _)).R av;refine zU (A:=[]) (uB sizeOf83 pH aa bh) λbo ah=>(go4 ?_);refine lX (xB qP pH ak) λcf bg=>(lX (xB sJ pH ah) λce bf=>(cL (ev2 I I) call87 (λw hs=>zMG hs (bg.le (Le.p (Le.refl _) (Le.p (Le.s (Le.p (Le.p (Le.t (Le.q (l:=m+1) oM)) (Le.q (l:=n+1) oM)) (Le.refl _))) (Le.refl _)))) bf oM (by first|omega|exact an|exact ao) (by first|omega|exact an|exact ao)) λcd h2 cn be=>(nA (ρ:=(tPt (20000*k+100010))) (X:=zT) yO (yS (yE oM)) λb9 cq au=>(zU (A:=[]) (uB sizeOf53 pH au be) λbn H=>(go4 ?_)))));refine lX (xB zR pH H) λcc bd=>(lX (xB zR pH H) λcb bc=>(cL (ev2 I I) call88 (λw hs=>zQ7 hs bd bc oM) λaq h3 cm J=>?_));replace J:=Rp.Is.le J (Le.q (l:=120000*k+600069) oM);replace J:(rpQ 200).Is h3 aq (xO (arV s (s.2.1.getD i zA)) (arV s (s.2.1.getD i zA))):=(reb J I (hcd4 i oM));refine go1 ?_;refine cL (ev2 I I) call13 (λw hs=>iY hs J oM oM dC) λca h4 cl bb=>?_;obtain⟨U,rfl,C⟩:=bb
  change (rpP (rpQ (200+140)) (rpQ (200+140))).Is h4 U (dB (xO (arV s (s.2.1.getD i zA)) (arV s (s.2.1.getD i zA))) d,dD (xO (arV s (s.2.1.getD i zA)) (arV s (s.2.1.getD i zA))) d) at C
  replace C:=Rp.Is.le C (Le.p (Le.q (l:=340) oM) (Le.q (l:=340) oM));refine go3 ?_;refine nA (ρ:=(rpP (rpQ 340) (rpQ 340))) (X:=((0:Rat),(0:Rat))) tP (yF (yE dC) (yE dC)) λcu bu am=>(zU (A:=[]) (uB sizeOf34 pH am C) λbm ae=>(go4 ?_));refine lX (xB zK6 pH D) λbz ba=>(lX (xB zK6 pH ae) λbx az=>(cL (ev2 I I) call89 (λw hs=>zO9 hs ba az dC) λbw h5 ck ai=>?_));replace ai:=Rp.Is.le ai (Le.p (Le.q (l:=400341) oM) (Le.q (l:=400341) oM));have Z:=(Le.p (Le.q (l:=400341) dC) (Le.q (l:=400341) dC)).R D;refine zU (A:=[_,_,_]) (uB sizeOf34 pH Z ai) λaj ad=>(go7 ?_);refine uR (A:=[]) (uR (A:=[]) (uR (A:=[]) ?_));refine gqL ((i+1),aj,h5) ?_ ?_
  · exact⟨mle,(reb2 ad I (by have:=(zPX hcd4 d (i+1) oM).1;omega) (by have:=(zPX hcd4 d (i+1) oM).2;omega)),oM⟩
  omega
 have ei:i=s.2.1.length:=by omega
 refine go7 ?_;refine lX (xB zK6 pH D) λbv ay=>(zU (A:=[_]) (uB sizeOf34 pH ax ay) λbl ac=>(go4 ?_));refine xH (qK (t:=4) zK6 mh1 I ac) ?_;intro bs M ab;refine yI (λE S=>vG I M (qQ I) E S) ?_;refine⟨_,?_,(Rp.Is.cast ab (by rw[ei]))⟩;rw[wB trivial]
theorem zAQ(hsf:SaneF):
 Calls prog 8 #[] w0 (Ret w0 h0 (λ_ r=>r=.bool true)):=by
 refine cb0 90 func8 hs ?_;refine go7 ?_;refine cL (vs:=[vI (2)]) ⟨I,y3i⟩ call39 (λw hs=>qI hs dC dC) λep h1 fa cn=>(cL (vs:=[_,vI (1)]) e2z call13 (λw hs=>iY hs cn dC dC dC) λeo h2 ez cm=>?_);obtain⟨ai,rfl,G⟩:=cm
 change (rpP (rpQ (2+140)) (rpQ (2+140))).Is h2 ai (dB (((2:Int):Int):Rat) (1:Int),dD (((2:Int):Int):Rat) (1:Int)) at G
 replace G:=Rp.Is.le G (Le.p (Le.q (l:=142) oM) (Le.q (l:=142) oM));refine go3 ?_;refine nA (ρ:=(rpP (rpQ 1) (rpQ 1))) (X:=((0:Rat),(0:Rat))) tP (yF (yE dC) (yE dC)) λb1 ft bh=>?_;have bb:=(Le.p (Le.q (l:=142) dC) (Le.q (l:=142) dC)).R bh;refine zU (A:=[]) (uB sizeOf34 pH bb G) λdn ac=>(go5 ?_);refine cL (vs:=[vI (9),vI (4)]) e2z call10 (λw hs=>zDY hs dC dC dC dC) λen h3 ey cl=>(cL (vs:=[_,vI (1)]) e2z call13 (λw hs=>iY hs cl dC dC dC) λem h4 ew ck=>?_);obtain⟨ah,rfl,D⟩:=ck
 change (rpP (rpQ (2+140)) (rpQ (2+140))).Is h4 ah (dB (kJ (9:Int) (4:Int)) (1:Int),dD (kJ (9:Int) (4:Int)) (1:Int)) at D
 replace D:=Rp.Is.le D (Le.p (Le.q (l:=142) oM) (Le.q (l:=142) oM));refine go3 ?_;refine nA (ρ:=(rpP (rpQ 1) (rpQ 1))) (X:=((0:Rat),(0:Rat))) tP (yF (yE dC) (yE dC)) λb3 fs bg=>?_;have ba:=(Le.p (Le.q (l:=142) dC) (Le.q (l:=142) dC)).R bg;refine zU (A:=[]) (uB sizeOf34 pH ba D) λdm ab=>(go5 ?_);refine cL (vs:=[vI (0),vI (0),vI (0)]) e3z call45 (λw hs=>tO hs dC dC dC dC dC dC) λel h5 ev cj=>(cL (vs:=[vI (2),vI (2),vI (2)]) e3z call45 (λw hs=>tO hs dC dC dC dC dC dC) λek h6 eu ci=>?_);refine uH (vs:=[_,_]) I I I I call35 e2z (λw hs=>zIM hs cj.up ci dC dC (by first|omega|exact hsf.h)) ?_;intro ej h7 fu es Z;obtain⟨eq,cu,bc,rfl,Z,rfl,cv,O⟩:=Z
 change RL (tFc (10000*2+10000*2+20000) (10000*2+10000*2+20000)) h7 bc (blF (T3.mk (((0:Int):Int):Rat) (((0:Int):Int):Rat) (((0:Int):Int):Rat)) (T3.mk (((2:Int):Int):Rat) (((2:Int):Int):Rat) (((2:Int):Int):Rat))) at O
 replace Z:=Rp.Is.le Z (Le.p (Le.s (Le.t (Le.q (l:=48) oM))) (Le.refl _));replace O:=(Le.p (Le.p (Le.t (Le.q (l:=60000) oM)) (Le.q (l:=60000) oM)) (Le.refl _)).rl O;refine go3 ?_;refine nA (ρ:=(rpP (tLs 1) (rpP rpV (rpS (rpP rpI (rpP rpI (rpQ 1))))))) (X:=([],((Value.slice none 0 0),[]))) qC (yF wD (yF fG wD)) λb5 fr bf=>?_;have am:=(Le.p (Le.s (Le.t (Le.q (l:=48) dC))) (Le.p (Le.refl _) (Le.s (Le.p (Le.refl _) (Le.p (Le.refl _) (Le.q (l:=6) dC)))))).R bf;refine zU (A:=[]) (uB sizeOf50 pH am Z) λaa M=>(go5 ?_);refine zX (A:=[_]) (ρ:=(tFc 60000 60000)) O ?_;intro h8 co an;replace M:=M.mono co;have ap:(tSd 48 60000 60000 6).R h8 aa (blP (T3.mk (((0:Int):Int):Rat) (((0:Int):Int):Rat) (((0:Int):Int):Rat)) (T3.mk (((2:Int):Int):Rat) (((2:Int):Int):Rat) (((2:Int):Int):Rat)),(blF (T3.mk (((0:Int):Int):Rat) (((0:Int):Int):Rat) (((0:Int):Int):Rat)) (T3.mk (((2:Int):Int):Rat) (((2:Int):Int):Rat) (((2:Int):Int):Rat)),[])):=zD8 M an;have J:(tSd 48 60000 60000 6).R h8 aa (bkS (pI 0 0 0) (pI 2 2 2)):=Rp.castR ap zoz;refine lX (xB qP pH J) λei ch=>(cL (ev1 I) call25 (λw hs=>zAI hs ch dC (by first|omega|exact hsf.ok.1.1|exact hsf.ok.1.2|exact hsf.ok.2.1) (by first|omega|exact hsf.ok.1.1|exact hsf.ok.1.2|exact hsf.ok.2.1) (by first|omega|exact hsf.ok.1.1|exact hsf.ok.1.2|exact hsf.ok.2.1)) λeh h9 er cg=>?_);obtain⟨ae,rfl,C⟩:=cg
 change (tPt (50000*48+300000)).Is h9 ae (cnS (bkS (pI 0 0 0) (pI 2 2 2))) at C
 replace C:=Rp.Is.le C (Le.t (Le.q (l:=2700000) oM));refine go3 ?_;refine nA (ρ:=(tPt 1)) (X:=zT) yO (yS (yE dC)) λb7 fq be=>?_;have ak:=(Le.t (Le.q (l:=2700000) dC)).R be;refine zU (A:=[]) (uB sizeOf53 pH ak C) λct ao=>(go5 ?_);refine lX (xB qP pH J) λeg cf=>(cL (vs:=[_,vI (0)]) e2z call40 (λw hs=>zJ4 hs cf dC dC dC (by first|omega|exact hsf.ok.1.1|exact hsf.ok.1.2|exact hsf.ok.2.1|exact hsf.ok.2.2) (by first|omega|exact hsf.ok.1.1|exact hsf.ok.1.2|exact hsf.ok.2.1|exact hsf.ok.2.2) (by first|omega|exact hsf.ok.1.1|exact hsf.ok.1.2|exact hsf.ok.2.1|exact hsf.ok.2.2) (by first|omega|exact hsf.ok.1.1|exact hsf.ok.1.2|exact hsf.ok.2.1|exact hsf.ok.2.2) oM oM) λef cp dl ce=>?_);obtain⟨ad,rfl,U⟩:=ce
 change (rpP (rpQ 400000) (rpQ 400000)).Is cp ad (arS (bkS (pI 0 0 0) (pI 2 2 2)) (0:Int) (bkS (pI 0 0 0) (pI 2 2 2)).2.1.length) at U
 refine go3 ?_;refine nA (ρ:=(rpP (rpQ 1) (rpQ 1))) (X:=((0:Rat),(0:Rat))) tP (yF (yE dC) (yE dC)) λb9 fp bd=>?_;have aj:=(Le.p (Le.q (l:=400000) dC) (Le.q (l:=400000) dC)).R bd;refine zU (A:=[]) (uB sizeOf34 pH aj U) λcq H=>(go4 ?_);refine zK 54 _ [] (zai 0 4 ((4,.c)::(5,.c)::zai 6 4 ((10,.c)::(11,.c)::zai 12 9 ((21,.c)::(22,.q)::(23,.q)::(24,.q)::(25,.c)::(26,.c)::(27,.c)::zai 28 6 ((34,.c)::(35,.c)::zai 36 7 ((43,.c)::(44,.c)::zai 45 6 [(51,.c),(52,.q),(53,.q)])))))) yA nX (wV zot) nX (λr hr=>hr) (xD I (λ_ _=>OpV.tr (by exact zPN.1) (xL I)) I (go2 ?_));refine oX I (xB yJ (y4i pH) ac) λee cd=>?_;refine w_c I (rC I I (sC (vs:=[vI (1)]) ⟨I,y3i⟩ call39 (λw hs=>qI hs dC dC) λed fo dk cc=>?_));refine w_c I (rC I I (sC (ev2 I I) call15 (λw hs=>qH hs cd.up cc dC) λaz fm dj cb=>?_));obtain rfl:az=.bool true:=by rw[show az=vB ((dB (((2:Int):Int):Rat) (1:Int))=(((1:Int):Int):Rat)) from cb,wB (by exact zPN.2.1)]
 refine go3 ?_;refine oX I (xB yJ (y4u pH) ac) λec ca=>?_;refine w_c I (rC I I (sC (vs:=[vI (3),vI (2)]) e2z call10 (λw hs=>zDY hs dC dC dC dC) λeb fl di bz=>?_));refine w_c I (rC I I (sC (ev2 I I) call15 (λw hs=>qH hs ca.up bz dC) λay fk dh bx=>?_));obtain rfl:ay=.bool true:=by rw[show ay=vB ((dD (((2:Int):Int):Rat) (1:Int))=(kJ (3:Int) (2:Int))) from bx,wB (by exact zPN.2.2)]
 refine go2 ?_;refine xG I I I (λh' L' hh hR=>OpV.tr (by exact yCS.1) (xL I)) I (go3 ?_);refine oX I (xB yJ (y4i pH) ab) λea bw=>(go1 ?_);refine oX I (xB yJ (y4u pH) ab) λdz bv=>?_;refine w_c I (rC I I (sC (ev2 I I) call15 (λw hs=>qH hs bw bv dC) λax fj df bu=>?_));obtain rfl:ax=.bool true:=by rw[show ax=vB ((dB (kJ (9:Int) (4:Int)) (1:Int))=(dD (kJ (9:Int) (4:Int)) (1:Int))) from bu,wB (by exact yCS.2)]
 refine go2 ?_;refine oX I (xB qP pH J) λdy bt=>?_;refine w_c I (rC I I (sC (ev1 I) call26 (λw hs=>oR hs bt dC (by first|omega|exact hsf.ok.1.1|exact hsf.ok.1.2|exact hsf.ok.2.1) (by first|omega|exact hsf.ok.1.1|exact hsf.ok.1.2|exact hsf.ok.2.1) (by first|omega|exact hsf.ok.1.1|exact hsf.ok.1.2|exact hsf.ok.2.1)) λdx fi de aq=>?_));replace aq:=Rp.Is.le aq (Le.q (l:=1060004) oM);refine w_c I (rC I I (sC (vs:=[vI (8)]) ⟨I,y3i⟩ call39 (λw hs=>qI hs dC dC) λdw fh dd bs=>?_));refine w_c I (rC I I (sC (ev2 I I) call15 (λw hs=>qH hs aq.up bs dC) λaw fg dc br=>?_));obtain rfl:aw=.bool true:=by rw[show aw=vB ((pX (bkS (pI 0 0 0) (pI 2 2 2))/((6:Int):Rat))=(((8:Int):Int):Rat)) from br,wB (by exact hsf.vol)]
 refine go2 ?_;refine xG I I I (λh' L' hh hR=>OpV.tr (by exact hsf.cen.2) (xL I)) I (go2 ?_);refine oX I (xB zR pH ao) λdv bq=>?_;refine w_c I (rC I I (sC (vs:=[vI (1),vI (1),vI (1)]) e3z call45 (λw hs=>tO hs dC dC dC dC dC dC) λdu ff db bp=>?_));refine w_c I (rC I I (sC (ev2 I I) call27 (λw hs=>x0 hs bq.up bp dC) λav fe da bo=>?_));obtain rfl:av=.bool true:=by rw[show av=vB ((cnS (bkS (pI 0 0 0) (pI 2 2 2)))=(T3.mk (((1:Int):Int):Rat) (((1:Int):Int):Rat) (((1:Int):Int):Rat))) from bo,wB (by exact hsf.cen.1)]
 refine go2 ?_;refine xG I I I (λh' L' hh hR=>OpV.tr (by trivial) (xL I)) I (go3 ?_);refine oX I (xB yJ (y4i pH) H) λdt bn=>?_;refine w_c I (rC I I (sC (vs:=[vI (24)]) ⟨I,y3i⟩ call39 (λw hs=>qI hs dC dC) λdr fd cz bm=>?_));refine w_c I (rC I I (sC (ev2 I I) call15 (λw hs=>qH hs bn.up bm dC) λau fc cy bl=>?_));obtain rfl:au=.bool true:=by rw[show au=vB (((arS (bkS (pI 0 0 0) (pI 2 2 2)) (0:Int) (bkS (pI 0 0 0) (pI 2 2 2)).2.1.length).1)=(((24:Int):Int):Rat)) from bl,wB (by exact zbi Prod.fst hsf.area)]
 refine go3 ?_;refine oX I (xB yJ (y4u pH) H) λdq bk=>(go1 ?_);refine oX I (xB yJ (y4i pH) H) λdp bj=>?_;refine w_c I (rC I I (sC (ev2 I I) call15 (λw hs=>qH hs bk bj dC) λar fb cw bi=>?_));obtain rfl:ar=.bool true:=by rw[show ar=vB (((arS (bkS (pI 0 0 0) (pI 2 2 2)) (0:Int) (bkS (pI 0 0 0) (pI 2 2 2)).2.1.length).2)=((arS (bkS (pI 0 0 0) (pI 2 2 2)) (0:Int) (bkS (pI 0 0 0) (pI 2 2 2)).2.1.length).1)) from bi,wB (by rw[hsf.area])]
 refine go5 ?_;refine zF I I ?_
 rfl
end
end Go.Proofs.YtboaboflnckgoaaGreat
namespace Bk
open Classical
variable {a b:Pt}
def zD9(a b:Pt)(f:Nat):Rat:=if f<2 then(b.y-a.y)*(b.z-a.z) else if f<4 then(b.z-a.z)*(b.x-a.x) else(b.x-a.x)*(b.y-a.y)
theorem six{f:Nat}(h:f<6):f=0\/f=1\/f=2\/f=3\/f=4\/f=5:=by omega
theorem zZH{f:Nat}(h:f<6):xO (arV (bxS a b) ((fB3 a b).getD f zA)) (arV (bxS a b) ((fB3 a b).getD f zA))=zD9 a b f*zD9 a b f:=by
 have g:∀(i j k l:Nat) (c:Fc),i<8->j<8->k<8->l<8->c.2.1=[[(i:Int),(j:Int),(k:Int),(l:Int)]]->arV (bxS a b) c=scT (1/2) (zA7 [T3.mk (cC a b i) (cC a b j) (cC a b k),T3.mk (cC a b i) (cC a b k) (cC a b l)]):=λi j k l c hi G D C e=>by
  unfold arV;rw[e];exact zbi (λz=>scT (1/2) (zA7 z)) (zAU i j k l hi G D C)
 rcases six h with rfl|rfl|rfl|rfl|rfl|rfl
 · rw[g 0 1 3 2 _ zov zov zov zov I]
   simp only[zA7,List.foldl,xO,xC,kZ,qF,scT,cC,cU,cB,uB1,zzi,z1i,if_true,z5u,if_false,zT,zD9];generalize a.x=p;generalize a.y=q;generalize a.z=r;generalize b.x=u;generalize b.y=v;generalize b.z=w;grind
 · rw[g 4 6 7 5 _ zov zov zov zov I]
   simp only[zA7,List.foldl,xO,xC,kZ,qF,scT,cC,cU,cB,uB1,zzi,z1i,if_true,z5u,if_false,zT,zD9];generalize a.x=p;generalize a.y=q;generalize a.z=r;generalize b.x=u;generalize b.y=v;generalize b.z=w;grind
 · rw[g 0 4 5 1 _ zov zov zov zov I]
   simp only[zA7,List.foldl,xO,xC,kZ,qF,scT,cC,cU,cB,uB1,zzi,z1i,if_true,z5u,if_false,zT,zD9];generalize a.x=p;generalize a.y=q;generalize a.z=r;generalize b.x=u;generalize b.y=v;generalize b.z=w;grind
 · rw[g 2 3 7 6 _ zov zov zov zov I]
   simp only[zA7,List.foldl,xO,xC,kZ,qF,scT,cC,cU,cB,uB1,zzi,z1i,if_true,z5u,if_false,zT,zD9];generalize a.x=p;generalize a.y=q;generalize a.z=r;generalize b.x=u;generalize b.y=v;generalize b.z=w;grind
 · rw[g 0 2 6 4 _ zov zov zov zov I]
   simp only[zA7,List.foldl,xO,xC,kZ,qF,scT,cC,cU,cB,uB1,zzi,z1i,if_true,z5u,if_false,zT,zD9];generalize a.x=p;generalize a.y=q;generalize a.z=r;generalize b.x=u;generalize b.y=v;generalize b.z=w;grind
 · rw[g 1 5 7 3 _ zov zov zov zov I]
   simp only[zA7,List.foldl,xO,xC,kZ,qF,scT,cC,cU,cB,uB1,zzi,z1i,if_true,z5u,if_false,zT,zD9];generalize a.x=p;generalize a.y=q;generalize a.z=r;generalize b.x=u;generalize b.y=v;generalize b.z=w;grind
theorem zMT{f:Nat}(h:f<6):∃i j k l:Nat,i<8/\j<8/\k<8/\l<8/\((fB3 a b).getD f zA).2.1=[[(i:Int),(j:Int),(k:Int),(l:Int)]]:=by
 rcases six h with rfl|rfl|rfl|rfl|rfl|rfl
 · exact⟨0,1,3,2,by decide,by decide,by decide,by decide,I⟩
 · exact⟨4,6,7,5,by decide,by decide,by decide,by decide,I⟩
 · exact⟨0,4,5,1,by decide,by decide,by decide,by decide,I⟩
 · exact⟨2,3,7,6,by decide,by decide,by decide,by decide,I⟩
 · exact⟨0,2,6,4,by decide,by decide,by decide,by decide,I⟩
 · exact⟨1,5,7,3,by decide,by decide,by decide,by decide,I⟩
theorem yCZ{i j k l:Nat}(hi:i<8)(hj:j<8)(hk:k<8)(hl:l<8){u v:Nat}(hu:u<1)(hv:v<4):0<=(([[(i:Int),(j:Int),(k:Int),(l:Int)]]:List (List Int)).getD u []).getD v 0/\(([[(i:Int),(j:Int),(k:Int),(l:Int)]]:List (List Int)).getD u []).getD v 0<((8:Nat):Int):=by
 have h0:u=0:=by omega
 subst h0;have:v=0\/v=1\/v=2\/v=3:=by omega
 rcases this with rfl|rfl|rfl|rfl
 · show 0<=(i:Int)/\(i:Int)<((8:Nat):Int);omega
 · show 0<=(j:Int)/\(j:Int)<((8:Nat):Int);omega
 · show 0<=(k:Int)/\(k:Int)<((8:Nat):Int);omega
 · show 0<=(l:Int)/\(l:Int)<((8:Nat):Int);omega
theorem yIU(h:∀f,f<6->lq (zD9 a b f*zD9 a b f)<=200):yIV (bxS a b):=by
 refine⟨⟨λf D l O m Z=>?_,λf D=>?_⟩,⟨λf D=>⟨λu v G U=>?_,λu G=>?_,?_⟩,?_,?_⟩,λf D=>?_⟩
 · have C:f<6:=D
   obtain⟨i,j,k,q,hi,M,J,H,e⟩:=zMT (a:=a) (b:=b) C
   change l<((fB3 a b).getD f zA).2.1.length at O
   change m<(((fB3 a b).getD f zA).2.1.getD l []).length at Z
   show 0<=(((fB3 a b).getD f zA).2.1.getD l []).getD m 0/\(((fB3 a b).getD f zA).2.1.getD l []).getD m 0<_
   rw[e] at O Z ⊢;have h0:l=0:=by have:l<1:=O;omega
   subst h0;exact yCZ hi M J H zov Z
 · have C:f<6:=D
   obtain⟨i,j,k,q,hi,M,J,H,e⟩:=zMT (a:=a) (b:=b) C
   show((fB3 a b).getD f zA).2.1.length<=10000/\∀l,l<((fB3 a b).getD f zA).2.1.length->(((fB3 a b).getD f zA).2.1.getD l []).length<=10000
   rw[e];refine⟨show 1<=10000 by decide,λl O=>?_⟩;have h0:l=0:=by have:l<1:=O;omega
   subst h0
   show 4<=10000
   decide
 · have C:f<6:=D
   obtain⟨i,j,k,q,hi,M,J,H,e⟩:=zMT (a:=a) (b:=b) C
   change u<((fB3 a b).getD f zA).2.1.length at G
   change v<(((fB3 a b).getD f zA).2.1.getD u []).length at U
   show 0<=(((fB3 a b).getD f zA).2.1.getD u []).getD v 0/\(((fB3 a b).getD f zA).2.1.getD u []).getD v 0<_
   rw[e] at G U ⊢;have h0:u=0:=by have:u<1:=G;omega
   subst h0;exact yCZ hi M J H zov U
 · have C:f<6:=D
   obtain⟨i,j,k,q,hi,M,J,H,e⟩:=zMT (a:=a) (b:=b) C
   change u<((fB3 a b).getD f zA).2.1.length at G
   show(((fB3 a b).getD f zA).2.1.getD u []).length<=1000
   rw[e] at G ⊢;have h0:u=0:=by have:u<1:=G;omega
   subst h0
   show 4<=1000
   decide
 · have C:f<6:=D
   obtain⟨i,j,k,q,hi,M,J,H,e⟩:=zMT (a:=a) (b:=b) C
   show((fB3 a b).getD f zA).2.1.length<=1000
   rw[e]
   show 1<=1000
   decide
 · show 6<=1000
   decide
 · show(rX (bxS a b) (fB3 a b) 6).length<=1000
   rw[zQJ]
   show 12<=1000
   decide
 · show lq (xO (arV (bxS a b) ((fB3 a b).getD f zA)) (arV (bxS a b) ((fB3 a b).getD f zA)))<=200
   rw[zZH D];exact h f D
theorem yJL(h:a.x<b.x/\a.y<b.y/\a.z<b.z):cnO (bxS a b)/\cnS (bxS a b)=scT (1/2) (qF a b):=by
 have G:0<(b.x-a.x)*(b.y-a.y)*(b.z-a.z):=tV (tV zo2 zo2) zo2;have H:((4:Int):Rat)=4:=I;have h1:((1:Int):Rat)=1:=I;have C:((4:Int):Rat)*pX (bxS a b)=24*((b.x-a.x)*(b.y-a.y)*(b.z-a.z)):=by rw[zUL,H];grind
 have D:cnO (bxS a b):=by unfold cnO;rw[C];grind
 refine⟨D,?_⟩;unfold cnS;rw[zae D,C,yHK,h1];generalize (b.x-a.x)*(b.y-a.y)*(b.z-a.z)=V at G;unfold scT qF;rw[gH];refine⟨?_,?_,?_⟩<;>simp only<;>grind
theorem yIX{n:Int}(h:n=0){q:Rat}(hq:q=4*4):dB q n=4/\dD q n=4:=by
 subst h;subst hq;have h0:¬(4*4:Rat)<0:=by decide +kernel
 have H:¬((yU (4*4:Rat)<0\/(0:Int)<0)\/64<(0:Int)):=λe=>by
  rcases e with(e|e)|e
  · exact h0 (qX.1 e)
  · omega
  · omega
 obtain⟨G,D,Z,U⟩:=zGA H;have O:flN (4*4:Rat) (kN 0)=16:=by decide +kernel
 have M:sqN 16=4:=zN6 zov zov;have J:kN 0=0:=by decide
 have C:fT (4*4:Rat) 0=4:=by
  unfold fT;rw[O,M,J];unfold ovQ
  decide +kernel
 rw[G,D,<-zVK h0 (by rw[C]),C];exact⟨I,I⟩
theorem zVF:SaneF:=by
 have hI:∀n:Int,(pI 0 0 0).x=((0:Int):Rat)/\(pI 2 2 2).x=((2:Int):Rat):=λ_=>⟨I,I⟩;have hlt:(pI 0 0 0).x<(pI 2 2 2).x/\(pI 0 0 0).y<(pI 2 2 2).y/\(pI 0 0 0).z<(pI 2 2 2).z:=by
  have:((0:Int):Rat)<((2:Int):Rat):=by decide +kernel
  exact⟨this,this,this⟩
 have hbl:iF (pI 0 0 0) (pI 2 2 2):=by
  have g:¬0<=vH ((0:Int):Rat) ((2:Int):Rat):=by rw[zAV];decide +kernel
  intro u hu;have:u=0\/u=1\/u=2:=by omega
  rcases this with rfl|rfl|rfl<;>exact g
 have hb:=zSE hbl;have h4:∀f,zD9 (pI 0 0 0) (pI 2 2 2) f=4:=λf=>by
  have:(((2:Int):Rat)-((0:Int):Rat))*(((2:Int):Rat)-((0:Int):Rat))=4:=by decide +kernel
  unfold zD9
  split
  · exact this
  · split
    · exact this
    · exact this
 refine⟨λ_=>zY6 hbl,?_,?_,?_,?_⟩
 · rw[hb]
   refine yIU λf hf=>?_;rw[h4 f];have h1:(4*4:Rat)=((16:Int):Rat):=by decide +kernel
   have:=nR 16 zov zov;rw[h1];omega
 · rw[hb,zUL]
   show 6*((((2:Int):Rat)-((0:Int):Rat))*(((2:Int):Rat)-((0:Int):Rat))*(((2:Int):Rat)-((0:Int):Rat)))/((6:Int):Rat)=((8:Int):Rat)
   decide +kernel
 · rw[hb]
   obtain⟨h1,h2⟩:=yJL hlt;refine⟨?_,h1⟩;rw[h2];have:1/2*(((0:Int):Rat)+((2:Int):Rat))=((1:Int):Rat):=by decide +kernel
   unfold scT qF pI;rw[gH];exact⟨this,this,this⟩
 · rw[hb]
   have hr:∀f,f<6->dB (xO (arV (bxS (pI 0 0 0) (pI 2 2 2)) ((fB3 (pI 0 0 0) (pI 2 2 2)).getD f zA)) (arV (bxS (pI 0 0 0) (pI 2 2 2)) ((fB3 (pI 0 0 0) (pI 2 2 2)).getD f zA))) 0=4/\dD (xO (arV (bxS (pI 0 0 0) (pI 2 2 2)) ((fB3 (pI 0 0 0) (pI 2 2 2)).getD f zA)) (arV (bxS (pI 0 0 0) (pI 2 2 2)) ((fB3 (pI 0 0 0) (pI 2 2 2)).getD f zA))) 0=4:=λf hf=>yIX I (by rw[zZH hf,h4 f]);have hs:∀i:Nat,i<=6->arS (bxS (pI 0 0 0) (pI 2 2 2)) 0 i=((i:Rat)*4,(i:Rat)*4):=by
    intro i
    induction i with
    |zero=>intro _;unfold arS;refine Prod.ext ?_ ?_<;>(show(0:Rat)=((0:Nat):Rat)*4;decide +kernel)
    |succ i ih=>
     intro hi;obtain⟨r1,r2⟩:=hr i zos;have e:=ih zos;have ec:((i+1:Nat):Rat)=(i:Rat)+1:=by rw[yvu];rfl
     unfold arS;rw[e];refine Prod.ext ?_ ?_
     · show(i:Rat)*4+dB (xO (arV (bxS (pI 0 0 0) (pI 2 2 2)) ((fB3 (pI 0 0 0) (pI 2 2 2)).getD i zA)) (arV (bxS (pI 0 0 0) (pI 2 2 2)) ((fB3 (pI 0 0 0) (pI 2 2 2)).getD i zA))) 0=_
       rw[r1,ec];grind
     · show(i:Rat)*4+dD (xO (arV (bxS (pI 0 0 0) (pI 2 2 2)) ((fB3 (pI 0 0 0) (pI 2 2 2)).getD i zA)) (arV (bxS (pI 0 0 0) (pI 2 2 2)) ((fB3 (pI 0 0 0) (pI 2 2 2)).getD i zA))) 0=_
       rw[r2,ec];grind
   show arS (bxS (pI 0 0 0) (pI 2 2 2)) 0 6=_
   rw[hs 6 zov];refine Prod.ext ?_ ?_<;>(show((6:Nat):Rat)*4=((24:Int):Rat);decide +kernel)
def yBG(u w:I3):Bool:=decide (u.1<w.1\/(u.1=w.1/\(u.2.1<w.2.1\/(u.2.1=w.2.1/\u.2.2<w.2.2))))
theorem yI4(v u w:I3):lsP (cP v u) (cP v w)↔yBG u w=true:=by
 unfold lsP yBG cP;rw[zie];simp only[yce,zsu];omega
def lsI(I:SI):List (List (List Int)):=I.2.map λf=>f.2.2.1
def zL2(I:SI):List Int:=orB (edZ (lsI I)) (λi k=>yBG (g3 I.1 i) (g3 I.1 k)) I.1.length
def ixJ(o:List Int)(n:Nat):Nat->List Int
  |0=>List.replicate n (0:Int)
  |i+1=>(ixJ o n i).set (o.getD i 0).toNat (i:Int)
def ixI(I:SI):List Int:=ixJ (zL2 I) I.1.length (zL2 I).length
def nwB(ix x:List Int):List Int:=zS1 (uG (λq=>ix.getD (x.getD q 0).toNat 0) x.length)
def zVA{α:Type}(p:Nat->Bool)(g:Nat->α):Nat->List α
  |0=>[]
  |i+1=>zVA p g i++(if p i then[g i] else[])
def zHN(p:Nat->Bool)(g:Nat->List Int):Nat->List (List Int)
  |0=>[]
  |i+1=>if p i then zHN p g i else dG (zHN p g i) (zD3 (λk=>decide (cJ (g i) ((zHN p g i).getD k [])<0)) (zHN p g i).length) (g i)
def poB(P:List I3)(f:FI)(i:Nat):Bool:=decide (0<arG (flI (dR f.1) P (f.2.2.1.getD i [])) (f.2.2.1.getD i []).length)
def nfB(P:List I3)(ix:List Int)(f:FI):FI:=(f.1,f.2.1,zVA (poB P f) (λi=>nwB ix (f.2.2.1.getD i [])) f.2.2.1.length++zHN (poB P f) (λi=>nwB ix (f.2.2.1.getD i [])) f.2.2.1.length,f.2.2.2)
def nmI(I:SI)(i:Nat):List Nat:=(I.2.getD i fi0).2.2.2
def nrI(I:SI):SI:=((zL2 I).map λk=>g3 I.1 k.toNat,(nsB (nmI I) I.2.length).map λi=>nfB I.1 (ixI I) (I.2.getD i fi0))
def nmB(I:SI):Bool:=(List.range I.2.length).all λi=>(List.range i).all λk=>!decide (nmI I i=nmI I k)
theorem zQU{α:Type}{P:Nat->Prop}{p:Nat->Bool}(g:Nat->α):∀n,(∀i,i<n->(P i↔p i=true))->cQ P g n=zVA p g n
  |0,_=>rfl
  |n+1,h=>by
   have ih:=zQU g n λi hi=>h i zos;have h1:=h n zos;unfold cQ zVA;rw[ih]
   by_cases e:P n
   · rw[zau e,zau (h1.1 e)]
   · rw[zae e,zae λe'=>e (h1.2 e')]
theorem zXZ{s:Sd}{ix:List Int}{f:Nat}{p:Nat->Bool}{g:Nat->List Int}:∀n,(∀i,i<n->(zEA s f i↔p i=true)/\nfL s ix f i=g i)->zAS s ix f n=zHN p g n
  |0,_=>rfl
  |n+1,h=>by
   have ih:=zXZ (s:=s) (ix:=ix) (f:=f) n λi hi=>h i zos;obtain⟨h1,h2⟩:=h n zos;unfold zAS zHN;rw[ih,h2,zCF (P:=zX0 (g n) (zHN p g n)) (p:=λk=>decide (cJ (g n) ((zHN p g n).getD k [])<0)) _ λk hk=>(show cJ (g n) ((zHN p g n).getD k [])<0↔_ from zie.symm)]
   by_cases e:zEA s f n
   · rw[zau e,zau (h1.1 e)]
   · rw[zae e,zae λe'=>e (h1.2 e')]
theorem zOB{q:Rat}(e:yU q=0):q=0:=by
 rw[bD] at e
 split at e
 · assumption
 · split at e<;>exact absurd e zov
theorem yAI(a r:Rat)(pl:Pl):scW a (scW r pl)=scW (a*r) pl:=by
 unfold scW;refine Prod.ext ?_ ?_
 · show T3.mk (a*(r*_)) (a*(r*_)) (a*(r*_))=T3.mk (a*r*_) (a*r*_) (a*r*_)
   rw[y0e,y0e,y0e]
 · show a*(r*_)=a*r*_
   rw[y0e]
theorem yGH{r:Rat}(hr:0<r){n:Int}(hn:¬n=0):ivA (r*(n:Rat))*r=1/((if n<0 then -n else n:Int):Rat):=by
 have D:¬(n:Rat)=0:=λe=>hn (zsu.1 e);have C:¬r=0:=λe=>absurd (e▸hr) zov;have hx:¬r*(n:Rat)=0:=λe=>(zoe.1 e).elim C D;have J:cM (r*(n:Rat))=r*((if n<0 then -n else n:Int):Rat):=by
  have h1:=zVD hr n;unfold cM;simp only[pT]
  by_cases h:n<0
  · rw[zau (h1.2 h),zau h,zui];grind
  · rw[zae (λe=>h (h1.1 e)),zae h]
 have G:¬((if n<0 then -n else n:Int):Rat)=0:=λe=>by
  have:=zsu.1 e
  split at this<;>omega
 unfold ivA;rw[J,zae (λe=>(zoe.1 e).elim C G)];generalize ((if n<0 then -n else n:Int):Rat)=m at G ⊢;have H:((1:Int):Rat)=1:=I;rw[H];grind
theorem yE4{v:I3}{f:FI}{r:Rat}(hr:0<r)(hn:¬f.1=z3)(hb:bd3 f.1=true):∃a:Int,(0<a/\a<=1000)/\scZ (scW r (cPl v f))=scW (1/(a:Rat)) (cPl v f):=by
 unfold bd3 at hb;rw[zie] at hb;have g:∀n:Int,-1000<=n/\n<=1000->¬yU (r*(n:Rat))=0->∃a:Int,(0<a/\a<=1000)/\scW (ivA (r*(n:Rat))) (scW r (cPl v f))=scW (1/(a:Rat)) (cPl v f):=λn h1 h2=>by
  have G:¬n=0:=λe=>h2 (by
   rw[e];exact zau (Rat.mul_zero _))
  refine⟨if n<0 then -n else n,by split<;>omega,?_⟩;rw[yAI,yGH hr G]
 unfold scZ
 split
 · rename_i e
   exact g _ hb.1 e
 · split
   · rename_i e
     exact g _ hb.2.1 e
   · split
     · rename_i e
       exact g _ hb.2.2 e
     · rename_i e1 e2 e3
       have h:=zVE (v:=v) hr hn;refine absurd ?_ h;have D:=zOB (zdi e1);have C:=zOB (zdi e2);have z3:=zOB (zdi e3);generalize (scW r (cPl v f)).1=t at D C z3;obtain⟨a,b,c⟩:=t;simp only at D C z3;rw[D,C,z3]
section
variable {v:I3}{I:SI}{s:Sd}
theorem zKE(h:cO v I s)(hb:chI I=true):fV s=zL2 I:=by
 have C:=oU h;unfold fV zL2;rw[zO7 (lt:=λi k=>yBG (g3 I.1 i) (g3 I.1 k)) (n:=s.1.length) (λi k hi D=>by rw[h.1,zGO zos,zGO zos];exact yI4 _ _ _) _ (zbe _),zIR h,C];rfl
theorem zRD(h:cO v I s)(hb:chI I=true):∀i,zHM s i=ixJ (zL2 I) I.1.length i
  |0=>by unfold zHM ixJ;rw[oU h]
  |i+1=>by unfold zHM ixJ;rw[zRD h hb i,zKE h hb]
theorem yFY(h:cO v I s)(hb:chI I=true):ixZ s=ixI I:=by
 unfold ixZ ixI;rw[zRD h hb,zKE h hb]
theorem yFX{f:Nat}(h:cO v I s)(hb:chI I=true)(hf:f<I.2.length):zKG v (nfB I.1 (ixI I) (I.2.getD f fi0)) (nfF s (ixZ s) f):=by
 obtain⟨r,hr,M⟩:=zRB (h.2.2.2 f hf);have e:=(h.2.2.2 f hf).2;have e1:(s.2.1.getD f zA).2.1=(I.2.getD f fi0).2.2.1:=zbi Prod.fst e;have e2:(s.2.1.getD f zA).2.2=(I.2.getD f fi0).2.2.2:=zbi Prod.snd e;have C:=mP h hb hf;have O:¬(I.2.getD f fi0).1=z3:=by
  unfold faB at C;replace C:=(zbu _ _▸C).2;rw[zbu,zbu,zje,zgu] at C;exact C.1.2
 have U:=zRC h hb hf;have D:∀i,i<(I.2.getD f fi0).2.2.1.length->(zEA s f i↔poB I.1 (I.2.getD f fi0) i=true):=λi hi=>by
  have hl:=U.2 i (by rw[zde];exact hi);rw[jR (flI (dR (I.2.getD f fi0).1) I.1) [] [] hi] at hl;unfold zEA poB;rw[zEU zov zov hl,y6,zie];have:(flI (dR (I.2.getD f fi0).1) I.1 ((I.2.getD f fi0).2.2.1.getD i [])).length=((I.2.getD f fi0).2.2.1.getD i []).length:=zde _;rw[this]
 have G:∀i,nfL s (ixZ s) f i=nwB (ixI I) ((I.2.getD f fi0).2.2.1.getD i []):=λi=>by
  unfold nfL nwB nwL;rw[yFY h hb,e1]
 have Z:bd3 (I.2.getD f fi0).1=true:=by
  unfold faB at C;exact(zbu _ _▸(zbu _ _▸C).1).1
 obtain⟨r',J,H⟩:=yE4 (v:=v) hr O Z;constructor
 · refine⟨r',J,?_⟩
   show scZ (s.2.1.getD f zA).1=_
   rw[M,H];rfl
 · refine Prod.ext ?_ e2
   show ouL s (ixZ s) f (s.2.1.getD f zA).2.1.length++zAS s (ixZ s) f (s.2.1.getD f zA).2.1.length=_
   rw[e1];have g1:ouL s (ixZ s) f (I.2.getD f fi0).2.2.1.length=zVA (poB I.1 (I.2.getD f fi0)) (λi=>nwB (ixI I) ((I.2.getD f fi0).2.2.1.getD i [])) (I.2.getD f fi0).2.2.1.length:=by
    unfold ouL;rw[zQU (nfL s (ixZ s) f) _ D]
    congr 1
    funext i
    exact G i
   rw[g1,zXZ (p:=poB I.1 (I.2.getD f fi0)) (g:=λi=>nwB (ixI I) ((I.2.getD f fi0).2.2.1.getD i [])) _ λi hi=>⟨D i hi,G i⟩]
   rfl
theorem zW8(h:cO v I s)(hb:chI I=true)(hn:nmB I=true):cO v (nrI I) (nrP s,nrF s,nrE s):=by
 have G:=(zBX h hb).1;have hl:=oU h;have H:=zKE h hb;have D:zAJ s s.2.1.length=(nsB (nmI I) I.2.length).map λi=>nfF s (ixZ s) i:=by
  rw[h.2.2.1];refine zJ8 (n:=I.2.length) (λi hi=>by show(s.2.1.getD i zA).2.2=_;exact zbi Prod.snd (h.2.2.2 i hi).2) (λi hi k J=>?_) _ (zbe _);have h1:=zob.1 (zob.1 hn i (zog.2 hi)) k (zog.2 J);rw[zje,zgu] at h1;exact h1
 refine⟨?_,?_,?_,?_⟩
 · show nrP s=_
   unfold nrP;rw[zau G];unfold zWW;refine rW zT (by rw[xZ,H];show _=(((zL2 I).map _).map _).length;rw[zde,zde]) λi hi=>?_;rw[xZ] at hi;have hg:=oN (s:=s) (i:=s.1.length) (k:=i) hi;rw[jL _ _ hi]
   show _=(((zL2 I).map λk=>g3 I.1 k.toNat).map (cP v)).getD i zT
   rw[H] at hi;rw[jR (cP v) z3 zT (by rw[zde];exact hi),jR (λk:Int=>g3 I.1 k.toNat) 0 z3 hi,<-H,h.1];have:((fV s).getD i 0)=(aI s s.1.length).getD i 0:=rfl;exact zGO zos
 · show nrE s=[]
   unfold nrE;rw[zau G];exact h.2.1
 · show(nrF s).length=((nsB (nmI I) I.2.length).map _).length
   unfold nrF;rw[zau G,D,zde,zde]
 · intro f O
   have C:f<(nsB (nmI I) I.2.length).length:=by
    have:((nsB (nmI I) I.2.length).map λi=>nfB I.1 (ixI I) (I.2.getD i fi0)).length=_:=zde _;have M:f<((nsB (nmI I) I.2.length).map λi=>nfB I.1 (ixI I) (I.2.getD i fi0)).length:=O;omega
   have hx:=zJ9 _ _ _ (gM (d:=0) C);have Z:(nrI I).2.getD f fi0=nfB I.1 (ixI I) (I.2.getD ((nsB (nmI I) I.2.length).getD f 0) fi0):=jR (λi=>nfB I.1 (ixI I) (I.2.getD i fi0)) 0 fi0 C;have U:(nrF s).getD f zA=nfF s (ixZ s) ((nsB (nmI I) I.2.length).getD f 0):=by
    unfold nrF;rw[zau G,D];exact jR (λi=>nfF s (ixZ s) i) 0 zA C
   show zKG v ((nrI I).2.getD f fi0) ((nrF s).getD f zA)
   rw[Z,U];exact yFX h hb hx
end
def fdI(B:List PI)(p:PI):Nat->Int
  |0=>-1
  |j+1=>if B.getD j (0,0)=p then(j:Int) else fdI B p j
def adI(B:List PI)(p:PI):List PI:=if fdI B p B.length<0 then B++[p] else B
def anI(B:List PI)(p:PI):Int:=if fdI B p B.length<0 then(B.length:Int) else fdI B p B.length
def plI(B x:List PI):Nat->List PI
  |0=>B
  |k+1=>adI (plI B x k) (x.getD k (0,0))
def pnI(B x:List PI):Nat->List Int:=uG λk=>anI (plI B x k) (x.getD k (0,0))
def zV2(T:List (List PI)):Nat->List PI
  |0=>[]
  |i+1=>plI (zV2 T i) (T.getD i []) (T.getD i []).length
def bsI(T:List (List PI)):List PI:=zV2 T T.length
def bxI(T:List (List PI)):List (List Int):=uG (λi=>pnI (zV2 T i) (T.getD i []) (T.getD i []).length) T.length
def ppI(T:List (List PI))(h:Int):List I3:=uG (λi=>(((bsI T).getD (i%(bsI T).length) (0,0)).1,((bsI T).getD (i%(bsI T).length) (0,0)).2,if((bsI T).length:Int)<=(i:Int) then h else 0)) (2*(bsI T).length)
def xaI(T:List (List PI))(i k:Nat):Int:=((bxI T).getD i []).getD k 0
def xbI(T:List (List PI))(i k:Nat):Int:=((bxI T).getD i []).getD ((k+1)%((bxI T).getD i []).length) 0
def snI(T:List (List PI))(h:Int)(i k:Nat):I3:=((g3 (ppI T h) (xbI T i k).toNat).2.1-(g3 (ppI T h) (xaI T i k).toNat).2.1,-((g3 (ppI T h) (xbI T i k).toNat).1-(g3 (ppI T h) (xaI T i k).toNat).1),0)
def sdI(T:List (List PI))(h:Int)(i k:Nat):FI:=(snI T h i k,dt3 (snI T h i k) (g3 (ppI T h) (xaI T i k).toNat),[[xaI T i k,xbI T i k,xbI T i k+((bsI T).length:Int),xaI T i k+((bsI T).length:Int)]],[115,48+i,46,48+k])
def prI(T:List (List PI))(h:Int):SI:=(ppI T h,kK (λi=>uG (λk=>sdI T h i k) ((bxI T).getD i []).length) (bxI T).length++
 [((0,0,-1),0,uG (λi=>zAA ((bxI T).getD i []) ((bxI T).getD i []).length) (bxI T).length,[98,111,116,116,111,109]),
  ((0,0,1),h,uG (λi=>uG (λk=>((bxI T).getD i []).getD k 0+((bsI T).length:Int)) ((bxI T).getD i []).length) (bxI T).length,[116,111,112])])
def sb3(u w:I3):I3:=(u.1-w.1,u.2.1-w.2.1,u.2.2-w.2.2)
def cx3(a b:I3):I3:=(a.2.1*b.2.2-a.2.2*b.2.1,a.2.2*b.1-a.1*b.2.2,a.1*b.2.1-a.2.1*b.1)
def th3(a b c:I3):I3:=cx3 (sb3 b a) (sb3 c a)
def ng3(n:I3):I3:=(-n.1,-n.2.1,-n.2.2)
def tsI(a b c:I3)(i k:Int)(nm:List Nat):FI:=(th3 a b c,dt3 (th3 a b c) a,[[i,k,3]],nm)
def pyI(A B C T:I3):SI:=([A,B,C,T],[tsI A B T 0 1 [115,48],tsI B C T 1 2 [115,49],tsI C A T 2 0 [115,50],(ng3 (th3 A B C),-dt3 (th3 A B C) A,[[2,1,0]],[98,97,115,101])])
def teI(p c q e f g:Nat):SI:=pyI (0,0,0) (1+p,0,0) (c,1+q,0) (e,f,1+g)
def bxJ(p q r:Int):SI:=([(0,0,0),(0,0,r),(0,q,0),(0,q,r),(p,0,0),(p,0,r),(p,q,0),(p,q,r)],[((-1,0,0),0,[[0,1,3,2]],[120,48]),((1,0,0),p,[[4,6,7,5]],[120,49]),((0,-1,0),0,[[0,4,5,1]],[121,48]),((0,1,0),q,[[2,3,7,6]],[121,49]),((0,0,-1),0,[[0,2,6,4]],[122,48]),((0,0,1),r,[[1,5,7,3]],[122,49])])
def baT:List (List (List PI)):=[[[(0,0),(2,0),(2,1),(1,1),(1,2),(0,2)]],[[(0,0),(3,0),(3,3),(0,3)],[(1,1),(1,2),(2,2),(2,1)]],[[(0,0),(3,0),(3,3),(0,3)],[(1,1),(0,0),(1,2)]],[[(0,0),(1,0),(2,0),(2,2),(0,1)]]]
def trT(a b c:Nat):List (List PI):=[[(0,0),((1+a:Nat),0),((b:Nat),(1+c:Nat))]]
def zC3(I:SI):Bool:=chI I&&nmB I&&chI (nrI I)
def teB(p c q:Nat):Bool:=(List.range 3).all λe=>(List.range 3).all λf=>(List.range 3).all λg=>zC3 (teI p c q e f g)
def bdV(v:I3):Prop:=(-1000<=v.1/\v.1<=1000)/\(-1000<=v.2.1/\v.2.1<=1000)/\(-1000<=v.2.2/\v.2.2<=1000)
theorem zSF{u:I3}:bd3 u=true↔bdV u:=by unfold bd3 bdV;rw[zie]
theorem zER{a n:Int}(ha:0<a/\a<=1000)(hn:-9223372036854775808<=n)(hn':n<9223372036854775808):lq (1/(a:Rat)*(n:Rat))<=2:=by
 have h:=zB0 hn hn' (d:=a) zos zos;have e:kJ n a=1/(a:Rat)*(n:Rat):=by
  unfold kJ;rw[yzu,yzu,yku,Rat.mul_comm]
 rw[<-e];exact h
theorem zPM{a b:Int}(ha:-1000<=a/\a<=1000)(hb:-1000<=b/\b<=1000):-1000000<=a*b/\a*b<=1000000:=by
 have h1:=yme (show 0<=1000-a by omega) (show 0<=1000-b by omega);have h2:=yme (show 0<=1000+a by omega) (show 0<=1000+b by omega);have h3:=yme (show 0<=1000-a by omega) (show 0<=1000+b by omega);have C:=yme (show 0<=1000+a by omega) (show 0<=1000-b by omega);have J:(1000-a)*(1000-b)=1000000-1000*a-1000*b+a*b:=by grind
 have H:(1000+a)*(1000+b)=1000000+1000*a+1000*b+a*b:=by grind
 have G:(1000-a)*(1000+b)=1000000-1000*a+1000*b-a*b:=by grind
 have D:(1000+a)*(1000-b)=1000000+1000*a-1000*b-a*b:=by grind
 omega
theorem yJF{n u:I3}(hn:bdV n)(hu:bdV u):-3000000<=dt3 n u/\dt3 n u<=3000000:=by
 have h1:=zPM hn.1 hu.1;have h2:=zPM hn.2.1 hu.2.1;have h3:=zPM hn.2.2 hu.2.2;unfold dt3;omega
theorem yEN{v:I3}{I:SI}{s:Sd}(h:cO v I s)(hb:chI I=true)(hv:bdV v):smS 2 2 2 1 s:=by
 refine⟨λp H=>?_,λf O=>?_,λe J=>?_⟩
 · rw[h.1] at H
   obtain⟨u,M,rfl⟩:=zti.1 H;have h1:bdV u:=zSF.1 (zob.1 (by unfold chI at hb;exact(zbu _ _▸hb).1) u M);unfold bdV at h1 hv;exact⟨nR _ zos zos,nR _ zos zos,nR _ zos zos⟩
 · obtain⟨i,hi,rfl⟩:=zPS zA O
   have C:i<I.2.length:=by rw[<-h.2.2.1];exact hi
   obtain⟨a,G,e⟩:=(h.2.2.2 i C).1;have D:=mP h hb C;unfold faB at D;have h1:=(zbu _ _▸(zbu _ _▸D).1);have h2:bdV (I.2.getD i fi0).1:=zSF.1 h1.1;have h3:-1000<=(I.2.getD i fi0).2.1/\(I.2.getD i fi0).2.1<=1000:=yau h1.2;have U:=yJF h2 hv;rw[e];unfold bdV at h2;exact⟨⟨zER G zos zos,zER G zos zos,zER G zos zos⟩,zER G zos zos⟩
 · rw[h.2.1] at J;cases J
theorem yFK(pl:Pl):scW (1/((1:Int):Rat)) pl=pl:=by
 have e:1/((1:Int):Rat)=1:=by decide +kernel
 rw[e];unfold scW;simp only[yku]
theorem nE{v:I3}{f:FI}{x:Fc}(h1:x.1=cPl v f)(h2:x.2=f.2.2):zKG v f x:=⟨⟨1,by decide,by rw[yFK];exact h1⟩,h2⟩
theorem yHR{x y z p q r:Int}(hp:0<p)(hq:0<q)(hr:0<r):cO (x,y,z) (bxJ p q r) (bkS (pI x y z) (pI (x+p) (y+q) (z+r))):=by
 have g:∀a b:Int,0<b->(a:Rat)<((a+b:Int):Rat):=λa b h=>yce.2 zos;have C:iF (pI x y z) (pI (x+p) (y+q) (z+r)):=by
  intro u D;rw[zAV];refine Rat.not_le.2 ?_
  rcases zUU D with rfl|rfl|rfl
  · exact g x p hp
  · exact g y q hq
  · exact g z r hr
 rw[zSE C];refine⟨?_,I,I,λf H=>?_⟩
 · show uB1.map (cU _ _)=_
   simp[uB1,cU,cB,pI,cP,bxJ]
 · have G:f<6:=H
   have e0:((0:Int):Rat)=0:=I;have J:((1:Int):Rat)=1:=I;have:f=0\/f=1\/f=2\/f=3\/f=4\/f=5:=by omega
   rcases this with rfl|rfl|rfl|rfl|rfl|rfl<;>
    (refine nE (Prod.ext ?_ ?_) I<;>simp[bxS,fB3,plD,dN,bxJ,cPl,nr3,dt3,pI,T3.set,T3.at,e0,J,zni,zui]<;>grind)
theorem zM6{α:Type}(d:α)(l k:List α)(i:Nat):(l++k).getD i d=if i<l.length then l.getD i d else k.getD (i-l.length) d:=by
 rw[zoa,List.getElem?_append]
 split<;>rw[zoa]
def zHK(v:I3)(B:List FI)(A:List Fc):Prop:=A.length=B.length/\∀f,f<B.length->zKG v (B.getD f fi0) (A.getD f zA)
section
variable {v:I3}
theorem zKJ{B B':List FI}{A A':List Fc}(h:zHK v B A)(h':zHK v B' A'):zHK v (B++B') (A++A'):=by
 refine⟨by rw[lAz,lAz,h.1,h'.1],λf C=>?_⟩;rw[lAz] at C;rw[zM6,zM6,h.1]
 by_cases e:f<B.length
 · rw[zau e,zau e];exact h.2 f e
 · rw[zae e,zae e];exact h'.2 _ zos
theorem zXD:zHK v [] []:=⟨rfl,λf hf=>absurd hf (z4u _)⟩
theorem zPU{b:FI}{a:Fc}(h:zKG v b a):zHK v [b] [a]:=⟨rfl,λf hf=>by
 have:f=0:=by have:f<1:=hf;omega
 subst this;exact h⟩
theorem zXE{g:Nat->FI}{f:Nat->Fc}:∀n,(∀i,i<n->zKG v (g i) (f i))->zHK v (uG g n) (uG f n)
  |0,_=>zXD
  |n+1,h=>zKJ (zXE n λi hi=>h i zos) (zPU (h n zos))
theorem zRF{g:Nat->List FI}{f:Nat->List Fc}:∀n,(∀i,i<n->zHK v (g i) (f i))->zHK v (kK g n) (kK f n)
  |0,_=>zXD
  |n+1,h=>zKJ (zRF n λi hi=>h i zos) (h n zos)
end
def c2(x y:Int)(u:PI):Pt:=T3.mk ((x+u.1:Int):Rat) ((y+u.2:Int):Rat) (0:Rat)
def baL(x y:Int)(T:List (List PI)):List (List Pt):=T.map λs=>s.map (c2 x y)
section
variable {x y:Int}
theorem zUX(u w:PI):zJE (c2 x y u) (c2 x y w)↔u=w:=by
 unfold zJE c2;rw[zsu,zsu];constructor
 · rintro⟨h1,h2⟩;exact Prod.ext zos zos
 · rintro rfl;exact⟨I,I⟩
theorem zG1(B:List PI){j:Nat}(h:j<B.length):(B.map (c2 x y)).getD j zT=c2 x y (B.getD j (0,0)):=jR _ _ _ h
theorem zYB(B:List PI)(p:PI):∀j,j<=B.length->u9 (B.map (c2 x y)) (c2 x y p) j=fdI B p j
  |0,_=>rfl
  |j+1,h=>by
   unfold u9 fdI;rw[zYB B p j zos,zG1 B zos]
   by_cases e:B.getD j (0,0)=p
   · rw[zau e,zau ((zUX _ _).2 e)]
   · rw[zae e,zae λe'=>e ((zUX _ _).1 e')]
theorem zZQ(B:List PI)(p:PI):adB (B.map (c2 x y)) (c2 x y p)=(adI B p).map (c2 x y)/\adN (B.map (c2 x y)) (c2 x y p)=anI B p:=by
 unfold adB adN adI anI fdZ;rw[zde,zYB B p _ (zbe _)];constructor
 · split
   · rw[z2i];rfl
   · rfl
 · rfl
theorem zOS(B s:List PI):∀k,k<=s.length->plB (B.map (c2 x y)) (s.map (c2 x y)) k=(plI B s k).map (c2 x y)
  |0,_=>rfl
  |k+1,h=>by
   unfold plB plI;rw[zOS B s k zos,zG1 s zos,(zZQ _ _).1]
theorem yFF(B s:List PI):plN (B.map (c2 x y)) (s.map (c2 x y)) s.length=pnI B s s.length:=tE _ λk hk=>by
 rw[zOS B s k zos,zG1 s hk,(zZQ _ _).2]
theorem zG7(T:List (List PI)){i:Nat}(h:i<T.length):(baL x y T).getD i []=(T.getD i []).map (c2 x y):=jR _ _ _ h
theorem zON(T:List (List PI)):∀i,i<=T.length->ptB (baL x y T) i=(zV2 T i).map (c2 x y)
  |0,_=>rfl
  |i+1,h=>by
   unfold ptB zV2;rw[zON T i zos,zG7 T zos,zde];exact zOS _ _ _ (zbe _)
theorem zDO(T:List (List PI)):(baL x y T).length=T.length:=zde _
theorem zY1(T:List (List PI)):bsZ (baL x y T)=(bsI T).map (c2 x y):=by
 unfold bsZ bsI;rw[zDO];exact zON T _ (zbe _)
theorem eP(T:List (List PI)):bxZ (baL x y T)=bxI T:=by
 unfold bxZ bxI;rw[zDO];exact tE _ λi hi=>by rw[zON T i zos,zG7 T hi,zde];exact yFF _ _
theorem w9(T:List (List PI)):(bsZ (baL x y T)).length=(bsI T).length:=by rw[zY1,zde]
section
variable {z h:Int}{T:List (List PI)}
theorem zV5:ppZ (baL x y T) (z:Rat) ((z+h:Int):Rat)=(ppI T h).map (cP (x,y,z)):=by
 have C:(ppI T h).length=2*(bsI T).length:=xZ _ _;refine rW zT (by rw[zOQ,w9,zde,C]) λi hi=>?_;rw[zOQ,w9] at hi;rw[jR (cP (x,y,z)) z3 zT zos];unfold ppZ zS5 ppI;rw[w9,jL _ _ hi,jL _ _ hi,zY1,zG1 _ (zcu _ zos)];unfold c2 cP;refine zbi _ ?_
 by_cases e:((bsI T).length:Int)<=(i:Int)
 · rw[zau e,zau e]
 · rw[zae e,zae e]
   show(z:Rat)=((z+0:Int):Rat)
   rw[Int.add_zero]
theorem zOR{k:Int}(h0:0<=k)(h1:k<2*((bsI T).length:Int)):(ppZ (baL x y T) (z:Rat) ((z+h:Int):Rat)).getD k.toNat zT=cP (x,y,z) (g3 (ppI T h) k.toNat):=by
 rw[zV5];have C:(ppI T h).length=2*(bsI T).length:=xZ _ _;exact jR _ _ _ zos
theorem zK2{i k:Nat}(hi:i<T.length)(hk:k<((bxI T).getD i []).length):0<=xaI T i k/\xaI T i k<(bsI T).length:=by
 have:=zNN (L:=baL 0 0 T) (i:=i) (k:=k) (by rw[zDO];exact hi) (by rw[eP];exact hk);rw[eP,w9] at this;exact this
theorem yE3{i k:Nat}(hi:i<T.length)(hk:k<((bxI T).getD i []).length)(h10:i<10/\k<10):zKG (x,y,z) (sdI T h i k) (sdF (baL x y T) (z:Rat) ((z+h:Int):Rat) i k):=by
 have C:sdA (baL x y T) i k=xaI T i k:=by unfold sdA xaI;rw[eP]
 have G:sdB (baL x y T) i k=xbI T i k:=by unfold sdB xbI;rw[eP]
 have D:=zK2 hi hk;have J:0<=xbI T i k/\xbI T i k<(bsI T).length:=zK2 hi (zcu _ zos);have M:nmS i k=[115,48+i,46,48+k]:=by
  unfold nmS;rw[oD h10.1,oD h10.2];rfl
 have H:sdN (baL x y T) (z:Rat) ((z+h:Int):Rat) i k=nr3 (snI T h i k):=by
  unfold sdN;rw[C,G,zOR D.1 zos,zOR J.1 zos];unfold nr3 snI cP;simp only[z7u,zni,zui];have e0:((0:Int):Rat)=0:=I;rw[e0]
  congr 1<;>grind
 refine nE ?_ ?_
 · unfold sdF cPl
   refine Prod.ext H ?_
   show xO (sdN _ _ _ i k) _=_
   rw[H,C,zOR D.1 zos]
   show xO (nr3 (snI T h i k)) (cP (x,y,z) (g3 (ppI T h) (xaI T i k).toNat))=((dt3 (snI T h i k) (g3 (ppI T h) (xaI T i k).toNat)+dt3 (snI T h i k) (x,y,z):Int):Rat)
   generalize snI T h i k=n;generalize g3 (ppI T h) (xaI T i k).toNat=u;unfold xO nr3 cP dt3;simp only[zni,zuu];grind
 · show([[sdA _ i k,sdB _ i k,sdB _ i k+_,sdA _ i k+_]],nmS i k)=_
   rw[C,G,M,w9];rfl
theorem zV3(h10:T.length<=10/\∀i,i<T.length->(T.getD i []).length<=10):cO (x,y,z) (prI T h) (prR (baL x y T) (z:Rat) ((z+h:Int):Rat)):=by
 have C:(bxI T).length=T.length:=xZ _ _;have D:∀i,i<T.length->((bxI T).getD i []).length=(T.getD i []).length:=λi hi=>by
  unfold bxI;rw[jL _ _ hi];exact xZ _ _
 have G:zHK (x,y,z) (prI T h).2 (prR (baL x y T) (z:Rat) ((z+h:Int):Rat)).2.1:=by
  show zHK _ (kK _ _++[_,_]) (zLJ _ _ _ _++[_,_])
  refine zKJ ?_ (zKJ (B:=[_]) (A:=[_]) (zPU ?_) (zPU ?_))
  · unfold zLJ sfX
    rw[eP];refine zRF _ λi hi=>zXE _ λk H=>?_;rw[C] at hi;have:=D i hi;have:=h10.2 i hi;exact yE3 hi H ⟨by omega,by omega⟩
  · refine nE ?_ ?_
    · unfold btF cPl nr3 dt3
      refine Prod.ext ?_ ?_
      · show T3.mk (0:Rat) (0:Rat) (-((1:Int):Rat))=T3.mk ((0:Int):Rat) ((0:Int):Rat) ((-1:Int):Rat)
        rw[zui];rfl
      · show -(z:Rat)=((0+(0*x+0*y+-1*z):Int):Rat)
        rw[show 0+(0*x+0*y+-1*z)= -z by omega,zui]
    · show(zY7 (baL x y T) (bxZ (baL x y T)).length,_)=_
      unfold zY7;rw[eP]
  · refine nE ?_ ?_
    · unfold tpF cPl nr3 dt3
      refine Prod.ext ?_ ?_
      · show T3.mk (0:Rat) (0:Rat) ((1:Int):Rat)=T3.mk ((0:Int):Rat) ((0:Int):Rat) ((1:Int):Rat)
        rfl
      · show((z+h:Int):Rat)=((h+(0*x+0*y+1*z):Int):Rat)
        rw[show h+(0*x+0*y+1*z)=z+h by omega]
    · show(zUT (baL x y T) (bxZ (baL x y T)).length,_)=_
      unfold zUT tpL;rw[eP,w9]
 exact⟨zV5,I,G.1,G.2⟩
theorem yAZ(h10:(1<=T.length/\T.length<=10)/\∀i,i<T.length->(T.getD i []).length<=10)(hn:nsI T=true)(hh:0<h)(hc:chI (prI T h)=true):(∀s,s∈baL x y T->cS s)/\prE (baL x y T) (z:Rat) ((z+h:Int):Rat)=0/\okS (prR (baL x y T) (z:Rat) ((z+h:Int):Rat)):=by
 have hly:yGF (x:Rat) 1 (y:Rat) 1 T (baL x y T):=by
  refine⟨zDO T,λm hm=>?_⟩;rw[show gl (baL x y T) m=(T.getD m []).map (c2 x y) from zG7 T hm];refine⟨zde _,λk hk=>?_⟩;rw[show gp ((T.getD m []).map (c2 x y)) k=c2 x y ((T.getD m []).getD k (0,0)) from zG1 _ hk];unfold pr ag gI c2;rw[yku,yku,<-zni,<-zni];rfl
 obtain⟨n1,n2,n3⟩:=zML zov zov hly hn;have hm:=zV3 (x:=x) (y:=y) (z:=z) (h:=h) ⟨h10.1.2,h10.2⟩;refine⟨n3,(yIM n1 n2 ?_ ?_).1,(zBX hm hc).2⟩
 · rw[zAV]
   exact Rat.not_le.2 (yce.2 zos)
 · have e1:iE (baL x y T) (baL x y T).length<=64*(baL x y T).length:=zYJ (λm hm=>by
    rw[zDO] at hm;rw[zG7 T hm,zde];have:=h10.2 m hm;omega) _ (zbe _)
   have e2:=zJM (baL x y T) (baL x y T).length;have e3:(bsZ (baL x y T)).length=(ptB (baL x y T) (baL x y T).length).length:=I;have e4:iE (baL x y T) (baL x y T).length<=100:=by
    have g:∀i,i<=T.length->iE (baL x y T) i<=10*i:=λi=>by
     induction i with
     |zero=>exactλ_=>zbe _
     |succ i ih=>
      intro hi;have:=ih zos;have h2:=h10.2 i zos
      show iE (baL x y T) i+((baL x y T).getD i []).length<=_
      rw[zG7 T zos,zde];omega
    have:=g _ (zbe _);rw[zDO];omega
   unfold prB;omega
end
end
theorem yJO:(baT.all λT=>nsI T&&zC3 (prI T 1)&&zC3 (prI T 2))=true:=by decide +kernel
theorem yH7:((List.range 3).all λa=>(List.range 2).all λb=>(List.range 2).all λc=>nsI (trT a b c)&&zC3 (prI (trT a b c) 1)&&zC3 (prI (trT a b c) 2))=true:=by decide +kernel
theorem yHQ:((List.range 2).all λp=>(List.range 2).all λq=>(List.range 2).all λr=>chI (bxJ (1+p:Nat) (1+q:Nat) (1+r:Nat)))=true:=by decide +kernel
theorem yEH:teB 0 0 0=true:=by decide +kernel
theorem yEG:teB 0 0 1=true:=by decide +kernel
theorem yEF:teB 0 0 2=true:=by decide +kernel
theorem yEE:teB 0 1 0=true:=by decide +kernel
theorem yED:teB 0 1 1=true:=by decide +kernel
theorem yEC:teB 0 1 2=true:=by decide +kernel
theorem yEB:teB 1 0 0=true:=by decide +kernel
theorem yEA:teB 1 0 1=true:=by decide +kernel
theorem yD9:teB 1 0 2=true:=by decide +kernel
theorem yD8:teB 1 1 0=true:=by decide +kernel
theorem yD7:teB 1 1 1=true:=by decide +kernel
theorem yD6:teB 1 1 2=true:=by decide +kernel
theorem yD5:teB 2 0 0=true:=by decide +kernel
theorem yD4:teB 2 0 1=true:=by decide +kernel
theorem yD3:teB 2 0 2=true:=by decide +kernel
theorem yD2:teB 2 1 0=true:=by decide +kernel
theorem yD1:teB 2 1 1=true:=by decide +kernel
theorem yD0:teB 2 1 2=true:=by decide +kernel
theorem yIA{p c q e f g:Nat}(hp:p<3)(hc:c<2)(hq:q<3)(he:e<3)(hf:f<3)(hg:g<3):zC3 (teI p c q e f g)=true:=by
 have h:teB p c q=true:=by
  have G:p=0\/p=1\/p=2:=by omega
  have D:c=0\/c=1:=by omega
  have C:q=0\/q=1\/q=2:=by omega
  rcases G with rfl|rfl|rfl<;>rcases D with rfl|rfl<;>rcases C with rfl|rfl|rfl
  · exact yEH
  · exact yEG
  · exact yEF
  · exact yEE
  · exact yED
  · exact yEC
  · exact yEB
  · exact yEA
  · exact yD9
  · exact yD8
  · exact yD7
  · exact yD6
  · exact yD5
  · exact yD4
  · exact yD3
  · exact yD2
  · exact yD1
  · exact yD0
 exact zob.1 (zob.1 (zob.1 h e (zog.2 he)) f (zog.2 hf)) g (zog.2 hg)
theorem yHP{p q r:Nat}(hp:p<2)(hq:q<2)(hr:r<2):chI (bxJ (1+p:Nat) (1+q:Nat) (1+r:Nat))=true:=
 zob.1 (zob.1 (zob.1 yHQ p (zog.2 hp)) q (zog.2 hq)) r (zog.2 hr)
section
variable {v:I3}
theorem yCL(a b c:I3):thN (cP v a) (cP v b) (cP v c)=nr3 (th3 a b c):=by
 unfold thN xC kZ nr3 th3 cx3 sb3 cP;simp only[z7u,zni,zuu]
 congr 1<;>grind
theorem yIR{n:I3}:nr3 n=zT↔n=z3:=by
 constructor
 · intro e
   have G:=zsu.1 (show(n.1:Rat)=((0:Int):Rat) from zbi T3.x e);have D:=zsu.1 (show(n.2.1:Rat)=((0:Int):Rat) from zbi T3.y e);have C:=zsu.1 (show(n.2.2:Rat)=((0:Int):Rat) from zbi T3.z e);exact Prod.ext G (Prod.ext D C)
 · rintro rfl;rfl
theorem yG2(n u:I3):xO (nr3 n) (cP v u)=((dt3 n u+dt3 n v:Int):Rat):=by
 unfold xO nr3 cP dt3;simp only[zni,zuu];grind
theorem zJC{a b c:I3}(h:¬th3 a b c=z3):thZ (cP v a) (cP v b) (cP v c)=(nr3 (th3 a b c),((dt3 (th3 a b c) a+dt3 (th3 a b c) v:Int):Rat)):=by
 rw[(zUV (λe=>h (yIR.1 (by rw[<-yCL (v:=v)];exact e)))).1,yCL,yG2]
theorem yFD{A B C T:I3}(h0:¬th3 A B C=z3)(h1:¬th3 A B T=z3)(h2:¬th3 B C T=z3)(h3:¬th3 C A T=z3):cO v (pyI A B C T) (pyR [cP v A,cP v B,cP v C] (cP v T)):=by
 have H:qZ (((0:Nat):Int):Rat)=[48]:=oD (n:=0) zov;have G:qZ (((1:Nat):Int):Rat)=[49]:=oD (n:=1) zov;have D:qZ (((2:Nat):Int):Rat)=[50]:=oD (n:=2) zov;refine⟨I,I,I,λf M=>?_⟩;have J:f<4:=M;have:f=0\/f=1\/f=2\/f=3:=by omega
 rcases this with rfl|rfl|rfl|rfl
 · refine nE ?_ ?_
   · show thZ (cP v A) (cP v B) (cP v T)=_
     rw[zJC h1];rfl
   · show([[((0:Nat):Int),((1%3:Nat):Int),((3:Nat):Int)]],[115]++qZ (((0:Nat):Int):Rat))=_
     rw[H];rfl
 · refine nE ?_ ?_
   · show thZ (cP v B) (cP v C) (cP v T)=_
     rw[zJC h2];rfl
   · show([[((1:Nat):Int),((2%3:Nat):Int),((3:Nat):Int)]],[115]++qZ (((1:Nat):Int):Rat))=_
     rw[G];rfl
 · refine nE ?_ ?_
   · show thZ (cP v C) ([cP v A,cP v B,cP v C].getD ((2+1)%3) zT) (cP v T)=_
     rw[show[cP v A,cP v B,cP v C].getD ((2+1)%3) zT=cP v A from I,zJC h3];rfl
   · show([[((2:Nat):Int),(((2+1)%3:Nat):Int),((3:Nat):Int)]],[115]++qZ (((2:Nat):Int):Rat))=_
     rw[D];rfl
 · refine nE ?_ ?_
   · show opP (thZ (cP v A) (cP v B) (cP v C))=(nr3 (ng3 (th3 A B C)),((-dt3 (th3 A B C) A+dt3 (ng3 (th3 A B C)) v:Int):Rat))
     rw[zJC h0];generalize th3 A B C=n;unfold opP nr3 ng3 dt3;have O:((-1:Int):Rat)= -1:=I;refine Prod.ext ?_ ?_
     · simp only[zui,O]
       congr 1<;>grind
     · simp only[zui,zni,zuu]
       grind
   · rfl
end
theorem zJD{p c q e f g:Nat}(hp:p<3)(hc:c<2)(hq:q<3)(he:e<3)(hf:f<3)(hg:g<3):(chI (teI p c q e f g)=true/\nmB (teI p c q e f g)=true)/\chI (nrI (teI p c q e f g))=true:=by
 have h:=yIA hp hc hq he hf hg;unfold zC3 at h;rw[zbu,zbu] at h;exact h
theorem zR9{P:List I3}{F:List FI}(h:chI (P,F)=true){f:Nat}(hf:f<F.length):¬(F.getD f fi0).1=z3:=by
 unfold chI at h;replace h:=(zbu _ _▸h).2;rw[zbu,zbu,zbu] at h;have C:=zob.1 h.1.1.2 _ (gM (d:=fi0) hf);unfold faB at C;replace C:=(zbu _ _▸C).2;rw[zbu,zbu,zje,zgu] at C;exact C.1.2
def teL(x y z:Int)(p c q:Nat):List Pt:=[pI x y z,pI (x+(1+p)) y z,pI (x+c) (y+(1+q)) z]
def teA(x y z:Int)(e f g:Nat):Pt:=pI (x+e) (y+f) (z+(1+g))
theorem zUW{x y z:Int}{p c q e f g:Nat}(hp:p<3)(hc:c<2)(hq:q<3)(he:e<3)(hf:f<3)(hg:g<3):cO (x,y,z) (teI p c q e f g) (pyR (teL x y z p c q) (teA x y z e f g)):=by
 have h:=(zJD hp hc hq he hf hg).1.1;have H:=zR9 h (f:=0) (show 0<4 by decide);have G:=zR9 h (f:=1) (show 1<4 by decide);have D:=zR9 h (f:=2) (show 2<4 by decide);have J:=zR9 h (f:=3) (show 3<4 by decide);have h0:¬th3 (0,0,0) (1+(p:Int),0,0) ((c:Int),1+(q:Int),0)=z3:=λU=>J (by
  show ng3 (th3 _ _ _)=z3
  rw[show th3 _ _ _=z3 from U];rfl)
 have C:=yFD (v:=(x,y,z)) h0 H G D;have O:[cP (x,y,z) (0,0,0),cP (x,y,z) (1+(p:Int),0,0),cP (x,y,z) ((c:Int),1+(q:Int),0)]=teL x y z p c q:=by
  unfold teL cP pI;simp
 have M:cP (x,y,z) ((e:Int),(f:Int),1+(g:Int))=teA x y z e f g:=by
  unfold teA cP pI;simp
 rw[O,M] at C;exact C
theorem zZ5{x y z:Int}{p c q e f g:Nat}:(¬thN ((teL x y z p c q).getD 0 zT) ((teL x y z p c q).getD 1 zT) ((teL x y z p c q).getD 2 zT)=zT)/\zGZ (thZ ((teL x y z p c q).getD 0 zT) ((teL x y z p c q).getD 1 zT) ((teL x y z p c q).getD 2 zT)) (teL x y z p c q)/\0<sdZ (thZ ((teL x y z p c q).getD 0 zT) ((teL x y z p c q).getD 1 zT) ((teL x y z p c q).getD 2 zT)) (teA x y z e f g):=by
 have H:0<(1+(p:Int))*(1+(q:Int)):=Int.mul_pos zos zos;have hG:0<(1+(p:Int))*(1+(q:Int))*(1+(g:Int)):=Int.mul_pos H zos;have hN:thN (pI x y z) (pI (x+(1+p)) y z) (pI (x+c) (y+(1+q)) z)=T3.mk (0:Rat) (0:Rat) (((1+(p:Int))*(1+(q:Int)):Int):Rat):=by
  unfold thN xC kZ pI;simp only[zni,zuu]
  congr 1<;>grind
 have hz:¬thN (pI x y z) (pI (x+(1+p)) y z) (pI (x+c) (y+(1+q)) z)=zT:=λe=>by
  rw[hN] at e;have:=zsu.1 (show _=((0:Int):Rat) from zbi T3.z e);omega
 have hZ:thZ (pI x y z) (pI (x+(1+p)) y z) (pI (x+c) (y+(1+q)) z)=(T3.mk (0:Rat) (0:Rat) (((1+(p:Int))*(1+(q:Int)):Int):Rat),(((1+(p:Int))*(1+(q:Int))*z:Int):Rat)):=by
  rw[(zUV hz).1,hN];unfold xO pI;simp only[zuu,Rat.zero_mul,Rat.zero_add]
 generalize hm:(1+(p:Int))*(1+(q:Int))=m at H hG hN hZ;have J:∀X Y Z:Int,sdZ (T3.mk (0:Rat) (0:Rat) ((m:Int):Rat),((m*z:Int):Rat)) (pI X Y Z)=sgI (m*(Z-z)):=λX Y Z=>by
  have:hgt (T3.mk (0:Rat) (0:Rat) ((m:Int):Rat),((m*z:Int):Rat)) (pI X Y Z)=((m*(Z-z):Int):Rat):=by
   unfold hgt xO pI;simp only[zuu,z7u];grind
  unfold sdZ;rw[this,zBB];rfl
 have aa:∀X Y:Int,sdZ (T3.mk (0:Rat) (0:Rat) ((m:Int):Rat),((m*z:Int):Rat)) (pI X Y z)=0:=λX Y=>by
  rw[J,ywe,Int.mul_zero];rfl
 have M:axI (T3.mk (0:Rat) (0:Rat) ((m:Int):Rat))=0/\axJ (T3.mk (0:Rat) (0:Rat) ((m:Int):Rat))=1:=⟨zau (ype.2 H),zau (ype.2 H)⟩;have D:∀X Y Z:Int,pt2 (T3.mk (0:Rat) (0:Rat) ((m:Int):Rat),((m*z:Int):Rat)) (pI X Y Z)=ag (x:Rat) 1 (y:Rat) 1 (X-x,Y-y):=λX Y Z=>by
  unfold pt2 ag;rw[M.1,M.2];unfold pr pI;simp only[T3.at,z7u];refine Prod.ext ?_ ?_<;>grind
 refine⟨hz,?_,?_⟩
 · show zGZ (thZ (pI x y z) (pI (x+(1+p)) y z) (pI (x+c) (y+(1+q)) z)) _
   rw[hZ];refine⟨⟨show 3<=3 from zbe 3,λe=>?_⟩,λi hi=>?_,λi k hi h2 hk=>?_⟩
   · have:=zsu.1 (show _=((0:Int):Rat) from zbi T3.z e)
     omega
   · have G:i<3:=hi
     rcases zUU G with rfl|rfl|rfl<;>exact aa _ _
   · have G:i<3:=hi
     have ab:k<3:=hk;have:k=2:=by omega
     subst this;have C:∀u w t:PI,0<crI u w t->0<orZ (ag (x:Rat) 1 (y:Rat) 1 u) (ag (x:Rat) 1 (y:Rat) 1 w) (ag (x:Rat) 1 (y:Rat) 1 t):=λu w t h=>by
      rw[zZJ zov zov];exact y6.2 h
     have pA:pt2 (T3.mk (0:Rat) (0:Rat) ((m:Int):Rat),((m*z:Int):Rat)) (pI x y z)=ag (x:Rat) 1 (y:Rat) 1 (0,0):=by rw[D,ywe,ywe]
     have U:pt2 (T3.mk (0:Rat) (0:Rat) ((m:Int):Rat),((m*z:Int):Rat)) (pI (x+(1+p)) y z)=ag (x:Rat) 1 (y:Rat) 1 (1+(p:Int),0):=by rw[D,ywe,show x+(1+(p:Int))-x=1+(p:Int) by omega]
     have O:pt2 (T3.mk (0:Rat) (0:Rat) ((m:Int):Rat),((m*z:Int):Rat)) (pI (x+c) (y+(1+q)) z)=ag (x:Rat) 1 (y:Rat) 1 ((c:Int),1+(q:Int)):=by rw[D,show x+(c:Int)-x=(c:Int) by omega,show y+(1+(q:Int))-y=1+(q:Int) by omega]
     have c1:crI (0,0) (1+(p:Int),0) ((c:Int),1+(q:Int))=m:=by rw[<-hm];simp[crI]
     have c2:crI (1+(p:Int),0) ((c:Int),1+(q:Int)) (0,0)=m:=by rw[<-hm];simp[crI];grind
     have c3:crI ((c:Int),1+(q:Int)) (0,0) (1+(p:Int),0)=m:=by rw[<-hm];simp[crI];grind
     have hL:(teL x y z p c q).length=3:=I;have g0:gp (teL x y z p c q) 0=pI x y z:=I;have g1:gp (teL x y z p c q) 1=pI (x+(1+p)) y z:=I;have g2:gp (teL x y z p c q) 2=pI (x+c) (y+(1+q)) z:=I;unfold nx;rw[hL]
     rcases zUU G with rfl|rfl|rfl
     · rw[show(0+1)%3=1 from I,show(0+2)%3=2 from I,g0,g1,g2,pA,U,O]
       exact C _ _ _ (by rw[c1];exact H)
     · rw[show(1+1)%3=2 from I,show(1+2)%3=0 from I,g0,g1,g2,pA,U,O]
       exact C _ _ _ (by rw[c2];exact H)
     · rw[show(2+1)%3=0 from I,show(2+2)%3=1 from I,g0,g1,g2,pA,U,O]
       exact C _ _ _ (by rw[c3];exact H)
 · show 0<sdZ (thZ (pI x y z) (pI (x+(1+p)) y z) (pI (x+c) (y+(1+q)) z)) (pI (x+e) (y+f) (z+(1+g)))
   rw[hZ,J];refine y6.2 ?_;rw[show z+(1+(g:Int))-z=1+(g:Int) by omega];exact hG
theorem yDY{x y z:Int}{p c q e f g:Nat}(hp:p<3)(hc:c<2)(hq:q<3)(he:e<3)(hf:f<3)(hg:g<3):pyH (teL x y z p c q) (teA x y z e f g):=by
 obtain⟨h1,h2,h3⟩:=zZ5 (x:=x) (y:=y) (z:=z) (p:=p) (c:=c) (q:=q) (e:=e) (f:=f) (g:=g);exact⟨⟨⟨by show 3<=3;decide,by show 3<=64;decide⟩,h1⟩,⟨h2,h3⟩,(zBX (zUW hp hc hq he hf hg) (zJD hp hc hq he hf hg).1.1).2⟩
def baF(T:List (List PI)):Prop:=T∈baT\/∃a b c:Nat,(a<3/\b<2/\c<2)/\T=trT a b c
def zYG(I:SI):Prop:=(∃p q r:Nat,(p<2/\q<2/\r<2)/\I=bxJ (1+p:Nat) (1+q:Nat) (1+r:Nat))\/(∃T h,baF T/\(h=1\/h=2)/\I=nrI (prI T h))\/
 ∃p c q e f g:Nat,(p<3/\c<2/\q<3)/\(e<3/\f<3/\g<3)/\I=nrI (teI p c q e f g)
def zJG(s:Sd):Prop:=∃v I,zYG I/\bdV v/\cO v I s
theorem yC7{T:List (List PI)}{h:Int}(hT:baF T)(hh:h=1\/h=2):nsI T=true/\zC3 (prI T h)=true:=by
 have g:∀T,(nsI T&&zC3 (prI T 1)&&zC3 (prI T 2))=true->nsI T=true/\zC3 (prI T h)=true:=λT e=>by
  rw[zbu,zbu] at e
  rcases hh with rfl|rfl
  · exact⟨e.1.1,e.1.2⟩
  · exact⟨e.1.1,e.2⟩
 rcases hT with hT|⟨a,b,c,⟨ha,hb,hc⟩,rfl⟩
 · exact g T (zob.1 yJO T hT)
 · exact g _ (zob.1 (zob.1 (zob.1 yH7 a (zog.2 ha)) b (zog.2 hb)) c (zog.2 hc))
theorem zWL{I:SI}(h:zC3 I=true):(chI I=true/\nmB I=true)/\chI (nrI I)=true:=by
 unfold zC3 at h;rw[zbu,zbu] at h;exact h
theorem zP7{I:SI}(h:zYG I):chI I=true:=by
 rcases h with⟨p,q,r,⟨hp,hq,hr⟩,rfl⟩|⟨T,h,hT,hh,rfl⟩|⟨p,c,q,e,f,g,⟨hp,hc,hq⟩,⟨he,hf,hg⟩,rfl⟩
 · exact yHP hp hq hr
 · exact(zWL (yC7 hT hh).2).2
 · exact(zJD hp hc hq he hf hg).2
theorem zEL{s:Sd}(h:zJG s):(lT s/\okS s)/\smS 2 2 2 1 s:=by
 obtain⟨v,I,D,G,C⟩:=h;exact⟨zBX C (zP7 D),yEN C (zP7 D) G⟩
theorem nat_of{z:Int}{n:Nat}(h:0<=z/\z<n):∃m:Nat,m<n/\z=m:=⟨z.toNat,by omega,by omega⟩
section
variable {x y z:Int}(hx:0<=x/\x<3)(hy:0<=y/\y<3)(hz:0<=z/\z<3)
include hx hy hz
theorem zVB{p q r:Int}(hp:0<=p/\p<2)(hq:0<=q/\q<2)(hr:0<=r/\r<2):zJG (bkS (pI x y z) (pI (x+1+p) (y+1+q) (z+1+r))):=by
 obtain⟨p,G,rfl⟩:=nat_of (n:=2) hp;obtain⟨q,D,rfl⟩:=nat_of (n:=2) hq;obtain⟨r,C,rfl⟩:=nat_of (n:=2) hr;refine⟨(x,y,z),_,.inl ⟨p,q,r,⟨G,D,C⟩,I⟩,⟨by show -1000<=x/\x<=1000;omega,by show -1000<=y/\y<=1000;omega,by show -1000<=z/\z<=1000;omega⟩,?_⟩;rw[show x+1+(p:Int)=x+((1+p:Nat):Int) by omega,show y+1+(q:Int)=y+((1+q:Nat):Int) by omega,show z+1+(r:Int)=z+((1+r:Nat):Int) by omega];exact yHR zos zos zos
theorem zOE{p c q e f g:Int}(hp:0<=p/\p<3)(hc:0<=c/\c<2)(hq:0<=q/\q<3)(he:0<=e/\e<3)(hf:0<=f/\f<3)(hg:0<=g/\g<3):pyH [pI x y z,pI (x+1+p) y z,pI (x+c) (y+1+q) z] (pI (x+e) (y+f) (z+1+g))/\
 ∃v I,(∃p c q e f g:Nat,(p<3/\c<2/\q<3)/\(e<3/\f<3/\g<3)/\I=nrI (teI p c q e f g))/\bdV v/\cO v I (nrP (pyR [pI x y z,pI (x+1+p) y z,pI (x+c) (y+1+q) z] (pI (x+e) (y+f) (z+1+g))),nrF (pyR [pI x y z,pI (x+1+p) y z,pI (x+c) (y+1+q) z] (pI (x+e) (y+f) (z+1+g))),[]):=by
 obtain⟨p,D,rfl⟩:=nat_of (n:=3) hp;obtain⟨c,M,rfl⟩:=nat_of (n:=2) hc;obtain⟨q,C,rfl⟩:=nat_of (n:=3) hq;obtain⟨e,J,rfl⟩:=nat_of (n:=3) he;obtain⟨f,H,rfl⟩:=nat_of (n:=3) hf;obtain⟨g,G,rfl⟩:=nat_of (n:=3) hg;have Z:=zUW (x:=x) (y:=y) (z:=z) D M C J H G;have h0:=zJD D M C J H G;have O:=zW8 Z h0.1.1 h0.1.2;have U:=yDY (x:=x) (y:=y) (z:=z) D M C J H G;unfold teL teA at O U;rw[show x+1+(p:Int)=x+(1+p) by omega,show y+1+(q:Int)=y+(1+q) by omega,show z+1+(g:Int)=z+(1+g) by omega];refine⟨U,(x,y,z),_,⟨p,c,q,e,f,g,⟨D,M,C⟩,⟨J,H,G⟩,rfl⟩,⟨by show -1000<=x/\x<=1000;omega,by show -1000<=y/\y<=1000;omega,by show -1000<=z/\z<=1000;omega⟩,?_⟩;have e0:nrE (pyR [pI x y z,pI (x+(1+↑p)) y z,pI (x+↑c) (y+(1+↑q)) z] (pI (x+↑e) (y+↑f) (z+(1+↑g))))=[]:=by unfold nrE;split<;>rfl
 rw[e0] at O;exact O
end
def yH9(s:Sd):Prop:=∃v I,(∃p c q e f g:Nat,(p<3/\c<2/\q<3)/\(e<3/\f<3/\g<3)/\I=nrI (teI p c q e f g))/\bdV v/\cO v I s
theorem zEI{s:Sd}(h:yH9 s):zJG s:=by
 obtain⟨v,I,C,h⟩:=h;exact⟨v,I,.inr (.inr C),h⟩
def baP(L:List (List Pt)):Prop:=∃x y T,(0<=x/\x<2)/\(0<=y/\y<2)/\baF T/\L=baL x y T
theorem yCD{T:List (List PI)}(h:baF T):(1<=T.length/\T.length<=10)/\∀i,i<T.length->(T.getD i []).length<=10:=by
 have g:∀T,T∈baT->(decide (1<=T.length/\T.length<=10)&&T.all λs=>decide (s.length<=10))=true:=λT C=>zob.1 (show(baT.all λT=>decide (1<=T.length/\T.length<=10)&&T.all λs=>decide (s.length<=10))=true by decide) T C
 rcases h with h|⟨a,b,c,_,rfl⟩
 · have:=g T h
   rw[zbu,zie] at this;exact⟨this.1,λi hi=>yau (zob.1 this.2 _ (gM hi))⟩
 · refine⟨⟨show 1<=1 by decide,show 1<=10 by decide⟩,λi hi=>?_⟩
   have:i=0:=by have:i<1:=hi;omega
   subst this
   show 3<=10;decide
theorem zCZ{L:List (List Pt)}(h:baP L){z a:Int}(hz:0<=z/\z<2)(ha:0<=a/\a<2):((∀s,s∈L->cS s)/\prE L (z:Rat) ((z+1+a:Int):Rat)=0/\okS (prR L (z:Rat) ((z+1+a:Int):Rat)))/\zJG (prP L (z:Rat) ((z+1+a:Int):Rat),prF L (z:Rat) ((z+1+a:Int):Rat),[]):=by
 obtain⟨x,y,T,hx,hy,G,rfl⟩:=h;have hh:1+a=1\/1+a=2:=by omega
 obtain⟨h1,h2⟩:=yC7 G hh;obtain⟨⟨h3,J⟩,M⟩:=zWL h2;have C:=yCD G;have D:=yAZ (x:=x) (y:=y) (z:=z) C h1 zos h3;rw[show z+1+a=z+(1+a) by omega];refine⟨D,(x,y,z),_,.inr (.inl ⟨T,_,G,hh,I⟩),⟨by show -1000<=x/\x<=1000;omega,by show -1000<=y/\y<=1000;omega,by show -1000<=z/\z<=1000;omega⟩,?_⟩;have H:=zW8 (zV3 (x:=x) (y:=y) (z:=z) (h:=1+a) ⟨C.1.2,C.2⟩) h3 J;have e0:nrE (prR (baL x y T) (z:Rat) ((z+(1+a):Int):Rat))=[]:=by unfold nrE;split<;>rfl
 unfold prP prF;rw[zau D.2.1,zau D.2.1];rw[e0] at H;exact H
def aA(x y:Int):List Int->List Pt
  |a::b::l=>T3.mk ((x+a:Int):Rat) ((y+b:Int):Rat) (0:Rat)::aA x y l
  |_=>[]
theorem zYS{x y:Int}{l:List Int}{u:Nat}{D:List Pt}(hD:D++aA x y (l.drop (2*u))=aA x y l)(h:2*u+1<l.length):(D++[T3.mk ((x+l.getD (2*u) 0:Int):Rat) ((y+l.getD (2*u+1) 0:Int):Rat) (0:Rat)])++aA x y (l.drop (2*(u+1)))=aA x y l:=by
 rw[<-hD,zhu]
 congr 1
 rw[show l.drop (2*u)=l.getD (2*u) 0::l.getD (2*u+1) 0::l.drop (2*(u+1)) by
  rw[z3e zos,z3e zos,zoa,zoa,zoc zos,zoc zos]
  rfl]
 rfl
theorem yCA{x y:Int}{l:List Int}{u:Nat}{D:List Pt}(hD:D++aA x y (l.drop (2*u))=aA x y l)(h:¬2*u+1<l.length):D=aA x y l:=by
 have e:aA x y (l.drop (2*u))=[]:=by
  have C:(l.drop (2*u)).length<=1:=by rw[zhe];omega
  match l.drop (2*u),C with
  |[],_=>rfl
  |[_],_=>rfl
 rw[<-hD,e,zli]
section
variable {x y:Int}(hx:0<=x/\x<2)(hy:0<=y/\y<2)
include hx hy
theorem zZD:baP [aA x y [0,0,2,0,2,1,1,1,1,2,0,2]]:=⟨x,y,_,hx,hy,.inl (.head _),rfl⟩
theorem zZC:baP [aA x y [0,0,3,0,3,3,0,3],aA x y [1,1,1,2,2,2,2,1]]:=⟨x,y,_,hx,hy,.inl (.tail _ (.head _)),rfl⟩
theorem zZB:baP [aA x y [0,0,3,0,3,3,0,3],aA x y [1,1,0,0,1,2]]:=⟨x,y,_,hx,hy,.inl (.tail _ (.tail _ (.head _))),rfl⟩
theorem zZA:baP [aA x y [0,0,1,0,2,0,2,2,0,1]]:=⟨x,y,_,hx,hy,.inl (.tail _ (.tail _ (.tail _ (.head _)))),rfl⟩
theorem zY9{a b c:Int}(ha:0<=a/\a<3)(hb:0<=b/\b<2)(hc:0<=c/\c<2):baP [aA x y [0,0,1+a,0,b,1+c]]:=by
 obtain⟨a,G,rfl⟩:=nat_of (n:=3) ha;obtain⟨b,D,rfl⟩:=nat_of (n:=2) hb;obtain⟨c,C,rfl⟩:=nat_of (n:=2) hc;exact⟨x,y,_,hx,hy,.inr ⟨a,b,c,⟨G,D,C⟩,I⟩,by
  unfold trT;rw[show((1+a:Nat):Int)=1+(a:Int) by omega,show((1+c:Nat):Int)=1+(c:Int) by omega]
  rfl⟩
end
def bxC(c:SI->Bool):Bool:=(List.range 2).all λp=>(List.range 2).all λq=>(List.range 2).all λr=>c (bxJ (1+p:Nat) (1+q:Nat) (1+r:Nat))
def baC(c:SI->Bool):Bool:=baT.all λT=>c (nrI (prI T 1))&&c (nrI (prI T 2))
def trC(c:SI->Bool):Bool:=(List.range 3).all λa=>(List.range 2).all λb=>(List.range 2).all λk=>c (nrI (prI (trT a b k) 1))&&c (nrI (prI (trT a b k) 2))
def teC(c:SI->Bool):Bool:=(List.range 3).all λp=>(List.range 2).all λk=>(List.range 3).all λq=>(List.range 3).all λe=>(List.range 3).all λf=>(List.range 3).all λg=>c (nrI (teI p k q e f g))
theorem yDZ{c:SI->Bool}(h:teC c=true){p k q e f g:Nat}(hp:p<3)(hk:k<2)(hq:q<3)(he:e<3)(hf:f<3)(hg:g<3):c (nrI (teI p k q e f g))=true:=
 zob.1 (zob.1 (zob.1 (zob.1 (zob.1 (zob.1 h p (zog.2 hp)) k (zog.2 hk)) q (zog.2 hq)) e (zog.2 he)) f (zog.2 hf)) g (zog.2 hg)
theorem zRY{c:SI->Bool}(hb:bxC c=true)(ha:baC c=true)(hr:trC c=true)(ht:teC c=true){I:SI}(h:zYG I):c I=true:=by
 rcases h with⟨p,q,r,⟨hp,hq,hr⟩,rfl⟩|⟨T,h,hT,hh,rfl⟩|⟨p,k,q,e,f,g,⟨hp,hk,hq⟩,⟨he,hf,hg⟩,rfl⟩
 · exact zob.1 (zob.1 (zob.1 hb p (zog.2 hp)) q (zog.2 hq)) r (zog.2 hr)
 · rcases hT with hT|⟨a,b,k,⟨ha',hb',hk⟩,rfl⟩
   · have h1:=zob.1 ha T hT
     rw[zbu] at h1
     rcases hh with rfl|rfl
     · exact h1.1
     · exact h1.2
   · have h1:=zob.1 (zob.1 (zob.1 hr a (zog.2 ha')) b (zog.2 hb')) k (zog.2 hk)
     rw[zbu] at h1
     rcases hh with rfl|rfl
     · exact h1.1
     · exact h1.2
 · exact yDZ ht hp hk hq he hf hg
abbrev TI:=I3×I3×I3
def ad3(u w:I3):I3:=(u.1+w.1,u.2.1+w.2.1,u.2.2+w.2.2)
def fnI(P:List I3)(l:List Int)(q:Nat):TI:=(g3 P (l.getD 0 0).toNat,g3 P (l.getD (q+1) 0).toNat,g3 P (l.getD (q+2) 0).toNat)
def faI(P:List I3)(ls:List (List Int)):List TI:=kK (λi=>uG (fnI P (ls.getD i [])) ((ls.getD i []).length-2)) ls.length
def cT3(v:I3)(t:TI):Tri:=T3.mk (cP v t.1) (cP v t.2.1) (cP v t.2.2)
theorem zC9{α β:Type}(g:Nat->α)(p:α->β):∀k,(uG g k).map p=uG (λm=>p (g m)) k
  |0=>rfl
  |k+1=>by
   show(uG g k++[g k]).map p=uG (λm=>p (g m)) k++[p (g k)]
   rw[z2i,zC9 g p k];rfl
theorem lG{α β:Type}(g:Nat->List α)(p:α->β):∀k,(kK g k).map p=kK (λm=>(g m).map p) k
  |0=>rfl
  |k+1=>by
   show(kK g k++g k).map p=kK (λm=>(g m).map p) k++(g k).map p
   rw[z2i,lG g p k]
theorem mV{α:Type}{g h:Nat->List α}:∀k,(∀m,m<k->g m=h m)->kK g k=kK h k
  |0,_=>rfl
  |k+1,e=>by
   show kK g k++g k=kK h k++h k
   rw[mV k λm hm=>e m zos,e k zos]
theorem zZO(a b:I3):qF (nr3 a) (nr3 b)=nr3 (ad3 a b):=by
 unfold qF nr3 ad3;simp only[zni]
theorem yIS:nr3 z3=zT:=rfl
section
variable {v:I3}{I:SI}{s:Sd}(h:cO v I s)(hb:chI I=true)
include h hb
theorem yB2{f:Nat}(hf:f<I.2.length):fO s (s.2.1.getD f zA).2.1 (s.2.1.getD f zA).2.1.length=(faI I.1 (I.2.getD f fi0).2.2.1).map (cT3 v):=by
 have e:(s.2.1.getD f zA).2.1=(I.2.getD f fi0).2.2.1:=zbi Prod.fst (h.2.2.2 f hf).2;have C:=(zKF h hb hf).1;unfold fO faI;rw[lG,e];refine mV _ λi hi=>?_;rw[zC9];refine tE _ λq H=>?_;have C:=C i (by rw[e];exact hi);rw[e] at C;have g:∀k,k<((I.2.getD f fi0).2.2.1.getD i []).length->pnA s (((I.2.getD f fi0).2.2.1.getD i []).getD k 0)=cP v (g3 I.1 (((I.2.getD f fi0).2.2.1.getD i []).getD k 0).toNat):=λk G=>by
  have D:=C k G;rw[oU h] at D;unfold pnA;rw[h.1];exact zGO zos
 unfold yGZ cT3 fnI;rw[g 0 zos,g (q+1) zos,g (q+2) zos]
end
end Bk
namespace Bk
def ngI(u:I3):I3:=(-u.1,-u.2.1,-u.2.2)
def flF(f:FI):FI:=(ngI f.1,-f.2.1,rvL f.2.2.1 f.2.2.1.length,f.2.2.2)
def zED(I:SI):SI:=(I.1,I.2.map flF)
theorem yIT(v:I3)(f:FI)(r:Rat):opP (scW r (cPl v f))=scW r (cPl v (flF f)):=by
 have e:∀n:Int,((-1:Int):Rat)*(r*(n:Rat))=r*((-n:Int):Rat):=λn=>by
  rw[zui n,show(((-1:Int):Rat))= -(1:Rat) from I];grind
 refine Prod.ext ?_ ?_
 · exact T3.mk.injEq _ _ _ _ _ _▸⟨e _,e _,e _⟩
 · show -(r*((f.2.1+dt3 f.1 v:Int):Rat))=r*((-f.2.1+dt3 (ngI f.1) v:Int):Rat)
   have:-f.2.1+dt3 (ngI f.1) v= -(f.2.1+dt3 f.1 v):=by unfold dt3 ngI;simp only[Int.neg_mul];omega
   rw[this,zui];grind
theorem zW9{v:I3}{I:SI}{s:Sd}(h:cO v I s):cO v (zED I) (flS s):=by
 obtain⟨h1,h2,h3,G⟩:=h;refine⟨h1,h2,by show(s.2.1.map fcS).length=(I.2.map flF).length;rw[zde,zde,h3],λf C=>?_⟩;have C:f<I.2.length:=by have:f<(I.2.map flF).length:=C;rwa [zde] at this
 have O:(zED I).2.getD f fi0=flF (I.2.getD f fi0):=jR _ _ _ C;have M:(flS s).2.1.getD f zA=fcS (s.2.1.getD f zA):=jR _ _ _ zos;rw[O,M];obtain⟨⟨a,D,J⟩,H⟩:=G f C;refine⟨⟨a,D,?_⟩,?_⟩
 · show opP (s.2.1.getD f zA).1=_
   rw[J,yIT]
 · show(rvL (s.2.1.getD f zA).2.1 (s.2.1.getD f zA).2.1.length,(s.2.1.getD f zA).2.2)=_
   rw[H];rfl
def chF(I:SI):Bool:=chI (zED I)
theorem yHC:bxC chF=true:=by decide +kernel
theorem yHD:baC chF=true:=by decide +kernel
theorem yHA:trC chF=true:=by decide +kernel
def teP(c:SI->Bool)(p k:Nat):Bool:=(List.range 3).all λq=>(List.range 3).all λe=>(List.range 3).all λf=>(List.range 3).all λg=>c (nrI (teI p k q e f g))
theorem yHJ:teP chF 0 0=true:=by decide +kernel
theorem yHI:teP chF 0 1=true:=by decide +kernel
theorem yHH:teP chF 1 0=true:=by decide +kernel
theorem yHG:teP chF 1 1=true:=by decide +kernel
theorem yHF:teP chF 2 0=true:=by decide +kernel
theorem yHE:teP chF 2 1=true:=by decide +kernel
theorem yHB:teC chF=true:=by
 refine zob.2 λp C=>zob.2 λk D=>?_;have C:=zog.1 C;have D:=zog.1 D
 show teP chF p k=true
 match p,k,C,D with
 |0,0,_,_=>exact yHJ
 |0,1,_,_=>exact yHI
 |1,0,_,_=>exact yHH
 |1,1,_,_=>exact yHG
 |2,0,_,_=>exact yHF
 |2,1,_,_=>exact yHE
 |_+3,_,h,_=>exact absurd h zos
 |_,_+2,_,h=>exact absurd h zos
theorem zYF{I:SI}(h:zYG I):chI (zED I)=true:=zRY (c:=chF) yHC yHD yHA yHB h
def kvM(m:Mp):Pt:=qF (qF (scT m.2.x (xC m.1.y m.1.z)) (scT m.2.y (xC m.1.z m.1.x))) (scT m.2.z (xC m.1.x m.1.y))
theorem oE(m:Mp)(a b:Pt):xC (qV m a) (qV m b)=T3.mk (xO (xC m.1.y m.1.z) (xC a b)) (xO (xC m.1.z m.1.x) (xC a b)) (xO (xC m.1.x m.1.y) (xC a b)):=by
 unfold qV;generalize m.1.x=x;generalize m.1.y=y;generalize m.1.z=z;unfold xC xO;rw[gH];exact⟨by simp only;grind,by simp only;grind,by simp only;grind⟩
theorem zUP(m:Mp)(a Y:Pt):xO (qV m a) (T3.mk (xO (xC m.1.y m.1.z) Y) (xO (xC m.1.z m.1.x) Y) (xO (xC m.1.x m.1.y) Y))=qG m*xO a Y:=by
 unfold qV qG tB;generalize m.1.x=x;generalize m.1.y=y;generalize m.1.z=z;unfold xC xO;simp only;grind
theorem zYK(m:Mp)(a b c:Pt):tB (qV m a) (qV m b) (qV m c)=qG m*tB a b c:=by
 unfold tB;rw[oE,zUP]
theorem zT7(w a b c:Pt):tB (qF a w) (qF b w) (qF c w)=tB a b c+xO w (qF (qF (xC a b) (xC b c)) (xC c a)):=by
 unfold tB xO xC qF;simp only;grind
theorem yGG(m:Mp)(a b c:Pt):xO m.2 (qF (qF (xC (qV m a) (qV m b)) (xC (qV m b) (qV m c))) (xC (qV m c) (qV m a)))=xO (kvM m) (xC (kZ b a) (kZ c a)):=by
 rw[oE,oE,oE];have e:xC (kZ b a) (kZ c a)=qF (qF (xC a b) (xC b c)) (xC c a):=by
  unfold xC kZ qF;rw[gH];exact⟨by simp only;grind,by simp only;grind,by simp only;grind⟩
 rw[e];unfold kvM;generalize xC a b=A;generalize xC b c=B;generalize xC c a=C;generalize xC m.1.y m.1.z=X;generalize xC m.1.z m.1.x=Y;generalize xC m.1.x m.1.y=Z;unfold xO qF scT;simp only;grind
theorem yB7(m:Mp)(a b c:Pt):tB (qT m a) (qT m b) (qT m c)=qG m*tB a b c+xO (kvM m) (xC (kZ b a) (kZ c a)):=by
 unfold qT;rw[zT7,zYK,yGG]
theorem zZ1(m:Mp):qV m (kvM m)=scT (qG m) m.2:=by
 unfold qV kvM qG tB;generalize m.1.x=x;generalize m.1.y=y;generalize m.1.z=z;generalize m.2=w;unfold xC xO qF scT;rw[gH];exact⟨by simp only;grind,by simp only;grind,by simp only;grind⟩
theorem iJ(m:Mp)(a b:Pt):qV m (qF a b)=qF (qV m a) (qV m b):=by
 unfold qV qF xO;rw[gH];exact⟨by simp only;grind,by simp only;grind,by simp only;grind⟩
theorem dX(m:Mp)(q:Rat)(a:Pt):qV m (scT q a)=scT q (qV m a):=by
 unfold qV scT xO;rw[gH];exact⟨by simp only;grind,by simp only;grind,by simp only;grind⟩
end Bk
